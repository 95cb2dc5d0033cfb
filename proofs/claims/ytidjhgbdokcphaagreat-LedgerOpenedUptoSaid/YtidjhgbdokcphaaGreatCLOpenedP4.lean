/- Own work, some of it printed by program, texts that were built one by one and are laid one behind the other here: the calls of a log on a disk that may die: what they leave. | a ledger on a disk that may die: plain. | a ledger on a disk that may die: what its calls do, and what lies behind a crash: plain. | three operations that are ready in a region that draws its order. | package ledger: Cut, Install, Compact: walked. | parts of slices; a ledger that is being made. | package ledger: renew, Compact, Install: walked. | scripts of law 09: plain. | LedgerMarks: walked. | a formatted ledger, and what opens behind a crash: plain. | what a ledger tells, in memory: plain. | same, told, equal: walked. | pick, text, does; LedgerEpochs: walked. -/
import Derived.Test.YtidjhgbdokcphaaGreatCLOpenedP3
import Derived.Test.YtidjhgbdokcphaaGreatCLOpenedP0
set_option linter.unusedSimpArgs false
set_option linter.unusedVariables false
/- Own work: the calls of a log on a disk that may die: what they leave. -/

namespace Go.Proofs.YtidjhgbdokcphaaGreat
open Go

theorem Dur.re {δ δ0 : Dk} {area : Int} {L : Bs} (h : Dur δ δ0 area L) : Dur δ δ area L := ⟨rfl, fun _ _ => rfl, h.marks, h.here, h.olds⟩
theorem dur_clean {δ : Dk} {ω : Wl} (h : Kp δ ω) (ho : δ.old = []) : Dur δ δ ω.area (laidZ (ω.recs.take ω.synced.toNat)) :=
  ⟨rfl, fun _ _ => rfl, fun k _ => by rw [ho]; rfl, h.area.less (laid_pre _ _), fun i _ o g => by rw [ho] at g; cases g⟩
theorem next_dead {δ : Dk} {m : Mk} (hd : δ.dead = false) (hn : 2 ≤ δ.now.length) (hm : alook δ.old (m.count % 2) = none) (h : (nextZ δ m).2 ≠ 0) :
    (nextZ δ m).1.now = δ.now.set (m.count % 2).toNat m.sec ∧ ∀ k : Int, alook (nextZ δ m).1.old k = if k = m.count % 2 then some (δ.now.getD (m.count % 2).toNat []) else alook δ.old k := by
  have hh : δ.has (m.count % 2) = true := by simp [Dk.has]; omega
  have e : δ.write (m.count % 2) m.sec = (δ.put (m.count % 2) m.sec).act := by unfold Dk.write; rw [if_neg (by rw [hd]; decide), if_neg (by rw [hh]; simp [sec_len4])]
  have hold : ∀ k : Int, alook (δ.put (m.count % 2) m.sec).old k = if k = m.count % 2 then some (δ.now.getD (m.count % 2).toNat []) else alook δ.old k := by
    intro k
    rw [put_old]
    by_cases hk : k = m.count % 2
    · rw [if_pos hk, if_pos ⟨hm, hk⟩]
    · rw [if_neg hk, if_neg (fun g => hk g.2)]
  unfold nextZ at h ⊢
  rw [e] at h ⊢
  by_cases h1 : (δ.put (m.count % 2) m.sec).act.2 ≠ 0
  · rw [if_pos h1]; exact ⟨rfl, hold⟩
  · rw [if_neg h1] at h ⊢
    by_cases h2 : (δ.put (m.count % 2) m.sec).act.1.sync.2 ≠ 0
    · rw [if_pos h2]
      refine ⟨(sync_keeps _).1, fun k => ?_⟩
      have : (δ.put (m.count % 2) m.sec).act.1.sync.1.old = (δ.put (m.count % 2) m.sec).act.1.old := by
        unfold Dk.sync at h2 ⊢
        split
        · rfl
        · rename_i h3
          rw [if_neg h3] at h2
          split
          · rename_i h4; rw [if_pos h4] at h2; exact absurd rfl h2
          · rfl
      dsimp only
      rw [this]; exact hold k
    · rw [if_neg h2] at h; exact absurd rfl h
def Wl.sealed (ω : Wl) (area : Int) (l : List Bs) : Wl := { ω with recs := l, synced := l.length, area := area, count := ω.count + 1 }
theorem sealed_now (ω : Wl) (area : Int) (l : List Bs) : (ω.sealed area l).now = ω.mark area l ω.a ω.b := by
  unfold Wl.now Wl.sealed Wl.mark
  dsimp only
  rw [Int.toNat_natCast, List.take_length]
theorem seal_live {δ : Dk} {ω : Wl} {area : Int} {l : List Bs} (h : (dbt (sealZ δ ω area l)).2.2 ≠ 2) : (dbt (sealZ δ ω area l)).2 = (ω.sealed area l, 0) := by
  have h0 : (sealZ δ ω area l).2.2 = 0 := by
    rcases seal_err δ ω area l with h1 | h1
    · exact h1
    · rw [(dbt_err _).1] at h; exact absurd h1 h
  rw [dbt_of h0]
  unfold sealZ at h0 ⊢
  split
  · rename_i h1; rw [if_pos h1] at h0; cases h0
  · rename_i h1; rw [if_neg h1] at h0
    split
    · rename_i h2; rw [if_pos h2] at h0; cases h0
    · rfl
theorem seal_dead {δ δ1 : Dk} {ω : Wl} {N : Int} {area : Int} {l : List Bs} (h : Lv δ ω N) (hD : Dur δ1 δ ω.area (laidZ (ω.recs.take ω.synced.toNat))) (hd1 : δ1.dead = false) (hac : δ1.acts ≤ N + 1900000) (har : 0 ≤ area ∧ area ≤ 1) (hA : Area δ1 area (laidZ l)) (hl : ((laidZ l).length : Int) ≤ 64 * halfZ δ) (hL : ∀ s ∈ l, s.length ≤ 4000) (hc : ω.count ≠ 4294967295)
    (he : (dbt (sealZ δ1 ω area l)).2.2 = 2) (hok : (dbt (sealZ δ1 ω area l)).1.Ok) (how : List Int) :
    (Lv ((dbt (sealZ δ1 ω area l)).1.crash how) ω.syn (N + 2000000) ∧ openZ ((dbt (sealZ δ1 ω area l)).1.crash how) = some ω.syn) ∨ (Lv ((dbt (sealZ δ1 ω area l)).1.crash how) (ω.sealed area l) (N + 2000000) ∧ openZ ((dbt (sealZ δ1 ω area l)).1.crash how) = some (ω.sealed area l)) := by
  obtain ⟨b1, b2⟩ := dbt_err (sealZ δ1 ω area l)
  rw [b1] at he
  rw [b2] at hok ⊢
  have sk := sync_keeps δ1
  have nk := nextZ_keeps δ1.sync.1 (ω.mark area l ω.a ω.b)
  have hsz : 2 ≤ δ.now.length ∧ δ.now.length ≤ 32768 := h.well.size
  have hl0 := hD.len
  have hcnt := h.kp.cnt
  have hct := h.well.count
  unfold sealZ at he hok ⊢
  by_cases h1 : δ1.sync.2 ≠ 0
  · rw [if_pos h1] at hok ⊢
    exact .inl (crash_old h (hD.of sk.1 (sync_old δ1)) hok (by omega) how)
  · rw [if_neg h1] at he hok ⊢
    have h1' : δ1.sync.2 = 0 := by omega
    obtain ⟨-, q2, q3⟩ := calm_sync hd1 h1'
    by_cases h2 : (nextZ δ1.sync.1 (ω.mark area l ω.a ω.b)).2 ≠ 0
    · rw [if_pos h2] at hok ⊢
      obtain ⟨n1, n2⟩ := next_dead (m := ω.mark area l ω.a ω.b) q2 (by rw [sk.1]; omega) (by rw [q3]; rfl) h2
      have hDs : Dur δ1.sync.1 δ ω.area (laidZ (ω.recs.take ω.synced.toNat)) := hD.of sk.1 (.inr q3)
      have hA2 : Area δ1.sync.1 area (laidZ l) := by
        intro i hi
        have hh : halfZ δ1.sync.1 = halfZ δ1 := halfZ_of (by rw [sk.1])
        rw [hh] at hi ⊢
        rw [sk.1]; exact hA i hi
      refine crash_mark (δ1 := δ1.sync.1) (ω1 := ω.sealed area l) h hDs ⟨hDs.len, hDs.mark, hDs.marks, hA2, fun i _ o g => by rw [q3] at g; cases g⟩ hok (by show (nextZ δ1.sync.1 (ω.mark area l ω.a ω.b)).1.acts ≤ _; omega) ?_ ?_ rfl (by show ω.count + 1 ≤ _; omega) h.well.doubt rfl har h.kp.a h.kp.b hL hl how
      · rw [sealed_now]; exact n1
      · exact n2
    · rw [if_neg h2] at he; cases he
def Wl.marked (ω : Wl) (a b : Int) : Wl := { ω.syn with a := a, b := b, count := ω.count + 1 }
theorem marked_now {ω : Wl} (a b : Int) (h : 0 ≤ ω.synced ∧ ω.synced ≤ ω.recs.length) : (ω.marked a b).now = ω.mark ω.area (ω.recs.take ω.synced.toNat) a b := by
  have e := syn_recs h
  unfold Wl.now Wl.mark Wl.marked
  show (⟨ω.count + 1, ω.area, ((laidZ (ω.syn.recs.take ω.syn.synced.toNat)).length : Int), ω.synced, a, b⟩ : Mk) = ⟨ω.count + 1, ω.area, ((laidZ (ω.recs.take ω.synced.toNat)).length : Int), ((ω.recs.take ω.synced.toNat).length : Int), a, b⟩
  rw [e.1, show ((ω.recs.take ω.synced.toNat).length : Int) = ω.synced from e.2]
theorem setm_dead {δ : Dk} {ω : Wl} {N a b : Int} (h : Lv δ ω N) (ha : 0 ≤ a ∧ a ≤ 9223372036854775807) (hb : 0 ≤ b ∧ b ≤ 9223372036854775807) (hc : ω.count ≠ 4294967295) (he : (nextZ δ (ω.mark ω.area (ω.recs.take ω.synced.toNat) a b)).2 ≠ 0)
    (hok : (nextZ δ (ω.mark ω.area (ω.recs.take ω.synced.toNat) a b)).1.Ok) (how : List Int) :
    (Lv ((nextZ δ (ω.mark ω.area (ω.recs.take ω.synced.toNat) a b)).1.crash how) ω.syn (N + 2000000) ∧ openZ ((nextZ δ (ω.mark ω.area (ω.recs.take ω.synced.toNat) a b)).1.crash how) = some ω.syn) ∨
    (Lv ((nextZ δ (ω.mark ω.area (ω.recs.take ω.synced.toNat) a b)).1.crash how) (ω.marked a b) (N + 2000000) ∧ openZ ((nextZ δ (ω.mark ω.area (ω.recs.take ω.synced.toNat) a b)).1.crash how) = some (ω.marked a b)) := by
  have nk := nextZ_keeps δ (ω.mark ω.area (ω.recs.take ω.synced.toNat) a b)
  have hsz : 2 ≤ δ.now.length ∧ δ.now.length ≤ 32768 := h.well.size
  have hac : δ.acts ≤ N := h.well.acts
  have hct := h.well.count
  have hfit : ((laidZ ω.recs).length : Int) ≤ 64 * halfZ δ := h.well.fits
  have htl := laid_take_le ω.recs ω.synced.toNat
  have hms : alook δ.old ((ω.count + 1) % 2) = none := by
    have := h.dur.marks ((ω.count + 1) % 2).toNat (by omega)
    rw [show (((ω.count + 1) % 2).toNat : Int) = (ω.count + 1) % 2 by omega] at this
    exact this
  obtain ⟨n1, n2⟩ := next_dead (m := ω.mark ω.area (ω.recs.take ω.synced.toNat) a b) h.dead hsz.1 hms he
  refine crash_mark (δ1 := δ) (ω1 := ω.marked a b) h h.dur h.dur hok (by omega) ?_ n2 rfl (by show ω.count + 1 ≤ _; omega) rfl (syn_recs h.well.synced).2.symm h.well.area ha hb (fun s hs => h.kp.long s (List.mem_of_mem_take hs)) ?_ how
  · rw [marked_now a b h.well.synced]; exact n1
  · show ((laidZ (ω.recs.take ω.synced.toNat)).length : Int) ≤ _; omega
/-- What a call leaves: alive, or behind any crash. -/
structure Res (δ : Dk) (ω : Wl) (N : Int) (r : Dk × Wl × Int) (B : Sta × Bool) (k : Int) : Prop where
  live : r.2.2 ≠ 2 → Lv r.1 r.2.1 (N + 2000000)
  same : r.2.2 = 0 → B.2 = true → k ≠ 5 → sameZ r.2.1 B.1 = true
  dead : r.2.2 = 2 → r.1.Ok → ∀ how, ∃ ω', Lv (r.1.crash how) ω' (N + 2000000) ∧ openZ (r.1.crash how) = some ω' ∧ (sameZ ω' (toldZ ω false, ω.a, ω.b) = true ∨ (B.2 = true ∧ sameZ ω' B.1 = true))
theorem Lv.more {δ : Dk} {ω : Wl} {N M : Int} (h : Lv δ ω N) (hN : N ≤ M) : Lv δ ω M := ⟨h.dead, h.well.more hN, h.kp, h.dur⟩
theorem same_syn {ω : Wl} (hd : ω.doubt = false) (h : 0 ≤ ω.synced ∧ ω.synced ≤ ω.recs.length) : sameZ ω.syn (toldZ ω false, ω.a, ω.b) = true := by
  have e := (syn_recs h).2
  have e1 : toldZ ω false = ω.syn.recs := by unfold toldZ tl Wl.syn; rw [hd]; rfl
  have e2 : tl ω.syn = ω.syn.recs := rfl
  have e3 : ω.syn.synced = (ω.syn.recs.length : Int) := e.symm
  unfold sameZ
  rw [e1, e2]
  simp only [decide_true, Bool.true_and]
  rw [decide_eq_true e3]
  simp [Wl.syn]
theorem Res.of {δ : Dk} {ω : Wl} {N : Int} (h : Lv δ ω N) {e : Int} {B : Sta × Bool} {k : Int} (he : e ≠ 2) (hs : e = 0 → B.2 = true → k ≠ 5 → sameZ ω B.1 = true) : Res δ ω N (δ, ω, e) B k :=
  ⟨fun _ => h.more (by omega), hs, fun g => absurd g he⟩
/-- Alive, as on a disk that is not armed. -/
theorem live_of {δ δ' : Dk} {ω ω' : Wl} {N : Int} (hd : δ'.dead = false) (hw : Well δ'.calm ω' (N + 2000000)) (hk : Kp δ'.calm ω') (hD : δ'.old = [] ∨ (Dur δ' δ ω.area (laidZ (ω.recs.take ω.synced.toNat)) ∧ ω'.area = ω.area ∧ ω'.recs.take ω'.synced.toNat = ω.recs.take ω.synced.toNat)) : Lv δ' ω' (N + 2000000) := by
  have hk2 : Kp δ' ω' := hk.calm rfl
  refine ⟨hd, hw, hk2, ?_⟩
  rcases hD with h | ⟨h, e1, e2⟩
  · exact dur_clean hk2 h
  · rw [e1, e2]; exact h.re
theorem seal_res {δ δ1 : Dk} {ω : Wl} {N : Int} {area : Int} {l : List Bs} {B : Sta} {k : Int} (h : Lv δ ω N) (hD : Dur δ1 δ ω.area (laidZ (ω.recs.take ω.synced.toNat))) (hd1 : δ1.dead = false) (hac : δ1.acts ≤ N + 1900000) (har : 0 ≤ area ∧ area ≤ 1) (hA : Area δ1 area (laidZ l)) (hl : ((laidZ l).length : Int) ≤ 64 * halfZ δ) (hL : ∀ s ∈ l, s.length ≤ 4000) (hc : ω.count ≠ 4294967295)
    (hB : B = (l, ω.a, ω.b)) : Res δ ω N (dbt (sealZ δ1 ω area l)) (B, true) k := by
  subst hB
  have hsame : sameZ (ω.sealed area l) (l, ω.a, ω.b) = true := by
    unfold sameZ tl Wl.sealed
    simp [h.well.doubt]
  have hlen : δ1.now.length = δ.now.length := hD.len
  refine ⟨fun g => ?_, fun g _ _ => ?_, fun g hok how => ?_⟩
  · obtain ⟨q1, q2, q3, q4⟩ := calm_dseal hd1 g
    have hs := seal_live g
    have w := (well_seal (δ1 := δ1.calm) h.well hc har hl ⟨hd1, rfl⟩ hlen hac).2.1
    have kq := (kp_seal (δ := δ.calm) (δ1 := δ1.calm) (h.kp.calm rfl) h.well hc har hl ⟨hd1, rfl⟩ hlen hac (fun k hk => hD.mark k hk) hA hL).kp
    rw [q1] at w kq
    rw [hs] at kq ⊢
    exact live_of (δ := δ) (ω := ω) q2 w kq (.inl q3)
  · rw [seal_live (by rw [g]; decide)]; exact hsame
  · rcases seal_dead h hD hd1 hac har hA hl hL hc g hok how with ⟨q1, q2⟩ | ⟨q1, q2⟩
    · exact ⟨_, q1, q2, .inl (same_syn h.well.doubt h.well.synced)⟩
    · exact ⟨_, q1, q2, .inr ⟨rfl, hsame⟩⟩
theorem lay_live {δ : Dk} {ω : Wl} {N : Int} {a2 : Int} {all : Bs} {frm : Nat} (h : Lv δ ω N) (ha : 0 ≤ a2 ∧ a2 ≤ 1) (hl : (all.length : Int) ≤ 64 * halfZ δ) (hp : a2 = ω.area → laidZ (ω.recs.take ω.synced.toNat) <+: all) : Dur (layZ δ a2 all frm).1 δ ω.area (laidZ (ω.recs.take ω.synced.toNat)) :=
  Dur.lay _ _ h.dur h.well.area ha h.well.size.1 hl hp
theorem append_res {δ : Dk} {ω : Wl} {N : Int} (h : Lv δ ω N) (s : Bs) {B : Sta} : Res δ ω N (appendZ δ ω s) (B, false) 1 := by
  have hw := h.well
  have hdb := hw.doubt
  have hm := kp_append (h.kp.calm (δ' := δ.calm) rfl) hw s
  have hwl := (well_append hw s).1
  by_cases h1 : s.length > 4000
  · have e : appendZ δ ω s = (δ, ω, 33) := by unfold appendZ; rw [if_neg (by rw [hdb]; decide), if_pos h1]
    rw [e]; exact Res.of h (by decide) (fun g => absurd g (by decide))
  by_cases h2 : ¬ ((laidZ ω.recs).length : Int) + s.length + 6 ≤ 64 * halfZ δ
  · have e : appendZ δ ω s = (δ, ω, 30) := by unfold appendZ; rw [if_neg (by rw [hdb]; decide), if_neg h1, if_pos h2]
    rw [e]; exact Res.of h (by decide) (fun g => absurd g (by decide))
  have hlen : (laidZ ω.recs ++ recZ s).length = (laidZ ω.recs).length + s.length + 6 := by rw [List.length_append, recZ_len]; omega
  have hsz : 2 ≤ δ.now.length ∧ δ.now.length ≤ 32768 := hw.size
  have hac : δ.acts ≤ N := hw.acts
  have hh := half_le hsz
  have hDl : Dur (layZ δ ω.area (laidZ ω.recs ++ recZ s) (laidZ ω.recs).length).1 δ ω.area (laidZ (ω.recs.take ω.synced.toNat)) := lay_live h hw.area (by omega) (fun _ => (laid_pre _ _).trans (List.prefix_append _ _))
  have ak := layZ_keeps δ ω.area (laidZ ω.recs ++ recZ s) (laidZ ω.recs).length
  by_cases h3 : (layZ δ ω.area (laidZ ω.recs ++ recZ s) (laidZ ω.recs).length).2 = 0
  · have e : appendZ δ ω s = ((layZ δ ω.area (laidZ ω.recs ++ recZ s) (laidZ ω.recs).length).1, { ω with recs := ω.recs ++ [s] }, 0) := by
      unfold appendZ; rw [if_neg (by rw [hdb]; decide), if_neg h1, if_neg h2, if_neg (by rw [h3]; decide)]
    obtain ⟨q1, q2⟩ := calm_layZ h.dead h3
    have e2 : appendZ δ.calm ω s = ((layZ δ ω.area (laidZ ω.recs ++ recZ s) (laidZ ω.recs).length).1.calm, { ω with recs := ω.recs ++ [s] }, 0) := by
      unfold appendZ; rw [show halfZ δ.calm = halfZ δ from rfl, if_neg (by rw [hdb]; decide), if_neg h1, if_neg h2, q1, if_neg (show ¬ (0 : Int) ≠ 0 by decide)]
    rw [e2] at hm hwl
    rw [e]
    refine ⟨fun _ => live_of (δ := δ) (ω := ω) q2 hwl hm.kp (.inr ⟨hDl, rfl, ?_⟩), fun _ g => (by cases g), fun g => (by cases g)⟩
    show (ω.recs ++ [s]).take ω.synced.toNat = _
    exact List.take_append_of_le_length (by have := hw.synced; omega)
  · have h4 : (layZ δ ω.area (laidZ ω.recs ++ recZ s) (laidZ ω.recs).length).2 = 2 := by rcases layZ_err δ ω.area (laidZ ω.recs ++ recZ s) (laidZ ω.recs).length with g | g; exact absurd g h3; exact g
    have e : appendZ δ ω s = ((layZ δ ω.area (laidZ ω.recs ++ recZ s) (laidZ ω.recs).length).1, { ω with doubt := true }, 2) := by
      unfold appendZ; rw [if_neg (by rw [hdb]; decide), if_neg h1, if_neg h2, if_pos h3, h4]; rfl
    rw [e]
    refine ⟨fun g => absurd rfl g, fun g => (by cases g), fun _ hok how => ?_⟩
    obtain ⟨q1, q2⟩ := crash_old (M := N + 2000000) h hDl hok (by show (layZ δ ω.area (laidZ ω.recs ++ recZ s) (laidZ ω.recs).length).1.acts ≤ _; omega) how
    exact ⟨_, q1, q2, .inl (same_syn hdb hw.synced)⟩
theorem sync_res {δ : Dk} {ω : Wl} {N : Int} (h : Lv δ ω N) {k : Int} : Res δ ω N (syncZ δ ω) ((toldZ ω true, ω.a, ω.b), true) k := by
  have hdb := h.well.doubt
  have et : toldZ ω true = ω.recs := by unfold toldZ tl; rw [hdb]; rfl
  unfold syncZ
  rw [if_neg (by rw [hdb]; decide)]
  split
  · rename_i hs
    exact Res.of h (by decide) (fun _ _ _ => sameZ_self hs)
  · split
    · exact Res.of h (by decide) (fun g => absurd g (by decide))
    · rename_i hc
      exact seal_res h h.dur h.dead (by have : δ.acts ≤ N := h.well.acts; omega) h.well.area h.kp.area h.well.fits h.kp.long hc (by rw [et])
theorem cut_res {δ : Dk} {ω : Wl} {N : Int} (h : Lv δ ω N) (n : Int) {k : Int} : Res δ ω N (cutZ δ ω n) (if n < 0 ∨ n > (tl ω).length then ((toldZ ω false, ω.a, ω.b), false) else (((tl ω).take n.toNat, ω.a, ω.b), true)) k := by
  have hdb := h.well.doubt
  have et : tl ω = ω.recs := by unfold tl; rw [hdb]; rfl
  rw [et]
  unfold cutZ
  rw [if_neg (by rw [hdb]; decide)]
  split
  · exact Res.of h (by decide) (fun g => absurd g (by decide))
  · split
    · exact Res.of h (by decide) (fun g => absurd g (by decide))
    · rename_i hc
      have h1 := laid_take_le ω.recs n.toNat
      have h2 : ((laidZ ω.recs).length : Int) ≤ 64 * halfZ δ := h.well.fits
      exact seal_res h h.dur h.dead (by have : δ.acts ≤ N := h.well.acts; omega) h.well.area (h.kp.area.less (laid_pre _ _)) (by omega) (fun s hs => h.kp.long s (List.mem_of_mem_take hs)) hc rfl
theorem renew_res {δ : Dk} {ω : Wl} {N : Int} (h : Lv δ ω N) (l : List Bs) {k : Int} : Res δ ω N (renewZ δ ω l) ((l, ω.a, ω.b), true) k := by
  have hdb := h.well.doubt
  unfold renewZ
  rw [if_neg (by rw [hdb]; decide)]
  split
  · exact Res.of h (by decide) (fun g => absurd g (by decide))
  · split
    · exact Res.of h (by decide) (fun g => absurd g (by decide))
    · split
      · exact Res.of h (by decide) (fun g => absurd g (by decide))
      · rename_i h1 h2 h3
        have hl : ((laidZ l).length : Int) ≤ 64 * halfZ δ := by omega
        have ha : 0 ≤ 1 - ω.area ∧ 1 - ω.area ≤ 1 := by have := h.well.area; omega
        have hsz : 2 ≤ δ.now.length ∧ δ.now.length ≤ 32768 := h.well.size
        have hac : δ.acts ≤ N := h.well.acts
        have hh := half_le hsz
        have ak := layZ_keeps δ (1 - ω.area) (laidZ l) 0
        have hDl : Dur (layZ δ (1 - ω.area) (laidZ l) 0).1 δ ω.area (laidZ (ω.recs.take ω.synced.toNat)) := lay_live h ha hl (fun g => by have := h.well.area; omega)
        split
        · rename_i h4
          have h5 : (layZ δ (1 - ω.area) (laidZ l) 0).2 = 2 := by rcases layZ_err δ (1 - ω.area) (laidZ l) 0 with g | g; exact absurd g h4; exact g
          rw [h5]
          refine ⟨fun g => absurd rfl g, fun g => (by cases g), fun _ hok how => ?_⟩
          obtain ⟨q1, q2⟩ := crash_old (M := N + 2000000) h hDl hok (by show (layZ δ (1 - ω.area) (laidZ l) 0).1.acts ≤ _; omega) how
          exact ⟨_, q1, q2, .inl (same_syn hdb h.well.synced)⟩
        · rename_i h4
          have h5 : (layZ δ (1 - ω.area) (laidZ l) 0).2 = 0 := by omega
          obtain ⟨q1, q2⟩ := calm_layZ h.dead h5
          have hAf : Area (layZ δ (1 - ω.area) (laidZ l) 0).1 (1 - ω.area) (laidZ l) := by
            have g := area_fresh (δ := δ.calm) ⟨h.dead, rfl⟩ ha hsz.1 hl
            rw [q1] at g; exact g
          refine seal_res h hDl q2 (by omega) ha hAf hl (fun s hs => ?_) (by omega) rfl
          have h1' : l.any (fun s => decide (s.length > 4000)) = false := by simpa using h1
          have := List.any_eq_false.1 h1' s hs
          simpa using this
theorem setm_res {δ : Dk} {ω : Wl} {N : Int} (h : Lv δ ω N) {a b : Int} (ha : a ≤ 9223372036854775807) (hb : b ≤ 9223372036854775807) : Res δ ω N (setmZ δ ω a b) ((toldZ ω false, a, b), decide (a ≥ 0) && decide (b ≥ 0)) 5 := by
  have hdb := h.well.doubt
  have hw := kept_setm h.well a b
  have hk := kp_setm (h.kp.calm (δ' := δ.calm) rfl) h.well ha hb
  unfold setmZ at hw hk ⊢
  rw [if_neg (by rw [hdb]; decide)] at hw hk ⊢
  by_cases h1 : a < 0 ∨ b < 0
  · rw [if_pos h1]
    exact Res.of h (by decide) (fun g => absurd g (by decide))
  rw [if_neg h1] at hw hk ⊢
  by_cases h2 : ω.count = 4294967295
  · rw [if_pos h2]; exact Res.of h (by decide) (fun g => absurd g (by decide))
  rw [if_neg h2] at hw hk ⊢
  by_cases h3 : (nextZ δ (ω.mark ω.area (ω.recs.take ω.synced.toNat) a b)).2 = 0
  · obtain ⟨q1, q2, q3⟩ := calm_next h.dead h3
    rw [q1, if_neg (show ¬ (0 : Int) ≠ 0 by decide)] at hw hk
    rw [if_neg (by rw [h3]; decide)]
    exact ⟨fun _ => live_of (δ := δ) (ω := ω) q2 hw.well hk.kp (.inl q3), fun _ _ g => absurd rfl g, fun g => (by cases g)⟩
  · have h4 : (nextZ δ (ω.mark ω.area (ω.recs.take ω.synced.toNat) a b)).2 = 2 := by rcases (nextZ_keeps δ (ω.mark ω.area (ω.recs.take ω.synced.toNat) a b)).2.2 with g | g; exact absurd g h3; exact g
    rw [if_pos h3, h4]
    refine ⟨fun g => absurd rfl g, fun g => (by cases g), fun _ hok how => ?_⟩
    rcases setm_dead h ⟨by omega, ha⟩ ⟨by omega, hb⟩ h2 h3 hok how with ⟨q1, q2⟩ | ⟨q1, q2⟩
    · exact ⟨_, q1, q2, .inl (same_syn hdb h.well.synced)⟩
    · refine ⟨_, q1, q2, .inr ⟨by simp; omega, ?_⟩⟩
      have e1 : toldZ ω false = ω.syn.recs := by unfold toldZ tl Wl.syn; rw [hdb]; rfl
      have e2 := (syn_recs h.well.synced).2
      have e3 : (ω.marked a b).synced = ((ω.marked a b).recs.length : Int) := e2.symm
      unfold sameZ
      rw [e1, decide_eq_true e3]
      simp [Wl.marked, tl, Wl.syn]
theorem Lv.i {δ : Dk} {ω : Wl} {N : Int} (h : Lv δ ω N) (hN : N ≤ 1000000000000) : WlI δ ω := by
  have g := h.well.i hN
  exact ⟨g.size, g.acts, g.area, g.count, g.synced, g.fits⟩
theorem lv_new {n : Int} (h : 16 ≤ n ∧ n ≤ 32768) : Lv (formatZ (Dk.new n)).1 newW 3 := by
  obtain ⟨-, hW, -⟩ := format_well h
  have hK := kp_new h
  have ho : (formatZ (Dk.new n)).1.old = [] := by
    have hl : (Dk.new n).now.length = n.toNat := by simp [Dk.new]
    obtain ⟨a1, a2, a3⟩ := al_write (new_al n) (n := 0) (s := zs) ⟨by omega, by omega⟩ rfl
    have l1 : ((Dk.new n).write 0 zs).1.now.length = n.toNat := by rw [a3, List.length_set, hl]
    obtain ⟨b1, b2, b3⟩ := al_write a2 (n := 1) (s := mark1.sec) ⟨by omega, by omega⟩ (sec_len4 _)
    obtain ⟨c1, c2, c3⟩ := al_sync b2
    have e : formatZ (Dk.new n) = ((fmtZ (Dk.new n) 3).1, some newW) := by
      unfold formatZ
      rw [if_neg (by show ¬ ((Dk.new n).write 0 zs).2 ≠ 0; rw [a1]; decide), if_neg (by show ¬ (((Dk.new n).write 0 zs).1.write 1 mark1.sec).2 ≠ 0; rw [b1]; decide), if_neg (by show ¬ ((((Dk.new n).write 0 zs).1.write 1 mark1.sec).1.sync).2 ≠ 0; rw [c1]; decide)]
    rw [e]
    exact (calm_sync b2.dead c1).2.2
  have hc : (formatZ (Dk.new n)).1.calm = (formatZ (Dk.new n)).1 := by
    have hl := hW.al.left
    generalize (formatZ (Dk.new n)).1 = σ at hl
    obtain ⟨q1, q2, q3, l, q5⟩ := σ
    have : l = 0 := hl
    subst this; rfl
  exact ⟨hW.al.dead, by rw [hc]; exact hW, hK, dur_clean hK ho⟩
end Go.Proofs.YtidjhgbdokcphaaGreat

/- Own work: a ledger on a disk that may die: plain. -/
namespace Go.Proofs.YtidjhgbdokcphaaGreat
open Go

theorem calm_append {δ : Dk} {ω : Wl} {s : Bs} (hd : δ.dead = false) (hdb : ω.doubt = false) (h : (appendZ δ ω s).2.2 ≠ 2) : appendZ δ.calm ω s = ((appendZ δ ω s).1.calm, (appendZ δ ω s).2) := by
  by_cases h1 : s.length > 4000
  · have e : ∀ δ', appendZ δ' ω s = (δ', ω, 33) := fun δ' => by unfold appendZ; rw [if_neg (by rw [hdb]; decide), if_pos h1]
    rw [e, e]
  by_cases h2 : ¬ ((laidZ ω.recs).length : Int) + s.length + 6 ≤ 64 * halfZ δ
  · have e : appendZ δ ω s = (δ, ω, 30) := by unfold appendZ; rw [if_neg (by rw [hdb]; decide), if_neg h1, if_pos h2]
    have e2 : appendZ δ.calm ω s = (δ.calm, ω, 30) := by unfold appendZ; rw [show halfZ δ.calm = halfZ δ from rfl, if_neg (by rw [hdb]; decide), if_neg h1, if_pos h2]
    rw [e, e2]
  by_cases h3 : (layZ δ ω.area (laidZ ω.recs ++ recZ s) (laidZ ω.recs).length).2 = 0
  · have e : appendZ δ ω s = ((layZ δ ω.area (laidZ ω.recs ++ recZ s) (laidZ ω.recs).length).1, { ω with recs := ω.recs ++ [s] }, 0) := by
      unfold appendZ; rw [if_neg (by rw [hdb]; decide), if_neg h1, if_neg h2, if_neg (by rw [h3]; decide)]
    obtain ⟨q1, q2⟩ := calm_layZ hd h3
    have e2 : appendZ δ.calm ω s = ((layZ δ ω.area (laidZ ω.recs ++ recZ s) (laidZ ω.recs).length).1.calm, { ω with recs := ω.recs ++ [s] }, 0) := by
      unfold appendZ; rw [show halfZ δ.calm = halfZ δ from rfl, if_neg (by rw [hdb]; decide), if_neg h1, if_neg h2, q1, if_neg (show ¬ (0 : Int) ≠ 0 by decide)]
    rw [e, e2]
  · have h4 : (layZ δ ω.area (laidZ ω.recs ++ recZ s) (laidZ ω.recs).length).2 = 2 := by rcases layZ_err δ ω.area (laidZ ω.recs ++ recZ s) (laidZ ω.recs).length with g | g; exact absurd g h3; exact g
    have e : appendZ δ ω s = ((layZ δ ω.area (laidZ ω.recs ++ recZ s) (laidZ ω.recs).length).1, { ω with doubt := true }, 2) := by
      unfold appendZ; rw [if_neg (by rw [hdb]; decide), if_neg h1, if_neg h2, if_pos h3, h4]; rfl
    rw [e] at h; exact absurd rfl h
theorem calm_syncZ {δ : Dk} {ω : Wl} (hd : δ.dead = false) (hdb : ω.doubt = false) (h : (syncZ δ ω).2.2 ≠ 2) : syncZ δ.calm ω = ((syncZ δ ω).1.calm, (syncZ δ ω).2) := by
  by_cases h1 : ω.synced = ω.recs.length
  · have e : ∀ δ', syncZ δ' ω = (δ', ω, 0) := fun δ' => by unfold syncZ; rw [if_neg (by rw [hdb]; decide), if_pos h1]
    rw [e, e]
  by_cases h2 : ω.count = 4294967295
  · have e : ∀ δ', syncZ δ' ω = (δ', ω, 30) := fun δ' => by unfold syncZ; rw [if_neg (by rw [hdb]; decide), if_neg h1, if_pos h2]
    rw [e, e]
  have e : ∀ δ', syncZ δ' ω = dbt (sealZ δ' ω ω.area ω.recs) := fun δ' => by unfold syncZ; rw [if_neg (by rw [hdb]; decide), if_neg h1, if_neg h2]
  rw [e] at h
  rw [e, e]; exact (calm_dseal hd h).1
theorem calm_cutZ {δ : Dk} {ω : Wl} {n : Int} (hd : δ.dead = false) (hdb : ω.doubt = false) (h : (cutZ δ ω n).2.2 ≠ 2) : cutZ δ.calm ω n = ((cutZ δ ω n).1.calm, (cutZ δ ω n).2) := by
  by_cases h1 : n < 0 ∨ n > ω.recs.length
  · have e : ∀ δ', cutZ δ' ω n = (δ', ω, 32) := fun δ' => by unfold cutZ; rw [if_neg (by rw [hdb]; decide), if_pos h1]
    rw [e, e]
  by_cases h2 : ω.count = 4294967295
  · have e : ∀ δ', cutZ δ' ω n = (δ', ω, 30) := fun δ' => by unfold cutZ; rw [if_neg (by rw [hdb]; decide), if_neg h1, if_pos h2]
    rw [e, e]
  have e : ∀ δ', cutZ δ' ω n = dbt (sealZ δ' ω ω.area (ω.recs.take n.toNat)) := fun δ' => by unfold cutZ; rw [if_neg (by rw [hdb]; decide), if_neg h1, if_neg h2]
  rw [e] at h
  rw [e, e]; exact (calm_dseal hd h).1
theorem calm_renewZ {δ : Dk} {ω : Wl} {l : List Bs} (hd : δ.dead = false) (hdb : ω.doubt = false) (h : (renewZ δ ω l).2.2 ≠ 2) : renewZ δ.calm ω l = ((renewZ δ ω l).1.calm, (renewZ δ ω l).2) := by
  by_cases h1 : l.any (fun s => decide (s.length > 4000)) = true
  · have e : ∀ δ', renewZ δ' ω l = (δ', ω, 33) := fun δ' => by unfold renewZ; rw [if_neg (by rw [hdb]; decide), if_pos h1]
    rw [e, e]
  by_cases h2 : ¬ ((l.length : Int) * 6 ≤ 64 * halfZ δ) ∨ ω.count = 4294967295
  · have e : ∀ δ', halfZ δ' = halfZ δ → renewZ δ' ω l = (δ', ω, 30) := fun δ' hh => by unfold renewZ; rw [hh, if_neg (by rw [hdb]; decide), if_neg h1, if_pos h2]
    rw [e δ rfl, e δ.calm rfl]
  by_cases h3 : ¬ ((laidZ l).length : Int) ≤ 64 * halfZ δ
  · have e : ∀ δ', halfZ δ' = halfZ δ → renewZ δ' ω l = (δ', ω, 30) := fun δ' hh => by unfold renewZ; rw [hh, if_neg (by rw [hdb]; decide), if_neg h1, if_neg h2, if_pos h3]
    rw [e δ rfl, e δ.calm rfl]
  have e : ∀ δ', halfZ δ' = halfZ δ → renewZ δ' ω l = if (layZ δ' (1 - ω.area) (laidZ l) 0).2 ≠ 0 then dbt ((layZ δ' (1 - ω.area) (laidZ l) 0).1, ω, (layZ δ' (1 - ω.area) (laidZ l) 0).2) else dbt (sealZ (layZ δ' (1 - ω.area) (laidZ l) 0).1 ω (1 - ω.area) l) := fun δ' hh => by
    unfold renewZ; rw [hh, if_neg (by rw [hdb]; decide), if_neg h1, if_neg h2, if_neg h3]
  rw [e δ rfl] at h
  rw [e δ rfl, e δ.calm rfl]
  by_cases h4 : (layZ δ (1 - ω.area) (laidZ l) 0).2 = 0
  · obtain ⟨q1, q2⟩ := calm_layZ hd h4
    simp only [h4, ne_eq, not_true_eq_false, if_false] at h
    simp only [q1, h4, ne_eq, not_true_eq_false, if_false]
    exact (calm_dseal q2 h).1
  · rw [if_pos h4, (dbt_err _).1] at h
    rcases layZ_err δ (1 - ω.area) (laidZ l) 0 with g | g
    · exact absurd g h4
    · exact absurd g h
theorem next_err (δ : Dk) (m : Mk) : (nextZ δ m).2 = 0 ∨ (nextZ δ m).2 = 2 := by
  unfold nextZ
  split
  · exact .inr rfl
  · split
    · exact .inr rfl
    · exact .inl rfl
theorem calm_setmZ {δ : Dk} {ω : Wl} {a b : Int} (hd : δ.dead = false) (hdb : ω.doubt = false) (h : (setmZ δ ω a b).2.2 ≠ 2) : setmZ δ.calm ω a b = ((setmZ δ ω a b).1.calm, (setmZ δ ω a b).2) := by
  by_cases h1 : a < 0 ∨ b < 0
  · have e : ∀ δ', setmZ δ' ω a b = (δ', ω, 1) := fun δ' => by unfold setmZ; rw [if_neg (by rw [hdb]; decide), if_pos h1]
    rw [e, e]
  by_cases h2 : ω.count = 4294967295
  · have e : ∀ δ', setmZ δ' ω a b = (δ', ω, 30) := fun δ' => by unfold setmZ; rw [if_neg (by rw [hdb]; decide), if_neg h1, if_pos h2]
    rw [e, e]
  have e : ∀ δ', setmZ δ' ω a b = if (nextZ δ' (ω.mark ω.area (ω.recs.take ω.synced.toNat) a b)).2 ≠ 0 then dbt ((nextZ δ' (ω.mark ω.area (ω.recs.take ω.synced.toNat) a b)).1, ω, (nextZ δ' (ω.mark ω.area (ω.recs.take ω.synced.toNat) a b)).2) else ((nextZ δ' (ω.mark ω.area (ω.recs.take ω.synced.toNat) a b)).1, { ω with a := a, b := b, count := ω.count + 1 }, 0) := fun δ' => by
    unfold setmZ; rw [if_neg (by rw [hdb]; decide), if_neg h1, if_neg h2]
  rw [e] at h
  rw [e, e]
  by_cases h4 : (nextZ δ (ω.mark ω.area (ω.recs.take ω.synced.toNat) a b)).2 = 0
  · obtain ⟨q1, -⟩ := calm_next hd h4
    simp only [q1, h4, ne_eq, not_true_eq_false, if_false]
  · rw [if_pos h4, (dbt_err _).1] at h
    rcases next_err δ (ω.mark ω.area (ω.recs.take ω.synced.toNat) a b) with g | g
    · exact absurd g h4
    · exact absurd g h
end Go.Proofs.YtidjhgbdokcphaaGreat

/- Own work: a ledger on a disk that may die: what its calls do, and what lies behind a crash: plain. -/

namespace Go.Proofs.YtidjhgbdokcphaaGreat
open Go

def Ld.calm (s : Ld) : Ld := ⟨s.δ.calm, s.ω, s.Λ⟩
theorem metE_two {e : Int} : metE e = 2 ↔ e = 2 := by unfold metE; split <;> omega
/-- A call's end: the log's answer, and what becomes of the ledger. -/
def endL (Λ : Lg) (f : Lg → Lg) (r : Dk × Wl × Int) : Ld × Int := if (metL Λ r).2 = 0 then (⟨r.1, r.2.1, f (metL Λ r).1.Λ⟩, 0) else metL Λ r
theorem endL_calm (Λ : Lg) (f : Lg → Lg) (r : Dk × Wl × Int) : endL Λ f (r.1.calm, r.2) = ((endL Λ f r).1.calm, (endL Λ f r).2) := by
  unfold endL
  by_cases h : metE r.2.2 = 0
  · rw [if_pos (show (metL Λ (r.1.calm, r.2)).2 = 0 from h), if_pos (show (metL Λ r).2 = 0 from h)]; rfl
  · rw [if_neg (show ¬ (metL Λ (r.1.calm, r.2)).2 = 0 from h), if_neg (show ¬ (metL Λ r).2 = 0 from h)]; rfl
theorem endL_err (Λ : Lg) (f : Lg → Lg) (r : Dk × Wl × Int) : (endL Λ f r).2 = metE r.2.2 ∧ (endL Λ f r).1.δ = r.1 ∧ (endL Λ f r).1.ω = r.2.1 := by
  unfold endL
  by_cases h : metE r.2.2 = 0
  · rw [if_pos (show (metL Λ r).2 = 0 from h)]; exact ⟨h.symm, rfl, rfl⟩
  · rw [if_neg (show ¬ (metL Λ r).2 = 0 from h)]; exact ⟨rfl, rfl, rfl⟩
theorem endL_ne {Λ : Lg} {f : Lg → Lg} {r : Dk × Wl × Int} (h : (endL Λ f r).2 ≠ 2) : r.2.2 ≠ 2 := by
  intro g; rw [(endL_err Λ f r).1, g] at h; exact h rfl
theorem app_end (δ : Dk) (ω : Wl) (Λ : Lg) (e : En) : (∃ z, (∀ δ', halfZ δ' = halfZ δ → lgAppend ⟨δ', ω, Λ⟩ e = (⟨δ', ω, Λ⟩, z)) ∧ z ≠ 0 ∧ (z = 2 → Λ.doubt = true)) ∨ (∀ δ', halfZ δ' = halfZ δ → lgAppend ⟨δ', ω, Λ⟩ e = endL Λ (fun L => L.keep (enB e) e.zx) (appendZ δ' ω (enB e))) := by
  by_cases h1 : Λ.doubt = true
  · exact .inl ⟨2, fun δ' _ => by unfold lgAppend; rw [if_pos h1], by decide, fun _ => h1⟩
  by_cases h2 : fitsE e = false
  · exact .inl ⟨1, fun δ' _ => by unfold lgAppend; rw [if_neg h1, if_pos h2], by decide, fun g => absurd g (by decide)⟩
  by_cases h3 : e.zx ≤ lastZ Λ
  · exact .inl ⟨81, fun δ' _ => by unfold lgAppend; rw [if_neg h1, if_neg h2, if_pos h3], by decide, fun g => absurd g (by decide)⟩
  by_cases h4 : Λ.ents.length = 200 ∨ ((enB e).length : Int) > roomZ δ ω
  · exact .inl ⟨83, fun δ' hh => by unfold lgAppend; rw [if_neg h1, if_neg h2, if_neg h3, if_pos (by show Λ.ents.length = 200 ∨ ((enB e).length : Int) > roomZ δ' ω; rw [show roomZ δ' ω = roomZ δ ω by unfold roomZ; rw [hh]]; exact h4)], by decide, fun g => absurd g (by decide)⟩
  · exact .inr fun δ' hh => by unfold lgAppend; rw [if_neg h1, if_neg h2, if_neg h3, if_neg (by show ¬ (Λ.ents.length = 200 ∨ ((enB e).length : Int) > roomZ δ' ω); rw [show roomZ δ' ω = roomZ δ ω by unfold roomZ; rw [hh]]; exact h4)]; rfl
theorem sync_end (ω : Wl) (Λ : Lg) (h1 : Λ.doubt = false) (δ' : Dk) : lgSync ⟨δ', ω, Λ⟩ = endL Λ id (syncZ δ' ω) := by
  unfold lgSync; rw [if_neg (by rw [h1]; decide)]
  unfold endL
  by_cases h : metE (syncZ δ' ω).2.2 = 0
  · rw [if_pos (show (metL Λ (syncZ δ' ω)).2 = 0 from h), ← h]; rfl
  · rw [if_neg (show ¬ (metL Λ (syncZ δ' ω)).2 = 0 from h)]
theorem acc_end (ω : Wl) (Λ : Lg) (n : Int) : (∃ z, (∀ δ', lgAccept ⟨δ', ω, Λ⟩ n = (⟨δ', ω, Λ⟩, z)) ∧ (z = 2 → Λ.doubt = true)) ∨ (Λ.acc < n ∧ n ≤ 1073741824 ∧ ∀ δ', lgAccept ⟨δ', ω, Λ⟩ n = endL Λ (fun L => L.setAcc n) (setmZ δ' ω n Λ.cur)) := by
  by_cases h1 : Λ.doubt = true
  · exact .inl ⟨2, fun δ' => by unfold lgAccept; rw [if_pos h1], fun _ => h1⟩
  by_cases h2 : n < Λ.acc ∨ n > 1073741824
  · exact .inl ⟨82, fun δ' => by unfold lgAccept; rw [if_neg h1, if_pos h2], fun g => absurd g (by decide)⟩
  by_cases h3 : n = Λ.acc
  · exact .inl ⟨0, fun δ' => by unfold lgAccept; rw [if_neg h1, if_neg h2, if_pos h3], fun g => absurd g (by decide)⟩
  · exact .inr ⟨by omega, by omega, fun δ' => by unfold lgAccept; rw [if_neg h1, if_neg h2, if_neg h3]; rfl⟩
theorem ado_end (ω : Wl) (Λ : Lg) (n : Int) (δ' : Dk) : lgAdopt2 ⟨δ', ω, Λ⟩ n = endL Λ (fun L => L.setCur n) (setmZ δ' ω Λ.acc n) := rfl
def cutL (Λ : Lg) (n : Nat) : Lg := ⟨Λ.acc, Λ.cur, Λ.base, Λ.snap, Λ.ents.take n, Λ.zxs.take n, Λ.doubt⟩
theorem cut_end (ω : Wl) (Λ : Lg) (n : Nat) (δ' : Dk) : lgCut2 ⟨δ', ω, Λ⟩ n = endL Λ (fun _ => cutL Λ n) (cutZ δ' ω (((headL Λ.base Λ.snap).length + n : Nat) : Int)) := rfl
def newL (Λ : Lg) (base : Int) (snap : Bs) (es : List Bs) (zs : List Int) : Lg := ⟨Λ.acc, Λ.cur, base, snap, es, zs, Λ.doubt⟩
theorem ren_end (ω : Wl) (Λ : Lg) {base : Int} {snap : Bs} {es : List Bs} {zs : List Int} (h : ¬ es.length > 200) (δ' : Dk) : lgRenew ⟨δ', ω, Λ⟩ base snap es zs = endL Λ (fun _ => newL Λ base snap es zs) (renewZ δ' ω (headL base snap ++ es)) := by
  unfold lgRenew; rw [if_neg h]; rfl
/-! ### What lasts -/
def Ld.kept (s : Ld) : Nat := (s.ω.synced - (headL s.Λ.base s.Λ.snap).length).toNat
def Ld.syn (s : Ld) : Lg := ⟨s.Λ.acc, s.Λ.cur, s.Λ.base, s.Λ.snap, s.Λ.ents.take s.kept, s.Λ.zxs.take s.kept, false⟩
structure LLv (s : Ld) (N : Int) : Prop where
  lv : Lv s.δ s.ω N
  lw : LWell s.calm N
  head : ((headL s.Λ.base s.Λ.snap).length : Int) ≤ s.ω.synced
theorem LLv.more {s : Ld} {N M : Int} (h : LLv s N) (hN : N ≤ M) : LLv s M := ⟨h.lv.more hN, h.lw.more hN, h.head⟩
theorem LgW.cut {Λ : Lg} (h : LgW Λ) (k : Nat) (d : Bool) : LgW ⟨Λ.acc, Λ.cur, Λ.base, Λ.snap, Λ.ents.take k, Λ.zxs.take k, d⟩ :=
  ⟨by have := h.few; show (Λ.ents.take k).length ≤ 200; rw [List.length_take]; omega, fun x hx => h.each x (List.mem_of_mem_take hx), h.base, h.snap, h.rows.take k, h.eps⟩
theorem syn_W {s : Ld} {N : Int} (h : LLv s N) : LgW s.syn := h.lw.w.cut s.kept false
theorem syn_rows {s : Ld} {N : Int} (h : LLv s N) : s.ω.recs.take s.ω.synced.toNat = headL s.syn.base s.syn.snap ++ s.syn.ents := by
  have hr : s.ω.recs = headL s.Λ.base s.Λ.snap ++ s.Λ.ents := h.lw.recs
  have := h.head
  rw [hr, List.take_append, List.take_of_length_le (by omega)]
  unfold Ld.syn Ld.kept; dsimp only
  congr 2; omega
theorem syn_full {s : Ld} {N : Int} (h : LLv s N) (hs : s.ω.synced = s.ω.recs.length) : s.syn = s.Λ := by
  have hr : s.ω.recs = headL s.Λ.base s.Λ.snap ++ s.Λ.ents := h.lw.recs
  have hl := h.lw.w.rows.len
  have hk : s.kept = s.Λ.ents.length := by unfold Ld.kept; rw [hs, hr, List.length_append]; omega
  have hd : s.Λ.doubt = false := h.lw.live
  unfold Ld.syn
  rw [hk, List.take_of_length_le (Nat.le_refl _), List.take_of_length_le (show s.Λ.zxs.length ≤ _ by rw [show s.Λ.zxs.length = s.Λ.ents.length from hl]; exact Nat.le_refl _), ← hd]
theorem sameZ_eq {ω : Wl} {l : List Bs} {a b : Int} (h : sameZ ω (l, a, b) = true) (hd : ω.doubt = false) : ω.recs = l ∧ ω.a = a ∧ ω.b = b ∧ ω.synced = ω.recs.length := by
  unfold sameZ tl at h
  rw [hd] at h
  simp only [Bool.and_eq_true, decide_eq_true_eq, Bool.false_eq_true, if_false] at h
  exact ⟨h.1.1.1.symm, h.1.1.2.symm, h.1.2.symm, h.2⟩
/-- A log that was opened, with a ledger's records: it is that ledger's. -/
structure Back (σ : Dk) (N : Int) (Λ' : Lg) : Prop where
  open_ : ∃ ω', openZ σ = some ω' ∧ openLZ ω' = some Λ' ∧ LLv ⟨σ, ω', Λ'⟩ N ∧ ω'.synced = ω'.recs.length
theorem open_of {σ : Dk} {ω' : Wl} {N : Int} {Λ' : Lg} (hL : Lv σ ω' N) (ho : openZ σ = some ω') (hs : sameZ ω' (headL Λ'.base Λ'.snap ++ Λ'.ents, Λ'.acc, Λ'.cur) = true) (hw : LgW Λ') (hd : Λ'.doubt = false) : Back σ N Λ' := by
  obtain ⟨h1, h2, h3, h4⟩ := sameZ_eq hs hL.well.doubt
  refine ⟨ω', ho, ?_, ⟨hL, ⟨hL.well, hw, hd, h1, h2, h3⟩, ?_⟩, h4⟩
  · unfold openLZ
    have := hw.eps
    rw [if_neg (by rw [h2, h3]; omega), h1, h2, h3]
    exact lparse_back hw hd
  · show ((headL Λ'.base Λ'.snap).length : Int) ≤ ω'.synced
    rw [h4, h1, List.length_append]; omega
theorem told_syn {s : Ld} {N : Int} (h : LLv s N) : toldZ s.ω false = headL s.syn.base s.syn.snap ++ s.syn.ents := by
  rw [← syn_rows h]
  unfold toldZ tl
  rw [show s.ω.doubt = false from h.lw.well.doubt]; rfl
theorem back_syn {s : Ld} {N M : Int} (h : LLv s N) {σ : Dk} {ω' : Wl} (hL : Lv σ ω' M) (ho : openZ σ = some ω') (hs : sameZ ω' (toldZ s.ω false, s.ω.a, s.ω.b) = true) : Back σ M s.syn := by
  rw [told_syn h, show s.ω.a = s.syn.acc from h.lw.a, show s.ω.b = s.syn.cur from h.lw.b] at hs
  exact open_of hL ho hs (syn_W h) rfl
/-- What a call leaves, and what lies behind a crash where it died. -/
structure LRes (s : Ld) (N : Int) (r : Ld × Int) (rc : Ld × Int) (Q : Lg → Prop) : Prop where
  live : r.2 ≠ 2 → LLv r.1 (N + 4000000) ∧ rc = (r.1.calm, r.2)
  dead : r.2 = 2 → r.1.δ.Ok → ∀ how, ∃ Λ', Back (r.1.δ.crash how) (N + 4000000) Λ' ∧ (Λ' = s.syn ∨ Q Λ')
theorem LRes.same {s : Ld} {N : Int} (h : LLv s N) {e : Int} (he : e = 2 → s.Λ.doubt = true) {rc : Ld × Int} (hr : rc = (s.calm, e)) {Q : Lg → Prop} : LRes s N (s, e) rc Q :=
  ⟨fun _ => ⟨h.more (by omega), hr⟩, fun g => by have h1 := he g; have h2 : s.Λ.doubt = false := h.lw.live; rw [h1] at h2; cases h2⟩
theorem Back.more {σ : Dk} {N M : Int} {Λ' : Lg} (h : Back σ N Λ') (hN : N ≤ M) : Back σ M Λ' := by
  obtain ⟨ω', h1, h2, h3, h4⟩ := h.open_
  exact ⟨ω', h1, h2, h3.more hN, h4⟩
/-- From a log's call to the ledger's. -/
theorem res_end {δ : Dk} {ω : Wl} {Λ : Lg} {N : Int} {f : Lg → Lg} {r rc : Dk × Wl × Int} {B : Sta × Bool} {k : Int} {Q : Lg → Prop} (h : LLv ⟨δ, ω, Λ⟩ N) (hR : Res δ ω N r B k) (hc : r.2.2 ≠ 2 → rc = (r.1.calm, r.2))
    (hw : r.2.2 ≠ 2 → LWell (endL Λ f rc).1 (N + 4000000)) (hh : r.2.2 ≠ 2 → ((headL (endL Λ f r).1.Λ.base (endL Λ f r).1.Λ.snap).length : Int) ≤ r.2.1.synced)
    (hB : B.2 = true → ∃ Λ', Q Λ' ∧ LgW Λ' ∧ Λ'.doubt = false ∧ B.1 = (headL Λ'.base Λ'.snap ++ Λ'.ents, Λ'.acc, Λ'.cur)) : LRes ⟨δ, ω, Λ⟩ N (endL Λ f r) (endL Λ f rc) Q := by
  obtain ⟨e1, e2, e3⟩ := endL_err Λ f r
  refine ⟨fun g => ?_, fun g hok how => ?_⟩
  · have g' := endL_ne g
    have hcc : endL Λ f rc = ((endL Λ f r).1.calm, (endL Λ f r).2) := by rw [hc g']; exact endL_calm Λ f r
    refine ⟨⟨?_, ?_, ?_⟩, hcc⟩
    · rw [e2, e3]; exact (hR.live g').more (by omega)
    · have := hw g'; rw [hcc] at this; exact this
    · rw [e3]; exact hh g'
  · have g' : r.2.2 = 2 := by rw [e1] at g; exact metE_two.1 g
    rw [e2] at hok ⊢
    obtain ⟨ω', w1, w2, w3⟩ := hR.dead g' hok how
    rcases w3 with w3 | ⟨b1, w3⟩
    · exact ⟨_, (back_syn h w1 w2 w3).more (by omega), .inl rfl⟩
    · obtain ⟨Λ', q1, q2, q3, q4⟩ := hB b1
      rw [q4] at w3
      exact ⟨Λ', (open_of w1 w2 w3 q2 q3).more (by omega), .inr q1⟩
theorem append_syn (δ : Dk) (ω : Wl) (s : Bs) : (appendZ δ ω s).2.1.synced = ω.synced := by
  unfold appendZ
  repeat' split
  all_goals first | rfl | (unfold dbt; split <;> rfl)
theorem setm_syn (δ : Dk) (ω : Wl) (a b : Int) : (setmZ δ ω a b).2.1.synced = ω.synced := by
  unfold setmZ
  repeat' split
  all_goals first | rfl | (unfold dbt; split <;> rfl)
theorem endL_base {Λ : Lg} {f : Lg → Lg} (hf : ∀ L : Lg, (f L).base = L.base ∧ (f L).snap = L.snap) (r : Dk × Wl × Int) : (endL Λ f r).1.Λ.base = Λ.base ∧ (endL Λ f r).1.Λ.snap = Λ.snap := by
  have hm : ∀ e, (Λ.met e).base = Λ.base ∧ (Λ.met e).snap = Λ.snap := fun e => by unfold Lg.met; split <;> exact ⟨rfl, rfl⟩
  unfold endL
  split
  · exact ⟨(hf _).1.trans (hm _).1, (hf _).2.trans (hm _).2⟩
  · exact hm _
theorem lr_append {s : Ld} {N : Int} (h : LLv s N) {e : En} (he : EnI e) : LRes s N (lgAppend s e) (lgAppend s.calm e) (fun _ => False) := by
  obtain ⟨δ, ω, Λ⟩ := s
  have hk := (lk_append h.lw he).well
  rcases app_end δ ω Λ e with ⟨z, h1, h2, h3⟩ | h1
  · show LRes _ N (lgAppend ⟨δ, ω, Λ⟩ e) (lgAppend ⟨δ.calm, ω, Λ⟩ e) _
    rw [h1 δ rfl, h1 δ.calm rfl]
    exact LRes.same h h3 rfl
  · show LRes _ N (lgAppend ⟨δ, ω, Λ⟩ e) (lgAppend ⟨δ.calm, ω, Λ⟩ e) _
    have hk' : LWell (lgAppend ⟨δ.calm, ω, Λ⟩ e).1 (N + 4000000) := hk
    rw [h1 δ.calm rfl] at hk'
    rw [h1 δ rfl, h1 δ.calm rfl]
    refine res_end h (append_res h.lv (enB e) (B := ([], 0, 0))) (fun g => calm_append h.lv.dead h.lw.well.doubt g) (fun _ => hk') (fun _ => ?_) (fun g => by cases g)
    rw [append_syn, (endL_base (f := (fun L => L.keep (enB e) e.zx)) (fun L => ⟨rfl, rfl⟩) _).1, (endL_base (f := (fun L => L.keep (enB e) e.zx)) (fun L => ⟨rfl, rfl⟩) _).2]
    exact h.head
theorem lr_sync {s : Ld} {N : Int} (h : LLv s N) : LRes s N (lgSync s) (lgSync s.calm) (fun L => L = s.Λ) := by
  obtain ⟨δ, ω, Λ⟩ := s
  have hd : Λ.doubt = false := h.lw.live
  have hr : ω.recs = headL Λ.base Λ.snap ++ Λ.ents := h.lw.recs
  obtain ⟨k1, -, k3, k4, k5⟩ := lk_sync h.lw
  have hk' : LWell (lgSync ⟨δ.calm, ω, Λ⟩).1 (N + 2000000) := k1
  show LRes _ N (lgSync ⟨δ, ω, Λ⟩) (lgSync ⟨δ.calm, ω, Λ⟩) _
  rw [sync_end ω Λ hd δ.calm] at hk'
  rw [sync_end ω Λ hd, sync_end ω Λ hd]
  refine res_end (k := 2) h (sync_res h.lv) (fun g => calm_syncZ h.lv.dead h.lw.well.doubt g) (fun _ => hk'.more (by omega)) (fun g => ?_) (fun _ => ⟨Λ, rfl, h.lw.w, hd, ?_⟩)
  · rw [(endL_base (f := id) (fun L => ⟨rfl, rfl⟩) _).1, (endL_base (f := id) (fun L => ⟨rfl, rfl⟩) _).2]
    have hh : ((headL Λ.base Λ.snap).length : Int) ≤ ω.synced := h.head
    unfold syncZ at g ⊢
    rw [if_neg (by rw [show ω.doubt = false from h.lw.well.doubt]; decide)] at g ⊢
    split
    · exact hh
    · rename_i h1
      rw [if_neg h1] at g
      split
      · exact hh
      · rename_i h2
        rw [if_neg h2] at g
        rw [seal_live g]
        show _ ≤ ((ω.recs.length : Nat) : Int)
        rw [hr, List.length_append]; omega
  · show (toldZ ω true, ω.a, ω.b) = _
    rw [show toldZ ω true = ω.recs by unfold toldZ tl; rw [show ω.doubt = false from h.lw.well.doubt]; rfl, hr, show ω.a = Λ.acc from h.lw.a, show ω.b = Λ.cur from h.lw.b]
theorem lr_accept {s : Ld} {N : Int} (h : LLv s N) (n : Int) : LRes s N (lgAccept s n) (lgAccept s.calm n) (fun L => s.Λ.acc < n ∧ L = s.syn.setAcc n) := by
  obtain ⟨δ, ω, Λ⟩ := s
  have hk := (lk_accept h.lw n).1.well
  have he := h.lw.w.eps
  show LRes _ N (lgAccept ⟨δ, ω, Λ⟩ n) (lgAccept ⟨δ.calm, ω, Λ⟩ n) _
  rcases acc_end ω Λ n with ⟨z, h1, h3⟩ | ⟨n1, n2, h1⟩
  · rw [h1, h1]; exact LRes.same h h3 rfl
  · have hk' : LWell (lgAccept ⟨δ.calm, ω, Λ⟩ n).1 (N + 4000000) := hk
    have he' : 0 ≤ Λ.cur ∧ Λ.cur ≤ Λ.acc ∧ Λ.acc ≤ 1073741824 := he
    rw [h1] at hk'
    rw [h1, h1]
    refine res_end h (setm_res h.lv (a := n) (b := Λ.cur) (by omega) (by omega)) (fun g => calm_setmZ h.lv.dead h.lw.well.doubt g) (fun _ => hk') (fun _ => ?_) (fun _ => ⟨(Ld.syn ⟨δ, ω, Λ⟩).setAcc n, ⟨n1, rfl⟩, ?_, rfl, ?_⟩)
    · rw [setm_syn, (endL_base (f := (fun L => L.setAcc n)) (fun L => ⟨rfl, rfl⟩) _).1, (endL_base (f := (fun L => L.setAcc n)) (fun L => ⟨rfl, rfl⟩) _).2]
      exact h.head
    · obtain ⟨w1, w2, w3, w4, w5, -⟩ := syn_W h
      exact ⟨w1, w2, w3, w4, w5, ⟨he'.1, by show Λ.cur ≤ n; omega, n2⟩⟩
    · show (toldZ ω false, n, Λ.cur) = _
      rw [show toldZ ω false = _ from told_syn h]; rfl
theorem lr_adopt2 {s : Ld} {N : Int} (h : LLv s N) (n : Int) (hn : s.Λ.cur ≤ n ∧ n ≤ s.Λ.acc) : LRes s N (lgAdopt2 s n) (lgAdopt2 s.calm n) (fun L => L = s.syn.setCur n) := by
  obtain ⟨δ, ω, Λ⟩ := s
  have hk := (lk_adopt2 h.lw n hn).1
  have he : 0 ≤ Λ.cur ∧ Λ.cur ≤ Λ.acc ∧ Λ.acc ≤ 1073741824 := h.lw.w.eps
  have hn' : Λ.cur ≤ n ∧ n ≤ Λ.acc := hn
  have hk' : LWell (lgAdopt2 ⟨δ.calm, ω, Λ⟩ n).1 (N + 2000000) := hk
  show LRes _ N (lgAdopt2 ⟨δ, ω, Λ⟩ n) (lgAdopt2 ⟨δ.calm, ω, Λ⟩ n) _
  rw [ado_end] at hk'
  rw [ado_end, ado_end]
  refine res_end h (setm_res h.lv (a := Λ.acc) (b := n) (by omega) (by omega)) (fun g => calm_setmZ h.lv.dead h.lw.well.doubt g) (fun _ => hk'.more (by omega)) (fun _ => ?_) (fun _ => ⟨(Ld.syn ⟨δ, ω, Λ⟩).setCur n, rfl, ?_, rfl, ?_⟩)
  · rw [setm_syn, (endL_base (f := (fun L => L.setCur n)) (fun L => ⟨rfl, rfl⟩) _).1, (endL_base (f := (fun L => L.setCur n)) (fun L => ⟨rfl, rfl⟩) _).2]
    exact h.head
  · obtain ⟨w1, w2, w3, w4, w5, -⟩ := syn_W h
    exact ⟨w1, w2, w3, w4, w5, ⟨by show 0 ≤ n; omega, hn'.2, he.2.2⟩⟩
  · show (toldZ ω false, Λ.acc, n) = _
    rw [show toldZ ω false = _ from told_syn h]; rfl
theorem LRes.mono {s : Ld} {N : Int} {r rc : Ld × Int} {Q Q' : Lg → Prop} (h : LRes s N r rc Q) (hQ : ∀ L, Q L → Q' L) : LRes s N r rc Q' :=
  ⟨h.live, fun g hok how => by obtain ⟨Λ', h1, h2⟩ := h.dead g hok how; exact ⟨Λ', h1, h2.imp id (hQ _)⟩⟩
theorem LRes.more {s : Ld} {N M : Int} {r rc : Ld × Int} {Q : Lg → Prop} (h : LRes s N r rc Q) (hN : N ≤ M) : LRes s M r rc Q :=
  ⟨fun g => ⟨(h.live g).1.more (by omega), (h.live g).2⟩, fun g hok how => by obtain ⟨Λ', h1, h2⟩ := h.dead g hok how; exact ⟨Λ', h1.more (by omega), h2⟩⟩
theorem sync_ok {s : Ld} {N : Int} (h : LLv s N) (he : (lgSync s).2 = 0) : (lgSync s).1.syn = s.Λ ∧ (lgSync s).1.Λ = s.Λ := by
  have hl := (lr_sync h).live (by rw [he]; decide)
  obtain ⟨-, -, k3, -, k5⟩ := lk_sync h.lw
  rw [hl.2] at k3 k5
  have h5 := k5 he
  have hr : (lgSync s).1.ω.recs = s.ω.recs := h5.2
  have h3 : (lgSync s).1.Λ = s.Λ := k3
  exact ⟨(syn_full hl.1 (by rw [hr]; exact h5.1)).trans h3, h3⟩
theorem lr_adopt {s : Ld} {N : Int} (h : LLv s N) (n : Int) : LRes s (N + 4000000) (lgAdopt s n) (lgAdopt s.calm n) (fun L => s.Λ.cur ≤ n ∧ n ≤ s.Λ.acc ∧ (L = s.Λ ∨ L = s.Λ.setCur n)) := by
  have hd : s.Λ.doubt = false := h.lw.live
  by_cases h2 : n < s.Λ.cur ∨ n > s.Λ.acc
  · have e : ∀ t : Ld, t.Λ = s.Λ → lgAdopt t n = (t, 82) := fun t ht => by unfold lgAdopt; rw [ht, if_neg (by rw [hd]; decide), if_pos h2]
    rw [e s rfl, e s.calm rfl]
    exact LRes.same (h.more (by omega)) (fun g => absurd g (by decide)) rfl
  have hS := lr_sync h
  by_cases h3 : (lgSync s).2 = 0
  · have hl := hS.live (by rw [h3]; decide)
    obtain ⟨s1, s2⟩ := sync_ok h h3
    have e : lgAdopt s n = lgAdopt2 (lgSync s).1 n := by unfold lgAdopt; rw [if_neg (by rw [hd]; decide), if_neg h2, if_neg (fun g => g h3)]
    have e2 : lgAdopt s.calm n = lgAdopt2 (lgSync s).1.calm n := by
      unfold lgAdopt
      rw [if_neg (show ¬ s.calm.Λ.doubt = true by show ¬ s.Λ.doubt = true; rw [hd]; decide), if_neg (show ¬ (n < s.calm.Λ.cur ∨ n > s.calm.Λ.acc) from h2), hl.2, if_neg (fun g => g h3)]
    rw [e, e2]
    have hA := lr_adopt2 hl.1 n (by rw [s2]; omega)
    refine ⟨fun g => ⟨(hA.live g).1.more (by omega), (hA.live g).2⟩, fun g hok how => ?_⟩
    obtain ⟨Λ', q1, q2⟩ := hA.dead g hok how
    refine ⟨Λ', q1.more (by omega), .inr ⟨by omega, by omega, ?_⟩⟩
    rw [s1] at q2; exact q2
  · have e : lgAdopt s n = lgSync s := by unfold lgAdopt; rw [if_neg (by rw [hd]; decide), if_neg h2, if_pos h3]
    rw [e]
    refine ⟨fun g => ?_, fun g hok how => ?_⟩
    · have hl := hS.live g
      refine ⟨hl.1.more (by omega), ?_⟩
      unfold lgAdopt
      rw [if_neg (show ¬ s.calm.Λ.doubt = true by show ¬ s.Λ.doubt = true; rw [hd]; decide), if_neg (show ¬ (n < s.calm.Λ.cur ∨ n > s.calm.Λ.acc) from h2), hl.2, if_pos h3]
    · obtain ⟨Λ', q1, q2⟩ := hS.dead g hok how
      exact ⟨Λ', q1.more (by omega), q2.imp id (fun q => ⟨by omega, by omega, .inl q⟩)⟩
theorem lr_cut2 {s : Ld} {N : Int} (h : LLv s N) {n : Nat} (hn : n ≤ s.Λ.ents.length) : LRes s N (lgCut2 s n) (lgCut2 s.calm n) (fun L => L = cutL s.Λ n) := by
  obtain ⟨δ, ω, Λ⟩ := s
  have hk := (lk_cut2 h.lw (n := n) hn).1.well
  have hk' : LWell (lgCut2 ⟨δ.calm, ω, Λ⟩ n).1 (N + 4000000) := hk
  have hr : ω.recs = headL Λ.base Λ.snap ++ Λ.ents := h.lw.recs
  have hdb : ω.doubt = false := h.lw.well.doubt
  have hd : Λ.doubt = false := h.lw.live
  have hn' : n ≤ Λ.ents.length := hn
  have hb : ∀ r, (endL Λ (fun _ => cutL Λ n) r).1.Λ.base = Λ.base ∧ (endL Λ (fun _ => cutL Λ n) r).1.Λ.snap = Λ.snap := fun r => by
    have hm : ∀ e, (Λ.met e).base = Λ.base ∧ (Λ.met e).snap = Λ.snap := fun e => by unfold Lg.met; split <;> exact ⟨rfl, rfl⟩
    unfold endL; split
    · exact ⟨rfl, rfl⟩
    · exact hm _
  show LRes _ N (lgCut2 ⟨δ, ω, Λ⟩ n) (lgCut2 ⟨δ.calm, ω, Λ⟩ n) _
  rw [cut_end] at hk'
  rw [cut_end, cut_end]
  refine res_end (k := 3) h (cut_res h.lv _) (fun g => calm_cutZ h.lv.dead hdb g) (fun _ => hk') (fun g => ?_) (fun _ => ⟨cutL Λ n, rfl, ?_, hd, ?_⟩)
  · rw [(hb _).1, (hb _).2]
    have hh : ((headL Λ.base Λ.snap).length : Int) ≤ ω.synced := h.head
    unfold cutZ at g ⊢
    rw [if_neg (by rw [hdb]; decide), if_neg (by rw [hr, List.length_append]; omega)] at g ⊢
    split
    · exact hh
    · rename_i h2
      rw [if_neg h2] at g
      rw [seal_live g]
      show _ ≤ (((ω.recs.take _).length : Nat) : Int)
      rw [List.length_take, hr, List.length_append]; omega
  · exact h.lw.w.cut n Λ.doubt
  · rw [if_neg (by unfold tl; rw [hdb]; simp only [Bool.false_eq_true, if_false]; rw [hr, List.length_append]; omega)]
    show ((tl ω).take _, ω.a, ω.b) = _
    rw [show tl ω = ω.recs by unfold tl; rw [hdb]; rfl, Int.toNat_natCast, hr, List.take_append, List.take_of_length_le (by omega), show ω.a = Λ.acc from h.lw.a, show ω.b = Λ.cur from h.lw.b]
    unfold cutL; dsimp only; congr 2; congr 1; omega
theorem lr_renew {s : Ld} {N : Int} (h : LLv s N) {base : Int} {snap : Bs} {es : List Bs} {zs : List Int} (hb : 0 ≤ base ∧ base ≤ 9223372036854775807) (hs : snap.length ≤ 65536) (hr : RowsI base es zs) : LRes s N (lgRenew s base snap es zs) (lgRenew s.calm base snap es zs) (fun L => L = newL s.Λ base snap es zs ∧ es.length ≤ 200 ∧ ∀ x ∈ es, x.length ≤ 4000) := by
  obtain ⟨δ, ω, Λ⟩ := s
  by_cases hl : es.length > 200
  · have e : ∀ δ', lgRenew ⟨δ', ω, Λ⟩ base snap es zs = (⟨δ', ω, Λ⟩, 83) := fun δ' => by unfold lgRenew; rw [if_pos hl]
    show LRes _ N (lgRenew ⟨δ, ω, Λ⟩ base snap es zs) (lgRenew ⟨δ.calm, ω, Λ⟩ base snap es zs) _
    rw [e, e]; exact LRes.same h (fun g => absurd g (by decide)) rfl
  have hk' : LWell (lgRenew ⟨δ.calm, ω, Λ⟩ base snap es zs).1 (N + 4000000) := (lk_renew h.lw hb hs hr).1.well
  have hdb : ω.doubt = false := h.lw.well.doubt
  have hd : Λ.doubt = false := h.lw.live
  have he := h.lw.w.eps
  show LRes _ N (lgRenew ⟨δ, ω, Λ⟩ base snap es zs) (lgRenew ⟨δ.calm, ω, Λ⟩ base snap es zs) _
  rw [ren_end _ _ hl] at hk'
  rw [ren_end _ _ hl, ren_end _ _ hl]
  by_cases hlong : (headL base snap ++ es).any (fun s => decide (s.length > 4000)) = true
  · have e : ∀ δ', renewZ δ' ω (headL base snap ++ es) = (δ', ω, 33) := fun δ' => by unfold renewZ; rw [if_neg (by rw [hdb]; decide), if_pos hlong]
    rw [e, e]
    have e2 : ∀ δ', endL Λ (fun _ => newL Λ base snap es zs) (δ', ω, 33) = (⟨δ', ω, Λ⟩, 83) := fun δ' => by unfold endL; rw [if_neg (by show ¬ metE 33 = 0; decide)]; rfl
    rw [e2, e2]
    exact LRes.same h (fun g => absurd g (by decide)) rfl
  have hshort : ∀ x ∈ es, x.length ≤ 4000 := fun x hx => by
    rcases Nat.lt_or_ge 4000 x.length with g | g
    · exact absurd (List.any_eq_true.2 ⟨x, List.mem_append_right _ hx, decide_eq_true g⟩) hlong
    · exact g
  refine res_end (k := 4) h (renew_res h.lv _) (fun g => calm_renewZ h.lv.dead hdb g) (fun _ => hk') (fun g => ?_) (fun _ => ⟨newL Λ base snap es zs, ⟨rfl, by omega, hshort⟩, ⟨by show es.length ≤ 200; omega, hshort, hb, hs, hr, he⟩, hd, ?_⟩)
  · have hh : ((headL Λ.base Λ.snap).length : Int) ≤ ω.synced := h.head
    have same : ∀ e, e ≠ 0 → e ≠ 2 → renewZ δ ω (headL base snap ++ es) = (δ, ω, e) → metE e ≠ 0 → ((headL (endL Λ (fun _ => newL Λ base snap es zs) (renewZ δ ω (headL base snap ++ es))).1.Λ.base (endL Λ (fun _ => newL Λ base snap es zs) (renewZ δ ω (headL base snap ++ es))).1.Λ.snap).length : Int) ≤ (renewZ δ ω (headL base snap ++ es)).2.1.synced := fun e _ h2 h3 h4 => by
      rw [h3]; unfold endL
      rw [if_neg (show ¬ (metL Λ (δ, ω, e)).2 = 0 from h4)]
      show ((headL (Λ.met e).base (Λ.met e).snap).length : Int) ≤ ω.synced
      rw [met_same h2]; exact hh
    by_cases h2 : ¬ (((headL base snap ++ es).length : Int) * 6 ≤ 64 * halfZ δ) ∨ ω.count = 4294967295
    · exact same 30 (by decide) (by decide) (by unfold renewZ; rw [if_neg (by rw [hdb]; decide), if_neg hlong, if_pos h2]) (by decide)
    by_cases h3 : ¬ ((laidZ (headL base snap ++ es)).length : Int) ≤ 64 * halfZ δ
    · exact same 30 (by decide) (by decide) (by unfold renewZ; rw [if_neg (by rw [hdb]; decide), if_neg hlong, if_neg h2, if_pos h3]) (by decide)
    have e : renewZ δ ω (headL base snap ++ es) = if (layZ δ (1 - ω.area) (laidZ (headL base snap ++ es)) 0).2 ≠ 0 then dbt ((layZ δ (1 - ω.area) (laidZ (headL base snap ++ es)) 0).1, ω, (layZ δ (1 - ω.area) (laidZ (headL base snap ++ es)) 0).2) else dbt (sealZ (layZ δ (1 - ω.area) (laidZ (headL base snap ++ es)) 0).1 ω (1 - ω.area) (headL base snap ++ es)) := by
      unfold renewZ; rw [if_neg (by rw [hdb]; decide), if_neg hlong, if_neg h2, if_neg h3]
    by_cases h4 : (layZ δ (1 - ω.area) (laidZ (headL base snap ++ es)) 0).2 = 0
    · rw [e, if_neg (fun g => g h4)] at g ⊢
      have hs := seal_live g
      obtain ⟨⟨δ2, q⟩, hq⟩ : ∃ r, dbt (sealZ (layZ δ (1 - ω.area) (laidZ (headL base snap ++ es)) 0).1 ω (1 - ω.area) (headL base snap ++ es)) = r := ⟨_, rfl⟩
      rw [hq] at hs ⊢
      dsimp only at hs; subst hs
      have e5 : (endL Λ (fun _ => newL Λ base snap es zs) (δ2, ω.sealed (1 - ω.area) (headL base snap ++ es), 0)).1.Λ = newL Λ base snap es zs := by unfold endL; rw [if_pos (by show metE 0 = 0; decide)]
      rw [e5]
      show ((headL base snap).length : Int) ≤ (((headL base snap ++ es).length : Nat) : Int)
      rw [List.length_append]; omega
    · rw [e, if_pos h4, (dbt_err _).1] at g
      rcases layZ_err δ (1 - ω.area) (laidZ (headL base snap ++ es)) 0 with g1 | g1
      · exact absurd g1 h4
      · exact absurd g1 g
  · show ((headL base snap ++ es), ω.a, ω.b) = _
    rw [show ω.a = Λ.acc from h.lw.a, show ω.b = Λ.cur from h.lw.b]; rfl
end Go.Proofs.YtidjhgbdokcphaaGreat

/- Own work: three operations that are ready in a region that draws its order. -/

namespace Go.Proofs.YtidjhgbdokcphaaGreat
open Go
section
variable {P : Program} {ops : Array Oper} {n : Nat} {RO : List HP} {H : List Nat} {Fin : EF → List HP → Prop}
variable {j : Nat} {S : List Nat} {E : Env} {RW : List HP} {op : Op} {ty : TypeId} {pos : String} {aft : Array Edge}
def only3B (ops : Array Oper) (j k l : Nat) (S : List Nat) : Bool := readyB ops (j :: S) j && readyB ops (j :: S) k && readyB ops (j :: S) l && !Nat.beq k j && !Nat.beq l j && !Nat.beq l k && S.all fun i => Nat.beq i j || Nat.beq i k || Nat.beq i l || !readyB ops (j :: S) i
theorem D.h3 {k l : Nat} {dd dk dl : Option Nat} {op' op2 : Op} {ty' ty2 : TypeId} {pos' pos2 : String} {aft' aft2 : Array Edge} {pre F pre' F' pre2 F2 : List HP} {K K' K2 : Value → List HP → Prop} {S2 S3 : List Nat} (hi : ops[j]? = some ⟨dd, op, ty, pos, aft, none⟩) (hk : ops[k]? = some ⟨dk, op', ty', pos', aft', none⟩) (hl : ops[l]? = some ⟨dl, op2, ty2, pos2, aft2, none⟩)
    (hc : (only3B ops j k l S && H.contains j && H.contains k && H.contains l && dstOk dd n && dstOk dk n && dstOk dl n) = true) (hS2 : (j :: S).erase k = S2) (hS3 : (j :: S).erase l = S3) (hp : OpSpec P ⟨none, op, ty, "", #[], none⟩ E pre K) (hL : Picks pre RW F) (hp' : OpSpec P ⟨none, op', ty', "", #[], none⟩ E pre' K') (hL' : Picks pre' RW F') (hp2 : OpSpec P ⟨none, op2, ty2, "", #[], none⟩ E pre2 K2) (hL2 : Picks pre2 RW F2)
    (h : ∀ v L', K v L' → D P ops n RO H Fin S (look (putE dd v E)) (L' ++ F)) (h' : ∀ v L', K' v L' → D P ops n RO H Fin S2 (look (putE dk v E)) (L' ++ F')) (h2 : ∀ v L', K2 v L' → D P ops n RO H Fin S3 (look (putE dl v E)) (L' ++ F2)) : D P ops n RO H Fin (j :: S) (look E) RW := by
  simp only [Bool.and_eq_true, only3B] at hc
  obtain ⟨⟨⟨⟨⟨⟨⟨⟨⟨⟨⟨⟨c1, c2⟩, c3⟩, c4⟩, c5⟩, c6⟩, c7⟩, d1⟩, d2⟩, d3⟩, d4⟩, d5⟩, d6⟩ := hc
  have hkj : k ≠ j := by rintro rfl; simp at c4
  have hlj : l ≠ j := by rintro rfl; simp at c5
  have hlk : l ≠ k := by rintro rfl; simp at c6
  have only : ∀ i, i ∈ j :: S → readyB ops (j :: S) i = true → i = j ∨ i = k ∨ i = l := by
    intro i hi hr
    rcases List.mem_cons.1 hi with rfl | hi
    · exact .inl rfl
    · have := List.all_eq_true.1 c7 i hi
      rw [hr] at this
      simp at this
      rcases this with (h | h) | h
      · exact .inl h
      · exact .inr (.inl h)
      · exact .inr (.inr h)
  refine .heavy (fun i => if i = j then ⟨dd, op, ty, pos, aft, none⟩ else if i = k then ⟨dk, op', ty', pos', aft', none⟩ else ⟨dl, op2, ty2, pos2, aft2, none⟩) (fun i => if i = j then pre else if i = k then pre' else pre2) (fun i => if i = j then F else if i = k then F' else F2) (fun i => if i = j then K else if i = k then K' else K2) ⟨j, by simp, c1⟩ ?_ ?_
  · intro i hi' hr
    rcases only i hi' hr with rfl | rfl | rfl
    · simp only [if_true]
      exact ⟨d1, hi, .inl rfl, d4, hL, SpecR.own hp⟩
    · simp only [if_neg hkj, if_true]
      exact ⟨d2, hk, .inl rfl, d5, hL', SpecR.own hp'⟩
    · simp only [if_neg hlj, if_neg hlk]
      exact ⟨d3, hl, .inl rfl, d6, hL2, SpecR.own hp2⟩
  · intro i hi' hr v L' hv
    rcases only i hi' hr with rfl | rfl | rfl
    · simp only [if_true] at hv ⊢
      have := h v L' hv
      rw [look_putE] at this
      simpa using this
    · simp only [if_neg hkj, if_true] at hv ⊢
      have := h' v L' hv
      rw [look_putE] at this
      rw [hS2]
      exact this
    · simp only [if_neg hlj, if_neg hlk] at hv ⊢
      have := h2 v L' hv
      rw [look_putE] at this
      rw [hS3]
      exact this
end
end Go.Proofs.YtidjhgbdokcphaaGreat

/- Own work, by program: package ledger: Cut, Install, Compact: walked. -/
namespace Go.Proofs.YtidjhgbdokcphaaGreat
open Go
set_option maxRecDepth 100000 in
theorem cloneI_spec (v : Value) (n : Nat) (xs : List Value) (p : HP) (hr : ∀ h : Hp, p h → rdS 1 h v n xs) (hc : ∀ y ∈ xs, isCell y = true) (hb : n ≤ 4294967296) : Fn Tryz.prog 181 #[v] [p] fun u L => (∃ a c, u = .slice a n c) ∧ L = [slR 3 1 u n xs, p] := by
 refine Fn.intro (vs := [v]) Tryz.func181 rfl rfl ?_
 intro F W
 refine G.rdAny (p := p) hr (by (repeat' constructor)) fun aa ca e hlen => ?_
 subst e
 refine G.seq (G.region (G.q (Quiet.assign rfl) rfl (G.nil (G.then_n (G.seq (G.seq (G.region (G.q (Quiet.move rfl) rfl ?_))))))))
 rcases aa with _ | aa
 ·refine G.q (Quiet.sleq rfl rfl Tryz.underlying31) rfl (G.nil (G.then_n (G.condT rfl (G.seq (G.region (G.q (Quiet.assign rfl) rfl (G.nil (G.then_n (G.ret (G.then_r ?_))))))))))
  refine G.nilEmpty (p := p) hr (by (repeat' constructor)) fun e1 e2 => ?_
  subst e1; subst e2
  refine G.add (slR_nil 3 1) ?_
  exact G.done (l := [.tmp 2]) rfl rfl ⟨⟨_, _, rfl⟩, rfl⟩ (by (repeat' constructor)) (by (repeat' constructor))
 ·refine G.q (Quiet.sleq rfl rfl Tryz.underlying31) rfl (G.nil (G.then_n (G.condF rfl (G.skip (G.then_n (G.seq (G.region ?_)))))))
  refine G.op (OpSpec.buildSlice1 (vs := []) el_31 ze_3 rfl rfl rfl rfl rfl (by decide)) (by (repeat' constructor)) rfl ?nx6
  rintro v L' ⟨b0, rfl, rfl⟩
  refine G.q (Quiet.move rfl) rfl ?_
  refine G.slMake (n := 0) (c := 0) (xs := []) (b := b0) (by (repeat' constructor)) (Nat.le_refl _) (Nat.zero_le _) rfl ?_
  refine G.op (OpSpec.append (n := 0) (m := n) (xs := []) (ys := xs) (p := p) rfl rfl rfl el_31 (.inl ⟨_, Tryz.underlying31⟩) ze_3 rfl rfl ?hc9 ?hr10 ?hb11 (by decide)) (by (repeat' constructor)) rfl ?nx12
  case hc9 => exact hc
  case hr10 => exact hr
  case hb11 => omega
  rintro v L' ⟨⟨a1, c1, rfl⟩, rfl⟩; rw [Nat.zero_add, List.nil_append]
  refine G.q (Quiet.assign rfl) rfl (G.nil (G.then_n (G.ret ?_)))
  exact G.done (l := [.tmp 2]) rfl rfl ⟨⟨_, _, rfl⟩, rfl⟩ (by (repeat' constructor)) (by (repeat' constructor))

set_option maxRecDepth 100000 in
theorem snan_spec (a : Int) : Fn Tryz.prog 175 #[vint a] [] fun v L => v = .bool false ∧ L = [] := by
 refine Fn.intro (vs := [vint a]) Tryz.func175 rfl rfl ?_
 intro F W
 refine G.seq (G.region (G.q (Quiet.assign rfl) rfl (G.nil (G.then_n (G.seq (G.region (G.q (Quiet.move rfl) rfl (G.q (Quiet.move rfl) rfl ?_))))))))
 refine G.q (Quiet.as (v' := .bool false) (by simp) (Quiet.int rfl rfl rfl)) rfl ?_
 refine G.q (Quiet.assign rfl) rfl (G.nil (G.then_n (G.ret ?_)))
 exact G.done (l := [.tmp 2]) rfl rfl ⟨rfl, rfl⟩ (by (repeat' constructor)) (by (repeat' constructor))

set_option maxRecDepth 100000 in
theorem cnan_spec (a : Int) : Fn Tryz.prog 201 #[vint a] [] fun v L => v = .bool false ∧ L = [] := by
 refine Fn.intro (vs := [vint a]) Tryz.func201 rfl rfl ?_
 intro F W
 refine G.seq (G.region (G.q (Quiet.assign rfl) rfl (G.nil (G.then_n (G.seq (G.region (G.q (Quiet.move rfl) rfl (G.q (Quiet.move rfl) rfl ?_))))))))
 refine G.q (Quiet.as (v' := .bool false) (by simp) (Quiet.int rfl rfl rfl)) rfl ?_
 refine G.q (Quiet.assign rfl) rfl (G.nil (G.then_n (G.ret ?_)))
 exact G.done (l := [.tmp 2]) rfl rfl ⟨rfl, rfl⟩ (by (repeat' constructor)) (by (repeat' constructor))

set_option maxRecDepth 100000 in
theorem less_spec (a b : Int) : Fn Tryz.prog 174 #[vint a, vint b] [] fun v L => v = .bool (decide (a < b)) ∧ L = [] := by
 refine Fn.intro (vs := [vint a, vint b]) Tryz.func174 rfl rfl ?_
 intro F W
 refine G.seq (G.region (G.q (Quiet.assign rfl) rfl (G.nil (G.then_n (G.seq (G.region (G.q (Quiet.move rfl) rfl ?_)))))))
 refine G.op (OpSpec.call Tryz.func201 rfl rfl (vs := [_]) rfl (cnan_spec a)) (by (repeat' constructor)) rfl ?nx3
 rintro v L' ⟨rfl, rfl⟩
 refine G.q (Quiet.move rfl) rfl (G.gskip (t := 7) rfl rfl rfl rfl (G.gskip (t := 7) rfl rfl rfl rfl (G.gskip (t := 7) rfl rfl rfl rfl (G.q (Quiet.pickF rfl rfl) rfl (G.q (Quiet.move rfl) rfl (G.grun (t := 12) rfl rfl rfl (G.q (Quiet.move rfl) rfl (G.grun (t := 12) rfl rfl rfl (G.q (Quiet.move rfl) rfl (G.grun (t := 12) rfl rfl rfl (G.q (Quiet.int rfl rfl rfl) rfl (G.q (Quiet.pickF rfl rfl) rfl (G.q (Quiet.assign rfl) rfl (G.nil (G.then_n (G.ret ?_))))))))))))))))
 exact G.done (l := [.tmp 4]) rfl rfl ⟨rfl, rfl⟩ (by (repeat' constructor)) (by (repeat' constructor))

theorem bs_in {zs : List Int} {z : Int} {i : Nat} (hs : zs.Pairwise (· < ·)) (hi : i < zs.length) (h : zs.getD i 0 = z) : z ∈ zs ∧ i = zs.idxOf z := by
  have e : zs[i] = z := by simpa [List.getD_eq_getElem?_getD, hi] using h
  have hn : zs.Nodup := hs.imp (fun h => by omega)
  refine ⟨e ▸ List.getElem_mem hi, ?_⟩
  have hl := List.idxOf_lt_length_of_mem (e ▸ List.getElem_mem hi : z ∈ zs)
  have h1 : zs[zs.idxOf z] = z := List.getElem_idxOf hl
  exact (List.getElem_inj hn).1 (e.trans h1.symm)
theorem bs_out {zs : List Int} {z : Int} {i : Nat} (hs : zs.Pairwise (· < ·)) (h1 : ∀ k, k < i → zs.getD k 0 < z) (h2 : ∀ k, i ≤ k → k < zs.length → z ≤ zs.getD k 0) (h : ¬ (i < zs.length ∧ zs.getD i 0 = z)) : ¬ z ∈ zs := by
  intro hm
  obtain ⟨k, hk, hz⟩ := List.mem_iff_getElem.1 hm
  have e : zs.getD k 0 = z := by simpa [List.getD_eq_getElem?_getD, hk] using hz
  rcases Nat.lt_or_ge k i with g | g
  · have := h1 k g; omega
  · have hi : i < zs.length := by omega
    have h3 := h2 i (Nat.le_refl _) hi
    rcases Nat.eq_or_lt_of_le g with g | g
    · subst g; exact h ⟨hi, e⟩
    · have := List.pairwise_iff_getElem.1 hs i k hi hk g
      have e1 : zs.getD i 0 = zs[i] := by simp [List.getD_eq_getElem?_getD, hi]
      exact h ⟨hi, by omega⟩
theorem half_conv (a b : Nat) (h : a + b ≤ 8589934592) : Value.int .i64 (IntKind.i64.wrap ((IntKind.u64.wrap ((a : Int) + b)).fdiv (2 ^ min (1 : Int).toNat IntKind.u64.bits))) = vint (((a + b) / 2 : Nat) : Int) := by
  have e1 : IntKind.u64.wrap ((a : Int) + b) = ((a + b : Nat) : Int) := by
    simp [IntKind.wrap, IntKind.bits, IntKind.signed]; omega
  rw [e1]
  have e2 : ((a + b : Nat) : Int).fdiv (2 ^ min (1 : Int).toNat IntKind.u64.bits) = (((a + b) / 2 : Nat) : Int) := by
    show ((a + b : Nat) : Int).fdiv 2 = _
    rw [Int.fdiv_eq_ediv_of_nonneg _ (by decide)]; omega
  rw [e2]
  have e3 : IntKind.i64.wrap (((a + b) / 2 : Nat) : Int) = (((a + b) / 2 : Nat) : Int) := by
    rw [wrap64]; omega
  rw [e3]
theorem up_at {zs : List Int} (hs : zs.Pairwise (· < ·)) {a b : Nat} (h : a < b) (hb : b < zs.length) : zs.getD a 0 < zs.getD b 0 := by
  have := List.pairwise_iff_getElem.1 hs a b (by omega) hb h
  simpa [List.getD_eq_getElem?_getD, hb, show a < zs.length by omega] using this
theorem up_lt {zs : List Int} (hs : zs.Pairwise (· < ·)) {a b : Nat} {z : Int} (hb : b < zs.length) (h : a < b) (hz : zs.getD b 0 < z) : zs.getD a 0 < z := by
  have := up_at hs h hb; omega
theorem up_ge {zs : List Int} (hs : zs.Pairwise (· < ·)) {a b : Nat} {z : Int} (h : b ≤ a) (ha : a < zs.length) (hz : ¬ zs.getD b 0 < z) : z ≤ zs.getD a 0 := by
  rcases Nat.eq_or_lt_of_le h with g | g
  · subst g; omega
  · have := up_at hs g ha; omega
set_option maxRecDepth 100000 in
theorem bsearch_spec (va : Value) (zs : List Int) (z : Int) (p : HP) (hr : ∀ h : Hp, p h → rdS 1 h va zs.length (ints zs)) (hs : zs.Pairwise (· < ·)) (hl : zs.length ≤ 4294967296) : Fn Tryz.prog 133 #[va, vint z] [p] fun v L => (∃ i : Nat, v = .tuple #[vint i, .bool (decide (z ∈ zs))] ∧ (z ∈ zs → i = zs.idxOf z)) ∧ L = [p] := by
 refine Fn.intro (vs := [va, vint z]) Tryz.func133 rfl rfl ?_
 intro F W
 refine G.rdAny (p := p) hr (by (repeat' constructor)) fun aa ca e0 _ => ?_
 subst e0
 refine G.seq (G.region (G.q (Quiet.assign rfl) rfl (G.q (Quiet.assign rfl) rfl (G.nil (G.then_n (G.seq (G.region (G.q (Quiet.move rfl) rfl (G.q (Quiet.slen rfl Tryz.underlying31 rfl) rfl (G.q (Quiet.assign rfl) rfl (G.nil (G.then_n (G.seq (G.region (G.q (Quiet.move rfl) rfl (G.q (Quiet.assign rfl) rfl (G.q (Quiet.assign rfl) rfl (G.nil (G.then_n (G.seq (G.block ?_)))))))))))))))))))))
 refine G.loopK (ι := Nat × Nat) (fun q E => (7, vint q.1) :: (8, vint q.2) :: E) (fun q => []) (fun q => q.1 ≤ q.2 ∧ q.2 ≤ zs.length ∧ (∀ k, k < q.1 → zs.getD k 0 < z) ∧ ∀ k, q.2 ≤ k → k < zs.length → z ≤ zs.getD k 0) (fun q => q.2 - q.1) (0, zs.length) (ts := [0, 1, 4, 5, 6]) (.cons rfl (.cons rfl (.cons rfl (.cons rfl (.cons rfl (.nil)))))) (⟨Nat.zero_le _, Nat.le_refl _, fun k hk => absurd hk (Nat.not_lt_zero k), fun k h1 h2 => absurd h2 (Nat.not_lt.2 h1)⟩) ⟨rfl, rfl, rfl, rfl, rfl, rfl, rfl, trivial⟩ (by (repeat' constructor)) ?_
 rintro ⟨i, j⟩ ⟨hij, hj, hlo, hhi⟩
 dsimp only
 dsimp only at hij hj hlo hhi
 refine G.seq (G.seq (G.region (G.q (Quiet.move rfl) rfl (G.q (Quiet.move rfl) rfl (G.q (Quiet.int rfl rfl rfl) rfl (G.nil (G.then_n ?_)))))))
 refine G.condD rfl (fun h15 => ?_) (fun h15 => ?_)
 ·have hm : (i + j) / 2 < zs.length := by omega
  refine G.rdShape (p := p) hr (by (repeat' constructor)) (by omega) fun ba oa e => ?_
  subst e
  refine G.skip (G.then_n (G.block (G.seq (G.region (G.q (Quiet.move rfl) rfl (G.q (Quiet.move rfl) rfl ?_))))))
  refine G.q (Quiet.add rfl rfl (by omega)) rfl ?_
  refine G.q (Quiet.conv rfl Tryz.underlying3 Tryz.underlying39) rfl ?_
  refine G.q (Quiet.shr rfl rfl (by first | decide | omega)) rfl ?_
  refine G.q (Quiet.as (v' := vint (((i + j) / 2 : Nat) : Int)) (by exact half_conv i j (by omega)) (Quiet.conv rfl Tryz.underlying39 Tryz.underlying3)) rfl ?_
  refine G.q (Quiet.assign rfl) rfl (G.nil (G.then_n (G.seq (G.region (G.q (Quiet.move rfl) rfl (G.q (Quiet.move rfl) rfl ?_))))))
  refine G.q (Quiet.indexAddr rfl rfl el_31 (by omega)) rfl ?_
  refine G.q (Quiet.loadEl (p := p) (i := ((i + j) / 2) * 1) (v := vint (zs.getD ((i + j) / 2) 0)) rfl ag_3 (by (repeat' constructor)) hr (by have hil : (i + j) / 2 < zs.length := (by omega); simp [ints, List.getD_eq_getElem?_getD, hil])) rfl ?_
  refine G.q (Quiet.move rfl) rfl ?_
  refine G.op (OpSpec.call Tryz.func174 rfl rfl (vs := [_, _]) rfl (less_spec _ z)) (by (repeat' constructor)) rfl ?nx19
  rintro v L' ⟨rfl, rfl⟩
  refine G.nil (G.then_n ?_)
  refine G.condD rfl (fun h27 => ?_) (fun h27 => ?_)
  ·refine G.region (G.q (Quiet.move rfl) rfl ?_)
   refine G.q (Quiet.add rfl rfl (by omega)) rfl ?_
   refine G.q (Quiet.assign rfl) rfl (G.nil (G.blk_n (G.then_n ?_)))
   exact G.roundK (((i + j) / 2 + 1, j)) (⟨by dsimp only; omega, hj, fun k hk => by rcases Nat.lt_or_ge k ((i + j) / 2) with g | g; exact up_lt hs (by omega) g h27; obtain rfl : k = (i + j) / 2 := (by dsimp only at hk; omega); exact h27, hhi⟩) (by dsimp only; omega) ⟨rfl, rfl, rfl, rfl, rfl, rfl, rfl, trivial⟩ (by (repeat' constructor)) (by ((repeat (apply Have.cons; (repeat (first | exact Pick.here | apply Pick.there)))); apply Have.base; repeat' constructor))
  ·refine G.region (G.q (Quiet.move rfl) rfl (G.q (Quiet.assign rfl) rfl (G.nil (G.blk_n (G.then_n ?_)))))
   exact G.roundK ((i, (i + j) / 2)) (⟨by dsimp only; omega, by dsimp only; omega, hlo, fun k h1 h2 => up_ge hs h1 h2 h27⟩) (by dsimp only; omega) ⟨rfl, rfl, rfl, rfl, rfl, rfl, rfl, trivial⟩ (by (repeat' constructor)) (by ((repeat (apply Have.cons; (repeat (first | exact Pick.here | apply Pick.there)))); apply Have.base; repeat' constructor))
 ·refine G.exit (G.then_e (G.then_e (G.blk_e (G.then_n (G.seq (G.region (G.q (Quiet.move rfl) rfl (G.q (Quiet.move rfl) rfl (G.q (Quiet.move rfl) rfl (G.q (Quiet.int rfl rfl rfl) rfl (G.q (Quiet.move rfl) rfl ?_)))))))))))
  refine G.dec (t := 35) rfl (fun h8_35 => ?_) (fun h8_35 => ?_)
  ·refine G.rdShape (p := p) hr (by (repeat' constructor)) (by omega) fun ba oa e => ?_
   subst e
   refine G.kDT (t := 34) rfl h8_35 (G.grun (t := 35) rfl rfl rfl (G.q (Quiet.move rfl) rfl (G.grun (t := 35) rfl rfl rfl (G.q (Quiet.move rfl) rfl (G.grun (t := 35) rfl rfl rfl ?_)))))
   refine G.q (Quiet.indexAddr rfl rfl el_31 (by omega)) rfl ?_
   refine G.grun (t := 35) rfl rfl rfl ?_
   refine G.q (Quiet.loadEl (p := p) (i := (i) * 1) (v := vint (zs.getD (i) 0)) rfl ag_3 (by (repeat' constructor)) hr (by have hil : i < zs.length := (by omega); simp [ints, List.getD_eq_getElem?_getD, hil])) rfl ?_
   refine G.grun (t := 35) rfl rfl rfl (G.q (Quiet.move rfl) rfl (G.grun (t := 35) rfl rfl rfl (G.q (Quiet.int rfl rfl rfl) rfl (G.grun (t := 35) rfl rfl rfl (G.q (Quiet.move rfl) rfl ?_)))))
   refine G.dec (t := 42) rfl (fun h8_42 => ?_) (fun h8_42 => ?_)
   ·refine G.kDT (t := 41) rfl h8_42 (G.gskip (t := 42) rfl rfl rfl rfl (G.gskip (t := 42) rfl rfl rfl rfl (G.gskip (t := 42) rfl rfl rfl rfl (G.gskip (t := 42) rfl rfl rfl rfl (G.gskip (t := 42) rfl rfl rfl rfl (G.gskip (t := 42) rfl rfl rfl rfl (G.gskipU (t := 48) rfl rfl rfl (G.gskipU (t := 48) rfl rfl rfl (G.gskip (t := 42) rfl rfl rfl rfl (G.grun (t := 35) rfl rfl rfl (G.q (Quiet.pickT rfl rfl) rfl (G.q (Quiet.pickT rfl rfl) rfl (G.q (Quiet.assign rfl) rfl (G.q (Quiet.assign rfl) rfl (G.nil (G.then_n (G.ret ?_)))))))))))))))))
    have hji : j = i := by omega
    subst hji
    exact G.done (l := [.tmp 4, .tmp 5]) rfl rfl ⟨⟨_, by rw [decide_eq_true (bs_in hs (by omega) h8_42).1], fun _ => (bs_in hs (by omega) h8_42).2⟩, rfl⟩ (by (repeat' constructor)) (by (repeat' constructor))
   ·refine G.kDF (t := 41) rfl h8_42 (G.grun (t := 42) rfl rfl rfl (G.q (Quiet.move rfl) rfl (G.grun (t := 42) rfl rfl rfl (G.q (Quiet.move rfl) rfl (G.grun (t := 42) rfl rfl rfl ?_)))))
    refine G.q (Quiet.indexAddr rfl rfl el_31 (by omega)) rfl ?_
    refine G.grun (t := 42) rfl rfl rfl ?_
    refine G.q (Quiet.loadEl (p := p) (i := (i) * 1) (v := vint (zs.getD (i) 0)) rfl ag_3 (by (repeat' constructor)) hr (by have hil : i < zs.length := (by omega); simp [ints, List.getD_eq_getElem?_getD, hil])) rfl ?_
    refine G.grun (t := 42) rfl rfl rfl ?_
    refine G.op (OpSpec.call Tryz.func175 rfl rfl (vs := [_]) rfl (snan_spec _)) (by (repeat' constructor)) rfl ?nx37
    rintro v L' ⟨rfl, rfl⟩
    refine G.grun (t := 42) rfl rfl rfl (G.q (Quiet.move rfl) rfl (G.gskip (t := 48) rfl rfl rfl rfl (G.gskip (t := 48) rfl rfl rfl rfl (G.grun (t := 42) rfl rfl rfl (G.q (Quiet.pickF rfl rfl) rfl (G.grun (t := 35) rfl rfl rfl (G.q (Quiet.pickF rfl rfl) rfl (G.q (Quiet.pickT rfl rfl) rfl (G.q (Quiet.assign rfl) rfl (G.q (Quiet.assign rfl) rfl (G.nil (G.then_n (G.ret ?_)))))))))))))
    have hji : j = i := by omega
    subst hji
    exact G.done (l := [.tmp 4, .tmp 5]) rfl rfl ⟨⟨_, by rw [decide_eq_false (bs_out hs hlo hhi (fun g => h8_42 g.2))], fun h => absurd h (bs_out hs hlo hhi (fun g => h8_42 g.2))⟩, rfl⟩ (by (repeat' constructor)) (by (repeat' constructor))
  ·refine G.kDF (t := 34) rfl h8_35 (G.gskip (t := 35) rfl rfl rfl rfl (G.gskip (t := 35) rfl rfl rfl rfl (G.gskip (t := 35) rfl rfl rfl rfl (G.gskip (t := 35) rfl rfl rfl rfl (G.gskip (t := 35) rfl rfl rfl rfl (G.gskip (t := 35) rfl rfl rfl rfl (G.gskip (t := 35) rfl rfl rfl rfl (G.gskipU (t := 42) rfl rfl rfl (G.gskipU (t := 42) rfl rfl rfl (G.gskipU (t := 42) rfl rfl rfl (G.gskipU (t := 42) rfl rfl rfl (G.gskipU (t := 42) rfl rfl rfl (G.gskipU (t := 42) rfl rfl rfl (G.gskipU (t := 48) rfl rfl rfl (G.gskipU (t := 48) rfl rfl rfl (G.gskipU (t := 42) rfl rfl rfl (G.gskip (t := 35) rfl rfl rfl rfl (G.q (Quiet.pickF rfl rfl) rfl (G.q (Quiet.assign rfl) rfl (G.q (Quiet.assign rfl) rfl (G.nil (G.then_n (G.ret ?_)))))))))))))))))))))))
   have hji : j = i := by omega
   subst hji
   exact G.done (l := [.tmp 4, .tmp 5]) rfl rfl ⟨⟨_, by rw [decide_eq_false (bs_out hs hlo hhi (fun g => by omega))], fun h => absurd h (bs_out hs hlo hhi (fun g => by omega))⟩, rfl⟩ (by (repeat' constructor)) (by (repeat' constructor))

set_option maxRecDepth 100000 in
theorem lupto_spec (g x : Nat) (Λ : Lg) (z : Int) (hΛ : LgI Λ) (hs : Λ.zxs.Pairwise (· < ·)) : Fn Tryz.prog 74 #[vptr g, vint z] [lgR g x Λ] fun v L => v = .tuple #[vint ((placeZ Λ z).getD 0 : Nat), .bool (placeZ Λ z).isSome] ∧ L = [lgR g x Λ] := by
 refine Fn.intro (vs := [vptr g, vint z]) Tryz.func74 rfl rfl ?_
 intro F W
 refine G.lgOpen (by (repeat' constructor)) fun ea ec za zc => ?_
 have h1 := hΛ.ents
 have h2 := hΛ.same
 refine G.seq (G.region (G.q (Quiet.assign rfl) rfl (G.q (Quiet.assign rfl) rfl (G.nil (G.then_n (G.seq (G.region (G.q (Quiet.move rfl) rfl (G.q (Quiet.nilp rfl) rfl (G.q (Quiet.fieldAddr rfl fo_79_5) rfl ?_))))))))))
 refine G.q (Quiet.load rfl ag_31 (by (repeat' constructor)) (rfl)) rfl ?_
 refine G.q (Quiet.move rfl) rfl ?_
 refine G.op (OpSpec.call Tryz.func133 rfl rfl (vs := [_, _]) rfl (bsearch_spec _ Λ.zxs z (intR (.slice za Λ.zxs.length zc) Λ.zxs) (fun h hp => slR_rd hp) hs (by omega))) (by (repeat' constructor)) rfl ?nx8
 rintro v L' ⟨⟨i, rfl, hix⟩, rfl⟩
 refine G.q (Quiet.move rfl) rfl (G.q (Quiet.extract rfl rfl) rfl (G.q (Quiet.extract rfl rfl) rfl (G.q (Quiet.assign rfl) rfl (G.q (Quiet.assign rfl) rfl (G.nil (G.then_n (G.seq (G.seq (G.region (G.q (Quiet.move rfl) rfl (G.nil (G.then_n ?_))))))))))))
 refine G.condD rfl (fun h17 => ?_) (fun h17 => ?_)
 ·have hil := List.idxOf_lt_length_of_mem h17
  have hi := hix h17
  refine G.seq (G.region (G.q (Quiet.move rfl) rfl ?_))
  refine G.q (Quiet.add rfl rfl (by omega)) rfl ?_
  refine G.q (Quiet.assign rfl) rfl (G.q (Quiet.assign rfl) rfl (G.nil (G.then_n (G.ret (G.then_r ?_)))))
  refine G.lgFold (g := g) (x := x) (ea := ea) (ec := ec) (za := za) (zc := zc) (m := Λ.ents.length) (k := Λ.zxs.length) Λ (by (repeat' constructor)) (by exact rfl) (by first | rfl | simp [Lg.keep]) (by first | rfl | simp [Lg.keep]) (by first | rfl | simp [Lg.keep]) (by first | rfl | simp [Lg.keep]) ?_
  have hp : placeZ Λ z = some (Λ.zxs.idxOf z + 1) := by unfold placeZ; rw [if_pos h17]
  rw [hp, hi]
  exact G.done (l := [.tmp 4, .tmp 5]) rfl rfl ⟨by simp, rfl⟩ (by (repeat' constructor)) (by (repeat' constructor))
 ·refine G.skip (G.then_n (G.seq ?_))
  refine G.draw [] [[0, 1, 2, 3, 4, 5, 6, 7]] mixed (by kernel_rfl) ?_
  refine Phases.go [] (by (repeat' constructor)) ?_
  refine D.qw [5, 7] rfl (by kernel_rfl) (Quiet.move rfl) ?_
  refine D.qw [2, 3, 4, 5, 7] rfl (by kernel_rfl) (Quiet.move rfl) ?_
  refine D.qw [3, 4, 5, 7] rfl (by kernel_rfl) (Quiet.nilp rfl) ?_
  refine D.qw [4, 5, 7] rfl (by kernel_rfl) (Quiet.fieldAddr rfl fo_79_2) ?_
  refine D.qw [5, 7] rfl (by kernel_rfl) (Quiet.load rfl ag_3 (by (repeat' constructor)) (rfl)) ?_
  refine D.qw [7] rfl (by kernel_rfl) (Quiet.int rfl rfl rfl) ?_
  refine D.qw [7] rfl (by kernel_rfl) (Quiet.assign rfl) ?_
  refine D.qw [] rfl (by kernel_rfl) (Quiet.assign rfl) ?_
  refine D.ph (Phases.fin (G.then_n (G.ret ?_)))
  refine G.lgFold (g := g) (x := x) (ea := ea) (ec := ec) (za := za) (zc := zc) (m := Λ.ents.length) (k := Λ.zxs.length) Λ (by (repeat' constructor)) (by exact rfl) (by first | rfl | simp [Lg.keep]) (by first | rfl | simp [Lg.keep]) (by first | rfl | simp [Lg.keep]) (by first | rfl | simp [Lg.keep]) ?_
  have hp : placeZ Λ z = if z = Λ.base then some 0 else none := by unfold placeZ; rw [if_neg h17]
  rw [hp]
  exact G.done (l := [.tmp 4, .tmp 5]) rfl rfl ⟨by by_cases hz : z = Λ.base <;> simp [hz], rfl⟩ (by (repeat' constructor)) (by (repeat' constructor))

set_option maxRecDepth 100000 in
theorem lmetC_spec (g x : Nat) (Λ : Lg) (e : Int) (ea : Option Addr) (ec : Nat) (za : Option Addr) (zc : Nat) : Fn Tryz.prog 50 #[vptr g, vint e] [ptc g [vint Λ.acc, vint Λ.cur, vptr x, vint Λ.base, vstr Λ.snap, .slice ea Λ.ents.length ec, .slice za Λ.zxs.length zc, .bool Λ.doubt] 79] fun v L => v = vint (metE e) ∧ L = [ptc g [vint Λ.acc, vint Λ.cur, vptr x, vint Λ.base, vstr Λ.snap, .slice ea Λ.ents.length ec, .slice za Λ.zxs.length zc, .bool (Λ.met e).doubt] 79] := by
 refine Fn.intro (vs := [vptr g, vint e]) Tryz.func50 rfl rfl ?_
 intro F W
 refine G.seq (G.region (G.q (Quiet.assign rfl) rfl (G.nil (G.then_n (G.seq (G.seq (G.region (G.q (Quiet.move rfl) rfl (G.nil (G.then_n (G.block (G.seq (G.region (G.q (Quiet.int rfl rfl rfl) rfl (G.q (Quiet.assign rfl) rfl (G.nil (G.then_n ?_)))))))))))))))))
 refine G.condD rfl (fun h6 => ?_) (fun h6 => ?_)
 ·refine G.region (G.q (Quiet.move rfl) rfl (G.q (Quiet.nilp rfl) rfl (G.q (Quiet.fieldAddr rfl fo_79_6) rfl ?_)))
  refine G.op (OpSpec.store rfl rfl rfl sz_4 ?c7 ?c8) (by (repeat' constructor)) rfl ?nx9
  case c7 => first | decide | (simp; omega) | simp
  case c8 => exact nfz0 _ _
  rintro v L' rfl
  refine G.nil (G.blk_n (G.then_n (G.seq (G.region (G.q (Quiet.move rfl) rfl (G.q (Quiet.assign rfl) rfl (G.nil (G.then_n (G.ret ?_)))))))))
  have hm : (Λ.met e).doubt = true := by unfold Lg.met; rw [if_pos h6]
  have he : metE e = e := by unfold metE; rw [if_neg (by omega)]
  rw [hm, he]
  exact G.done (l := [.tmp 4]) rfl rfl ⟨rfl, rfl⟩ (by (repeat' constructor)) (by (repeat' constructor))
 ·refine G.seq (G.seq (G.region (G.q (Quiet.int rfl rfl rfl) rfl (G.q (Quiet.assign rfl) rfl (G.nil (G.then_n ?_))))))
  refine G.dec (t := 11) rfl (fun h11 => ?_) (fun h11 => ?_)
  ·refine G.condT rfl (G.skip (G.then_n (G.condT rfl (G.seq (G.region (G.q (Quiet.assign rfl) rfl (G.nil (G.then_n (G.ret (G.blk_r (G.then_r ?_)))))))))))
   have hm : (Λ.met e).doubt = Λ.doubt := by unfold Lg.met; rw [if_neg h6]
   have he : metE e = 83 := by unfold metE; rw [if_pos (by omega)]
   rw [hm, he]
   exact G.done (l := [.tmp 4]) rfl rfl ⟨rfl, rfl⟩ (by (repeat' constructor)) (by (repeat' constructor))
  ·refine G.condF rfl (G.region (G.q (Quiet.int rfl rfl rfl) rfl (G.q (Quiet.assign rfl) rfl (G.nil (G.then_n ?_)))))
   refine G.dec (t := 11) rfl (fun h11 => ?_) (fun h11 => ?_)
   ·refine G.condT rfl (G.seq (G.region (G.q (Quiet.assign rfl) rfl (G.nil (G.then_n (G.ret (G.blk_r (G.then_r ?_))))))))
    have hm : (Λ.met e).doubt = Λ.doubt := by unfold Lg.met; rw [if_neg h6]
    have he : metE e = 83 := by unfold metE; rw [if_pos (by omega)]
    rw [hm, he]
    exact G.done (l := [.tmp 4]) rfl rfl ⟨rfl, rfl⟩ (by (repeat' constructor)) (by (repeat' constructor))
   ·refine G.condF rfl (G.skip (G.blk_n (G.then_n (G.seq (G.region (G.q (Quiet.move rfl) rfl (G.q (Quiet.assign rfl) rfl (G.nil (G.then_n (G.ret ?_))))))))))
    have hm : (Λ.met e).doubt = Λ.doubt := by unfold Lg.met; rw [if_neg h6]
    have he : metE e = e := by unfold metE; rw [if_neg (by omega)]
    rw [hm, he]
    exact G.done (l := [.tmp 4]) rfl rfl ⟨rfl, rfl⟩ (by (repeat' constructor)) (by (repeat' constructor))

theorem met_acc {Λ : Lg} {e : Int} : (Λ.met e).acc = Λ.acc := by unfold Lg.met; split <;> rfl
theorem met_cur {Λ : Lg} {e : Int} : (Λ.met e).cur = Λ.cur := by unfold Lg.met; split <;> rfl
theorem met_base {Λ : Lg} {e : Int} : (Λ.met e).base = Λ.base := by unfold Lg.met; split <;> rfl
theorem met_snap {Λ : Lg} {e : Int} : (Λ.met e).snap = Λ.snap := by unfold Lg.met; split <;> rfl
theorem met_ents {Λ : Lg} {e : Int} : (Λ.met e).ents = Λ.ents := by unfold Lg.met; split <;> rfl
theorem met_zxs {Λ : Lg} {e : Int} : (Λ.met e).zxs = Λ.zxs := by unfold Lg.met; split <;> rfl
theorem doubt_of {Λ : Lg} {e : Int} (h : metE e = 0) : (Λ.met e).doubt = Λ.doubt := by
  unfold Lg.met
  rw [if_neg]
  intro g; rw [g] at h; exact absurd h (by decide)
set_option maxRecDepth 100000 in
theorem lcut_spec (g x d : Nat) (δ : Dk) (ω : Wl) (Λ : Lg) (z : Int) (hI : WlI δ ω) (hΛ : LgI Λ) (hs : Λ.zxs.Pairwise (· < ·)) (hsn : Λ.snap.length ≤ 65536) : Fn Tryz.prog 27 #[vptr g, vint z] [lgR g x Λ, wlR x d ω, dkR d δ] fun v L => v = vint (lgCut ⟨δ, ω, Λ⟩ z).2 ∧ L = [lgR g x (lgCut ⟨δ, ω, Λ⟩ z).1.Λ, wlR x d (lgCut ⟨δ, ω, Λ⟩ z).1.ω, dkR d (lgCut ⟨δ, ω, Λ⟩ z).1.δ] := by
 refine Fn.intro (vs := [vptr g, vint z]) Tryz.func27 rfl rfl ?_
 intro F W
 refine G.lgOpen (by (repeat' constructor)) fun ea ec za zc => ?_
 have h1 := hΛ.ents
 have h2 := hΛ.same
 have h0 := headL_len Λ.base Λ.snap hsn
 refine G.seq (G.region (G.q (Quiet.assign rfl) rfl (G.nil (G.then_n (G.seq (G.seq (G.region (G.q (Quiet.move rfl) rfl (G.q (Quiet.nilp rfl) rfl (G.q (Quiet.fieldAddr rfl fo_79_6) rfl ?_))))))))))
 refine G.q (Quiet.load rfl ag_4 (by (repeat' constructor)) (rfl)) rfl ?_
 refine G.nil (G.then_n ?_)
 refine G.condB rfl (fun h11 => ?_) (fun h11 => ?_)
 ·refine G.seq (G.region (G.q (Quiet.assign rfl) rfl (G.nil (G.then_n (G.ret (G.then_r ?_))))))
  have hr : lgCut ⟨δ, ω, Λ⟩ z = (⟨δ, ω, Λ⟩, 2) := by unfold lgCut; dsimp only; rw [if_pos h11]
  rw [hr]
  try dsimp only
  refine G.lgFold (g := g) (x := x) Λ (by (repeat' constructor)) (by exact rfl) (by first | rfl | simp [Lg.keep]) (by first | rfl | simp [Lg.keep]) (by first | rfl | simp [Lg.keep]) (by first | rfl | simp [Lg.keep]) ?_
  exact G.done (l := [.tmp 4]) rfl rfl ⟨rfl, rfl⟩ (by (repeat' constructor)) (by (repeat' constructor))
 ·refine G.skip (G.then_n (G.seq ?_))
  refine G.lgFold (g := g) (x := x) Λ (by (repeat' constructor)) (by exact rfl) (by first | rfl | simp [Lg.keep]) (by first | rfl | simp [Lg.keep]) (by first | rfl | simp [Lg.keep]) (by first | rfl | simp [Lg.keep]) ?_
  refine G.region (G.q (Quiet.move rfl) rfl (G.q (Quiet.move rfl) rfl ?_))
  refine G.op (OpSpec.call Tryz.func74 rfl rfl (vs := [_, _]) rfl (lupto_spec g x Λ z hΛ hs)) (by (repeat' constructor)) rfl ?nx9
  rintro v L' ⟨rfl, rfl⟩
  refine G.q (Quiet.move rfl) rfl (G.q (Quiet.extract rfl rfl) rfl (G.q (Quiet.extract rfl rfl) rfl (G.q (Quiet.assign rfl) rfl (G.q (Quiet.assign rfl) rfl (G.nil (G.then_n (G.seq (G.seq (G.region ?_)))))))))
  rcases hpl : placeZ Λ z with _ | n
  ·refine G.q (Quiet.move rfl) rfl (G.q (Quiet.not rfl) rfl (G.nil (G.then_n (G.condT rfl (G.seq (G.region (G.q (Quiet.assign rfl) rfl (G.nil (G.then_n (G.ret (G.then_r ?_)))))))))))
   have hr : lgCut ⟨δ, ω, Λ⟩ z = (⟨δ, ω, Λ⟩, 81) := by unfold lgCut; dsimp only; rw [if_neg (by rw [h11]; decide), hpl]
   rw [hr]
   try dsimp only
   exact G.done (l := [.tmp 4]) rfl rfl ⟨rfl, rfl⟩ (by (repeat' constructor)) (by (repeat' constructor))
  ·simp only [Option.getD_some]
   have hpe := (place_le hpl).1
   refine G.q (Quiet.move rfl) rfl (G.q (Quiet.not rfl) rfl (G.nil (G.then_n (G.condF rfl (G.skip (G.then_n (G.seq ?_)))))))
   refine G.lgOpen (by (repeat' constructor)) fun ea ec za zc => ?_
   refine G.slAddr (a := ea) (c := ec) (by (repeat' constructor)) fun hcap1 hadea => ?_
   refine G.slAddr (a := za) (c := zc) (by (repeat' constructor)) fun hcap2 hadza => ?_
   refine G.draw [4, 8, 12, 13, 17, 18] [[0, 1, 2, 3, 5, 6, 7, 9, 10, 11, 15, 8, 12, 13, 14, 16, 4, 17], [18], [19]] mixed (by kernel_rfl) ?_
   refine Phases.go [] (by (repeat' constructor)) ?_
   refine D.q rfl (by kernel_rfl) (Quiet.move rfl) ?_
   refine D.q rfl (by kernel_rfl) (Quiet.move rfl) ?_
   refine D.q rfl (by kernel_rfl) (Quiet.nilp rfl) ?_
   refine D.q rfl (by kernel_rfl) (Quiet.fieldAddr rfl fo_79_1) ?_
   refine D.q rfl (by kernel_rfl) (Quiet.move rfl) ?_
   refine D.q rfl (by kernel_rfl) (Quiet.nilp rfl) ?_
   refine D.q rfl (by kernel_rfl) (Quiet.fieldAddr rfl fo_79_2) ?_
   refine D.q rfl (by kernel_rfl) (Quiet.move rfl) ?_
   refine D.q rfl (by kernel_rfl) (Quiet.nilp rfl) ?_
   refine D.q rfl (by kernel_rfl) (Quiet.fieldAddr rfl fo_79_3) ?_
   refine D.q rfl (by kernel_rfl) (Quiet.move rfl) ?_
   refine D.h3 (k := 12) (l := 4) rfl rfl rfl (by kernel_rfl) rfl rfl (Quiet.spec (L := [ptc g [vint Λ.acc, vint Λ.cur, vptr x, vint Λ.base, vstr Λ.snap, .slice ea Λ.ents.length ec, .slice za Λ.zxs.length zc, .bool Λ.doubt] 79]) (Quiet.load rfl ag_3 (by (repeat' constructor)) rfl)) (by (repeat' constructor)) (Quiet.spec (L := [ptc g [vint Λ.acc, vint Λ.cur, vptr x, vint Λ.base, vstr Λ.snap, .slice ea Λ.ents.length ec, .slice za Λ.zxs.length zc, .bool Λ.doubt] 79]) (Quiet.load rfl ag_9 (by (repeat' constructor)) rfl)) (by (repeat' constructor)) (Quiet.spec (L := [ptc g [vint Λ.acc, vint Λ.cur, vptr x, vint Λ.base, vstr Λ.snap, .slice ea Λ.ents.length ec, .slice za Λ.zxs.length zc, .bool Λ.doubt] 79]) (Quiet.load rfl ag_77 (by (repeat' constructor)) rfl)) (by (repeat' constructor)) ?nx26 ?nx27 ?nx28
   ·rintro v L' ⟨rfl, rfl⟩
    refine D.h2 (k := 4) rfl rfl (by kernel_rfl) rfl (Quiet.spec (L := [ptc g [vint Λ.acc, vint Λ.cur, vptr x, vint Λ.base, vstr Λ.snap, .slice ea Λ.ents.length ec, .slice za Λ.zxs.length zc, .bool Λ.doubt] 79]) (Quiet.load rfl ag_9 (by (repeat' constructor)) rfl)) (by (repeat' constructor)) (Quiet.spec (L := [ptc g [vint Λ.acc, vint Λ.cur, vptr x, vint Λ.base, vstr Λ.snap, .slice ea Λ.ents.length ec, .slice za Λ.zxs.length zc, .bool Λ.doubt] 79]) (Quiet.load rfl ag_77 (by (repeat' constructor)) rfl)) (by (repeat' constructor)) ?nx30 ?nx31
    ·rintro v L' ⟨rfl, rfl⟩
     refine D.h2 (k := 4) rfl rfl (by kernel_rfl) rfl (OpSpec.call Tryz.func46 rfl rfl (vs := [_, _]) rfl (lahead_spec Λ.base Λ.snap hΛ.base (by omega))) (by (repeat' constructor)) (Quiet.spec (L := [ptc g [vint Λ.acc, vint Λ.cur, vptr x, vint Λ.base, vstr Λ.snap, .slice ea Λ.ents.length ec, .slice za Λ.zxs.length zc, .bool Λ.doubt] 79]) (Quiet.load rfl ag_77 (by (repeat' constructor)) rfl)) (by (repeat' constructor)) ?nx33 ?nx34
     ·rintro v L' ⟨bh, ch, rfl, rfl⟩
      refine D.q rfl (by kernel_rfl) (Quiet.slen rfl Tryz.underlying46 rfl) ?_
      refine D.q rfl (by kernel_rfl) (Quiet.as (v' := vint (((headL Λ.base Λ.snap).length + n : Nat) : Int)) (by simp) (Quiet.add rfl rfl (by omega))) ?_
      refine D.h rfl (by kernel_rfl) (Quiet.spec (L := [ptc g [vint Λ.acc, vint Λ.cur, vptr x, vint Λ.base, vstr Λ.snap, .slice ea Λ.ents.length ec, .slice za Λ.zxs.length zc, .bool Λ.doubt] 79]) (Quiet.load rfl ag_77 (by (repeat' constructor)) rfl)) (by (repeat' constructor)) ?nx38
      rintro v L' ⟨rfl, rfl⟩
      refine D.h rfl (by kernel_rfl) (OpSpec.call Tryz.func75 rfl rfl (vs := [_, _]) rfl (wcut_spec x d ω δ (((headL Λ.base Λ.snap).length + n : Nat) : Int) hI)) (by (repeat' constructor)) ?nx40
      rintro v L' ⟨rfl, rfl⟩
      refine D.ph ?_
      refine Phases.go [] (by (repeat' constructor)) ?_
      refine D.h rfl (by kernel_rfl) (OpSpec.call Tryz.func50 rfl rfl (vs := [_, _]) rfl (lmetC_spec g x Λ _ ea ec za zc)) (by (repeat' constructor)) ?nx42
      rintro v L' ⟨rfl, rfl⟩
      refine D.ph ?_
      refine Phases.go [] (by (repeat' constructor)) ?_
      refine D.qw [] rfl (by kernel_rfl) (Quiet.assign rfl) ?_
      refine D.ph (Phases.fin (G.then_n (G.seq (G.seq (G.region (G.q (Quiet.move rfl) rfl (G.q (Quiet.int rfl rfl rfl) rfl (G.nil (G.then_n ?_)))))))))
      refine G.condD rfl (fun h40 => ?_) (fun h40 => ?_)
      ·refine G.draw [16, 19] [[0, 1, 2, 3, 4, 5, 6, 7, 8, 9, 10, 11, 12, 13, 14, 15, 16], [17, 18, 19]] mixed (by kernel_rfl) ?_
       refine Phases.go [] (by (repeat' constructor)) ?_
       refine D.qw [14, 15, 16] rfl (by kernel_rfl) (Quiet.move rfl) ?_
       refine D.q rfl (by kernel_rfl) (Quiet.move rfl) ?_
       refine D.qw [3, 4, 5, 7, 14, 15, 16] rfl (by kernel_rfl) (Quiet.move rfl) ?_
       refine D.qw [4, 5, 7, 14, 15, 16] rfl (by kernel_rfl) (Quiet.nilp rfl) ?_
       refine D.qw [5, 7, 14, 15, 16] rfl (by kernel_rfl) (Quiet.fieldAddr rfl fo_79_4) ?_
       refine D.qw [7, 14, 15, 16] rfl (by kernel_rfl) (Quiet.load rfl ag_46 (by (repeat' constructor)) (rfl)) ?_
       refine D.qw [7, 14, 15, 16] rfl (by kernel_rfl) (Quiet.move rfl) ?_
       refine D.qw [14, 15, 16] rfl (by kernel_rfl) (Quiet.to (v' := .slice ea n ec) (Quiet.slTo (j := (n : Int)) rfl el_46 rfl (by omega) hadea) (by rw [Int.toNat_natCast])) ?_
       refine D.qw [9, 10, 11, 13, 14, 15, 16] rfl (by kernel_rfl) (Quiet.move rfl) ?_
       refine D.qw [10, 11, 13, 14, 15, 16] rfl (by kernel_rfl) (Quiet.nilp rfl) ?_
       refine D.qw [11, 13, 14, 15, 16] rfl (by kernel_rfl) (Quiet.fieldAddr rfl fo_79_5) ?_
       refine D.qw [13, 14, 15, 16] rfl (by kernel_rfl) (Quiet.load rfl ag_31 (by (repeat' constructor)) (rfl)) ?_
       refine D.q rfl (by kernel_rfl) (Quiet.move rfl) ?_
       refine D.q rfl (by kernel_rfl) (Quiet.to (v' := .slice za n zc) (Quiet.slTo (j := (n : Int)) rfl el_31 rfl (by omega) hadza) (by rw [Int.toNat_natCast])) ?_
       refine D.qw [15, 16] rfl (by kernel_rfl) (Quiet.nilp rfl) ?_
       refine D.qw [16] rfl (by kernel_rfl) (Quiet.fieldAddr rfl fo_79_4) ?_
       refine D.h rfl (by kernel_rfl) (OpSpec.store rfl rfl rfl sz_46 ?c59 ?c60) (by (repeat' constructor)) ?nx61
       case c59 => first | decide | (simp; omega) | simp
       case c60 => exact nfz0 _ _
       rintro v L' rfl
       refine D.ph ?_
       refine Phases.go [] (by (repeat' constructor)) ?_
       refine D.qw [18, 19] rfl (by kernel_rfl) (Quiet.nilp rfl) ?_
       refine D.qw [19] rfl (by kernel_rfl) (Quiet.fieldAddr rfl fo_79_5) ?_
       refine D.h rfl (by kernel_rfl) (OpSpec.store rfl rfl rfl sz_31 ?c64 ?c65) (by (repeat' constructor)) ?nx66
       case c64 => first | decide | (simp; omega) | simp
       case c65 => exact nfz0 _ _
       rintro v L' rfl
       refine D.ph (Phases.fin (G.then_n (G.seq (G.region (G.q (Quiet.move rfl) rfl (G.q (Quiet.assign rfl) rfl (G.nil (G.then_n (G.ret ?_)))))))))
       have hr : lgCut ⟨δ, ω, Λ⟩ z = lgCut2 ⟨δ, ω, Λ⟩ n := by unfold lgCut; dsimp only; rw [if_neg (by rw [h11]; decide), hpl]
       rw [hr]
       have hr2 : lgCut2 ⟨δ, ω, Λ⟩ n = (⟨(cutZ δ ω (((headL Λ.base Λ.snap).length + n : Nat) : Int)).1, (cutZ δ ω (((headL Λ.base Λ.snap).length + n : Nat) : Int)).2.1, ⟨Λ.acc, Λ.cur, Λ.base, Λ.snap, Λ.ents.take n, Λ.zxs.take n, Λ.doubt⟩⟩, 0) := by unfold lgCut2; dsimp only; rw [if_pos (show (metL Λ (cutZ δ ω (((headL Λ.base Λ.snap).length + n : Nat) : Int))).2 = 0 from h40)]
       rw [hr2, h40]
       try dsimp only
       refine G.slTo (a := ea) (c := ec) (m := Λ.ents.length) (k := n) (by omega) (by (repeat' constructor)) ?_
       refine G.slTo (a := za) (c := zc) (m := Λ.zxs.length) (k := n) (by omega) (by (repeat' constructor)) ?_
       have hmd : (Λ.met (cutZ δ ω (((headL Λ.base Λ.snap).length + n : Nat) : Int)).2.2).doubt = Λ.doubt := by unfold Lg.met; rw [if_neg (fun g2 => by rw [g2] at h40; exact absurd h40 (by decide))]
       rw [hmd]
       refine G.lgFold (g := g) (x := x) (ea := ea) (ec := ec) (za := za) (zc := zc) (m := n) (k := n) (⟨Λ.acc, Λ.cur, Λ.base, Λ.snap, Λ.ents.take n, Λ.zxs.take n, Λ.doubt⟩ : Lg) (by (repeat' constructor)) rfl (by simp; omega) (by simp; omega) (by simp [strs, List.map_take]) (by simp [ints, List.map_take]) ?_
       exact G.done (l := [.tmp 4]) rfl rfl ⟨rfl, rfl⟩ (by (repeat' constructor)) (by (repeat' constructor))
      ·refine G.skip (G.then_n (G.seq (G.region (G.q (Quiet.move rfl) rfl (G.q (Quiet.assign rfl) rfl (G.nil (G.then_n (G.ret ?_))))))))
       have hr : lgCut ⟨δ, ω, Λ⟩ z = lgCut2 ⟨δ, ω, Λ⟩ n := by unfold lgCut; dsimp only; rw [if_neg (by rw [h11]; decide), hpl]
       rw [hr]
       have hr2 : lgCut2 ⟨δ, ω, Λ⟩ n = metL Λ (cutZ δ ω (((headL Λ.base Λ.snap).length + n : Nat) : Int)) := by unfold lgCut2; dsimp only; rw [if_neg (show ¬ (metL Λ (cutZ δ ω (((headL Λ.base Λ.snap).length + n : Nat) : Int))).2 = 0 from h40)]
       rw [hr2]
       try dsimp only
       refine G.lgFold (g := g) (x := x) (ea := ea) (ec := ec) (za := za) (zc := zc) (m := Λ.ents.length) (k := Λ.zxs.length) (Λ.met (cutZ δ ω (((headL Λ.base Λ.snap).length + n : Nat) : Int)).2.2) (by (repeat' constructor)) (by rw [met_acc, met_cur, met_base, met_snap]) (by rw [met_ents]) (by rw [met_zxs]) (by rw [met_ents]) (by rw [met_zxs]) ?_
       exact G.done (l := [.tmp 4]) rfl rfl ⟨rfl, rfl⟩ (by (repeat' constructor)) (by (repeat' constructor))
     ·rintro v L' ⟨rfl, rfl⟩
      refine D.h rfl (by kernel_rfl) (OpSpec.call Tryz.func46 rfl rfl (vs := [_, _]) rfl (lahead_spec Λ.base Λ.snap hΛ.base (by omega))) (by (repeat' constructor)) ?nx68
      rintro v L' ⟨bh, ch, rfl, rfl⟩
      refine D.qw [16, 17] rfl (by kernel_rfl) (Quiet.slen rfl Tryz.underlying46 rfl) ?_
      refine D.qw [17] rfl (by kernel_rfl) (Quiet.as (v' := vint (((headL Λ.base Λ.snap).length + n : Nat) : Int)) (by simp) (Quiet.add rfl rfl (by omega))) ?_
      refine D.h rfl (by kernel_rfl) (OpSpec.call Tryz.func75 rfl rfl (vs := [_, _]) rfl (wcut_spec x d ω δ (((headL Λ.base Λ.snap).length + n : Nat) : Int) hI)) (by (repeat' constructor)) ?nx72
      rintro v L' ⟨rfl, rfl⟩
      refine D.ph ?_
      refine Phases.go [] (by (repeat' constructor)) ?_
      refine D.h rfl (by kernel_rfl) (OpSpec.call Tryz.func50 rfl rfl (vs := [_, _]) rfl (lmetC_spec g x Λ _ ea ec za zc)) (by (repeat' constructor)) ?nx74
      rintro v L' ⟨rfl, rfl⟩
      refine D.ph ?_
      refine Phases.go [] (by (repeat' constructor)) ?_
      refine D.qw [] rfl (by kernel_rfl) (Quiet.assign rfl) ?_
      refine D.ph (Phases.fin (G.then_n (G.seq (G.seq (G.region (G.q (Quiet.move rfl) rfl (G.q (Quiet.int rfl rfl rfl) rfl (G.nil (G.then_n ?_)))))))))
      refine G.condD rfl (fun h40 => ?_) (fun h40 => ?_)
      ·refine G.draw [16, 19] [[0, 1, 2, 3, 4, 5, 6, 7, 8, 9, 10, 11, 12, 13, 14, 15, 16], [17, 18, 19]] mixed (by kernel_rfl) ?_
       refine Phases.go [] (by (repeat' constructor)) ?_
       refine D.qw [14, 15, 16] rfl (by kernel_rfl) (Quiet.move rfl) ?_
       refine D.q rfl (by kernel_rfl) (Quiet.move rfl) ?_
       refine D.qw [3, 4, 5, 7, 14, 15, 16] rfl (by kernel_rfl) (Quiet.move rfl) ?_
       refine D.qw [4, 5, 7, 14, 15, 16] rfl (by kernel_rfl) (Quiet.nilp rfl) ?_
       refine D.qw [5, 7, 14, 15, 16] rfl (by kernel_rfl) (Quiet.fieldAddr rfl fo_79_4) ?_
       refine D.qw [7, 14, 15, 16] rfl (by kernel_rfl) (Quiet.load rfl ag_46 (by (repeat' constructor)) (rfl)) ?_
       refine D.qw [7, 14, 15, 16] rfl (by kernel_rfl) (Quiet.move rfl) ?_
       refine D.qw [14, 15, 16] rfl (by kernel_rfl) (Quiet.to (v' := .slice ea n ec) (Quiet.slTo (j := (n : Int)) rfl el_46 rfl (by omega) hadea) (by rw [Int.toNat_natCast])) ?_
       refine D.qw [9, 10, 11, 13, 14, 15, 16] rfl (by kernel_rfl) (Quiet.move rfl) ?_
       refine D.qw [10, 11, 13, 14, 15, 16] rfl (by kernel_rfl) (Quiet.nilp rfl) ?_
       refine D.qw [11, 13, 14, 15, 16] rfl (by kernel_rfl) (Quiet.fieldAddr rfl fo_79_5) ?_
       refine D.qw [13, 14, 15, 16] rfl (by kernel_rfl) (Quiet.load rfl ag_31 (by (repeat' constructor)) (rfl)) ?_
       refine D.q rfl (by kernel_rfl) (Quiet.move rfl) ?_
       refine D.q rfl (by kernel_rfl) (Quiet.to (v' := .slice za n zc) (Quiet.slTo (j := (n : Int)) rfl el_31 rfl (by omega) hadza) (by rw [Int.toNat_natCast])) ?_
       refine D.qw [15, 16] rfl (by kernel_rfl) (Quiet.nilp rfl) ?_
       refine D.qw [16] rfl (by kernel_rfl) (Quiet.fieldAddr rfl fo_79_4) ?_
       refine D.h rfl (by kernel_rfl) (OpSpec.store rfl rfl rfl sz_46 ?c91 ?c92) (by (repeat' constructor)) ?nx93
       case c91 => first | decide | (simp; omega) | simp
       case c92 => exact nfz0 _ _
       rintro v L' rfl
       refine D.ph ?_
       refine Phases.go [] (by (repeat' constructor)) ?_
       refine D.qw [18, 19] rfl (by kernel_rfl) (Quiet.nilp rfl) ?_
       refine D.qw [19] rfl (by kernel_rfl) (Quiet.fieldAddr rfl fo_79_5) ?_
       refine D.h rfl (by kernel_rfl) (OpSpec.store rfl rfl rfl sz_31 ?c96 ?c97) (by (repeat' constructor)) ?nx98
       case c96 => first | decide | (simp; omega) | simp
       case c97 => exact nfz0 _ _
       rintro v L' rfl
       refine D.ph (Phases.fin (G.then_n (G.seq (G.region (G.q (Quiet.move rfl) rfl (G.q (Quiet.assign rfl) rfl (G.nil (G.then_n (G.ret ?_)))))))))
       have hr : lgCut ⟨δ, ω, Λ⟩ z = lgCut2 ⟨δ, ω, Λ⟩ n := by unfold lgCut; dsimp only; rw [if_neg (by rw [h11]; decide), hpl]
       rw [hr]
       have hr2 : lgCut2 ⟨δ, ω, Λ⟩ n = (⟨(cutZ δ ω (((headL Λ.base Λ.snap).length + n : Nat) : Int)).1, (cutZ δ ω (((headL Λ.base Λ.snap).length + n : Nat) : Int)).2.1, ⟨Λ.acc, Λ.cur, Λ.base, Λ.snap, Λ.ents.take n, Λ.zxs.take n, Λ.doubt⟩⟩, 0) := by unfold lgCut2; dsimp only; rw [if_pos (show (metL Λ (cutZ δ ω (((headL Λ.base Λ.snap).length + n : Nat) : Int))).2 = 0 from h40)]
       rw [hr2, h40]
       try dsimp only
       refine G.slTo (a := ea) (c := ec) (m := Λ.ents.length) (k := n) (by omega) (by (repeat' constructor)) ?_
       refine G.slTo (a := za) (c := zc) (m := Λ.zxs.length) (k := n) (by omega) (by (repeat' constructor)) ?_
       have hmd : (Λ.met (cutZ δ ω (((headL Λ.base Λ.snap).length + n : Nat) : Int)).2.2).doubt = Λ.doubt := by unfold Lg.met; rw [if_neg (fun g2 => by rw [g2] at h40; exact absurd h40 (by decide))]
       rw [hmd]
       refine G.lgFold (g := g) (x := x) (ea := ea) (ec := ec) (za := za) (zc := zc) (m := n) (k := n) (⟨Λ.acc, Λ.cur, Λ.base, Λ.snap, Λ.ents.take n, Λ.zxs.take n, Λ.doubt⟩ : Lg) (by (repeat' constructor)) rfl (by simp; omega) (by simp; omega) (by simp [strs, List.map_take]) (by simp [ints, List.map_take]) ?_
       exact G.done (l := [.tmp 4]) rfl rfl ⟨rfl, rfl⟩ (by (repeat' constructor)) (by (repeat' constructor))
      ·refine G.skip (G.then_n (G.seq (G.region (G.q (Quiet.move rfl) rfl (G.q (Quiet.assign rfl) rfl (G.nil (G.then_n (G.ret ?_))))))))
       have hr : lgCut ⟨δ, ω, Λ⟩ z = lgCut2 ⟨δ, ω, Λ⟩ n := by unfold lgCut; dsimp only; rw [if_neg (by rw [h11]; decide), hpl]
       rw [hr]
       have hr2 : lgCut2 ⟨δ, ω, Λ⟩ n = metL Λ (cutZ δ ω (((headL Λ.base Λ.snap).length + n : Nat) : Int)) := by unfold lgCut2; dsimp only; rw [if_neg (show ¬ (metL Λ (cutZ δ ω (((headL Λ.base Λ.snap).length + n : Nat) : Int))).2 = 0 from h40)]
       rw [hr2]
       try dsimp only
       refine G.lgFold (g := g) (x := x) (ea := ea) (ec := ec) (za := za) (zc := zc) (m := Λ.ents.length) (k := Λ.zxs.length) (Λ.met (cutZ δ ω (((headL Λ.base Λ.snap).length + n : Nat) : Int)).2.2) (by (repeat' constructor)) (by rw [met_acc, met_cur, met_base, met_snap]) (by rw [met_ents]) (by rw [met_zxs]) (by rw [met_ents]) (by rw [met_zxs]) ?_
       exact G.done (l := [.tmp 4]) rfl rfl ⟨rfl, rfl⟩ (by (repeat' constructor)) (by (repeat' constructor))
    ·rintro v L' ⟨rfl, rfl⟩
     refine D.h rfl (by kernel_rfl) (Quiet.spec (L := [ptc g [vint Λ.acc, vint Λ.cur, vptr x, vint Λ.base, vstr Λ.snap, .slice ea Λ.ents.length ec, .slice za Λ.zxs.length zc, .bool Λ.doubt] 79]) (Quiet.load rfl ag_9 (by (repeat' constructor)) rfl)) (by (repeat' constructor)) ?nx100
     rintro v L' ⟨rfl, rfl⟩
     refine D.h rfl (by kernel_rfl) (OpSpec.call Tryz.func46 rfl rfl (vs := [_, _]) rfl (lahead_spec Λ.base Λ.snap hΛ.base (by omega))) (by (repeat' constructor)) ?nx102
     rintro v L' ⟨bh, ch, rfl, rfl⟩
     refine D.qw [16, 17] rfl (by kernel_rfl) (Quiet.slen rfl Tryz.underlying46 rfl) ?_
     refine D.qw [17] rfl (by kernel_rfl) (Quiet.as (v' := vint (((headL Λ.base Λ.snap).length + n : Nat) : Int)) (by simp) (Quiet.add rfl rfl (by omega))) ?_
     refine D.h rfl (by kernel_rfl) (OpSpec.call Tryz.func75 rfl rfl (vs := [_, _]) rfl (wcut_spec x d ω δ (((headL Λ.base Λ.snap).length + n : Nat) : Int) hI)) (by (repeat' constructor)) ?nx106
     rintro v L' ⟨rfl, rfl⟩
     refine D.ph ?_
     refine Phases.go [] (by (repeat' constructor)) ?_
     refine D.h rfl (by kernel_rfl) (OpSpec.call Tryz.func50 rfl rfl (vs := [_, _]) rfl (lmetC_spec g x Λ _ ea ec za zc)) (by (repeat' constructor)) ?nx108
     rintro v L' ⟨rfl, rfl⟩
     refine D.ph ?_
     refine Phases.go [] (by (repeat' constructor)) ?_
     refine D.qw [] rfl (by kernel_rfl) (Quiet.assign rfl) ?_
     refine D.ph (Phases.fin (G.then_n (G.seq (G.seq (G.region (G.q (Quiet.move rfl) rfl (G.q (Quiet.int rfl rfl rfl) rfl (G.nil (G.then_n ?_)))))))))
     refine G.condD rfl (fun h40 => ?_) (fun h40 => ?_)
     ·refine G.draw [16, 19] [[0, 1, 2, 3, 4, 5, 6, 7, 8, 9, 10, 11, 12, 13, 14, 15, 16], [17, 18, 19]] mixed (by kernel_rfl) ?_
      refine Phases.go [] (by (repeat' constructor)) ?_
      refine D.qw [14, 15, 16] rfl (by kernel_rfl) (Quiet.move rfl) ?_
      refine D.q rfl (by kernel_rfl) (Quiet.move rfl) ?_
      refine D.qw [3, 4, 5, 7, 14, 15, 16] rfl (by kernel_rfl) (Quiet.move rfl) ?_
      refine D.qw [4, 5, 7, 14, 15, 16] rfl (by kernel_rfl) (Quiet.nilp rfl) ?_
      refine D.qw [5, 7, 14, 15, 16] rfl (by kernel_rfl) (Quiet.fieldAddr rfl fo_79_4) ?_
      refine D.qw [7, 14, 15, 16] rfl (by kernel_rfl) (Quiet.load rfl ag_46 (by (repeat' constructor)) (rfl)) ?_
      refine D.qw [7, 14, 15, 16] rfl (by kernel_rfl) (Quiet.move rfl) ?_
      refine D.qw [14, 15, 16] rfl (by kernel_rfl) (Quiet.to (v' := .slice ea n ec) (Quiet.slTo (j := (n : Int)) rfl el_46 rfl (by omega) hadea) (by rw [Int.toNat_natCast])) ?_
      refine D.qw [9, 10, 11, 13, 14, 15, 16] rfl (by kernel_rfl) (Quiet.move rfl) ?_
      refine D.qw [10, 11, 13, 14, 15, 16] rfl (by kernel_rfl) (Quiet.nilp rfl) ?_
      refine D.qw [11, 13, 14, 15, 16] rfl (by kernel_rfl) (Quiet.fieldAddr rfl fo_79_5) ?_
      refine D.qw [13, 14, 15, 16] rfl (by kernel_rfl) (Quiet.load rfl ag_31 (by (repeat' constructor)) (rfl)) ?_
      refine D.q rfl (by kernel_rfl) (Quiet.move rfl) ?_
      refine D.q rfl (by kernel_rfl) (Quiet.to (v' := .slice za n zc) (Quiet.slTo (j := (n : Int)) rfl el_31 rfl (by omega) hadza) (by rw [Int.toNat_natCast])) ?_
      refine D.qw [15, 16] rfl (by kernel_rfl) (Quiet.nilp rfl) ?_
      refine D.qw [16] rfl (by kernel_rfl) (Quiet.fieldAddr rfl fo_79_4) ?_
      refine D.h rfl (by kernel_rfl) (OpSpec.store rfl rfl rfl sz_46 ?c125 ?c126) (by (repeat' constructor)) ?nx127
      case c125 => first | decide | (simp; omega) | simp
      case c126 => exact nfz0 _ _
      rintro v L' rfl
      refine D.ph ?_
      refine Phases.go [] (by (repeat' constructor)) ?_
      refine D.qw [18, 19] rfl (by kernel_rfl) (Quiet.nilp rfl) ?_
      refine D.qw [19] rfl (by kernel_rfl) (Quiet.fieldAddr rfl fo_79_5) ?_
      refine D.h rfl (by kernel_rfl) (OpSpec.store rfl rfl rfl sz_31 ?c130 ?c131) (by (repeat' constructor)) ?nx132
      case c130 => first | decide | (simp; omega) | simp
      case c131 => exact nfz0 _ _
      rintro v L' rfl
      refine D.ph (Phases.fin (G.then_n (G.seq (G.region (G.q (Quiet.move rfl) rfl (G.q (Quiet.assign rfl) rfl (G.nil (G.then_n (G.ret ?_)))))))))
      have hr : lgCut ⟨δ, ω, Λ⟩ z = lgCut2 ⟨δ, ω, Λ⟩ n := by unfold lgCut; dsimp only; rw [if_neg (by rw [h11]; decide), hpl]
      rw [hr]
      have hr2 : lgCut2 ⟨δ, ω, Λ⟩ n = (⟨(cutZ δ ω (((headL Λ.base Λ.snap).length + n : Nat) : Int)).1, (cutZ δ ω (((headL Λ.base Λ.snap).length + n : Nat) : Int)).2.1, ⟨Λ.acc, Λ.cur, Λ.base, Λ.snap, Λ.ents.take n, Λ.zxs.take n, Λ.doubt⟩⟩, 0) := by unfold lgCut2; dsimp only; rw [if_pos (show (metL Λ (cutZ δ ω (((headL Λ.base Λ.snap).length + n : Nat) : Int))).2 = 0 from h40)]
      rw [hr2, h40]
      try dsimp only
      refine G.slTo (a := ea) (c := ec) (m := Λ.ents.length) (k := n) (by omega) (by (repeat' constructor)) ?_
      refine G.slTo (a := za) (c := zc) (m := Λ.zxs.length) (k := n) (by omega) (by (repeat' constructor)) ?_
      have hmd : (Λ.met (cutZ δ ω (((headL Λ.base Λ.snap).length + n : Nat) : Int)).2.2).doubt = Λ.doubt := by unfold Lg.met; rw [if_neg (fun g2 => by rw [g2] at h40; exact absurd h40 (by decide))]
      rw [hmd]
      refine G.lgFold (g := g) (x := x) (ea := ea) (ec := ec) (za := za) (zc := zc) (m := n) (k := n) (⟨Λ.acc, Λ.cur, Λ.base, Λ.snap, Λ.ents.take n, Λ.zxs.take n, Λ.doubt⟩ : Lg) (by (repeat' constructor)) rfl (by simp; omega) (by simp; omega) (by simp [strs, List.map_take]) (by simp [ints, List.map_take]) ?_
      exact G.done (l := [.tmp 4]) rfl rfl ⟨rfl, rfl⟩ (by (repeat' constructor)) (by (repeat' constructor))
     ·refine G.skip (G.then_n (G.seq (G.region (G.q (Quiet.move rfl) rfl (G.q (Quiet.assign rfl) rfl (G.nil (G.then_n (G.ret ?_))))))))
      have hr : lgCut ⟨δ, ω, Λ⟩ z = lgCut2 ⟨δ, ω, Λ⟩ n := by unfold lgCut; dsimp only; rw [if_neg (by rw [h11]; decide), hpl]
      rw [hr]
      have hr2 : lgCut2 ⟨δ, ω, Λ⟩ n = metL Λ (cutZ δ ω (((headL Λ.base Λ.snap).length + n : Nat) : Int)) := by unfold lgCut2; dsimp only; rw [if_neg (show ¬ (metL Λ (cutZ δ ω (((headL Λ.base Λ.snap).length + n : Nat) : Int))).2 = 0 from h40)]
      rw [hr2]
      try dsimp only
      refine G.lgFold (g := g) (x := x) (ea := ea) (ec := ec) (za := za) (zc := zc) (m := Λ.ents.length) (k := Λ.zxs.length) (Λ.met (cutZ δ ω (((headL Λ.base Λ.snap).length + n : Nat) : Int)).2.2) (by (repeat' constructor)) (by rw [met_acc, met_cur, met_base, met_snap]) (by rw [met_ents]) (by rw [met_zxs]) (by rw [met_ents]) (by rw [met_zxs]) ?_
      exact G.done (l := [.tmp 4]) rfl rfl ⟨rfl, rfl⟩ (by (repeat' constructor)) (by (repeat' constructor))
   ·rintro v L' ⟨rfl, rfl⟩
    refine D.h2 (k := 4) rfl rfl (by kernel_rfl) rfl (Quiet.spec (L := [ptc g [vint Λ.acc, vint Λ.cur, vptr x, vint Λ.base, vstr Λ.snap, .slice ea Λ.ents.length ec, .slice za Λ.zxs.length zc, .bool Λ.doubt] 79]) (Quiet.load rfl ag_3 (by (repeat' constructor)) rfl)) (by (repeat' constructor)) (Quiet.spec (L := [ptc g [vint Λ.acc, vint Λ.cur, vptr x, vint Λ.base, vstr Λ.snap, .slice ea Λ.ents.length ec, .slice za Λ.zxs.length zc, .bool Λ.doubt] 79]) (Quiet.load rfl ag_77 (by (repeat' constructor)) rfl)) (by (repeat' constructor)) ?nx134 ?nx135
    ·rintro v L' ⟨rfl, rfl⟩
     refine D.h2 (k := 4) rfl rfl (by kernel_rfl) rfl (OpSpec.call Tryz.func46 rfl rfl (vs := [_, _]) rfl (lahead_spec Λ.base Λ.snap hΛ.base (by omega))) (by (repeat' constructor)) (Quiet.spec (L := [ptc g [vint Λ.acc, vint Λ.cur, vptr x, vint Λ.base, vstr Λ.snap, .slice ea Λ.ents.length ec, .slice za Λ.zxs.length zc, .bool Λ.doubt] 79]) (Quiet.load rfl ag_77 (by (repeat' constructor)) rfl)) (by (repeat' constructor)) ?nx137 ?nx138
     ·rintro v L' ⟨bh, ch, rfl, rfl⟩
      refine D.q rfl (by kernel_rfl) (Quiet.slen rfl Tryz.underlying46 rfl) ?_
      refine D.q rfl (by kernel_rfl) (Quiet.as (v' := vint (((headL Λ.base Λ.snap).length + n : Nat) : Int)) (by simp) (Quiet.add rfl rfl (by omega))) ?_
      refine D.h rfl (by kernel_rfl) (Quiet.spec (L := [ptc g [vint Λ.acc, vint Λ.cur, vptr x, vint Λ.base, vstr Λ.snap, .slice ea Λ.ents.length ec, .slice za Λ.zxs.length zc, .bool Λ.doubt] 79]) (Quiet.load rfl ag_77 (by (repeat' constructor)) rfl)) (by (repeat' constructor)) ?nx142
      rintro v L' ⟨rfl, rfl⟩
      refine D.h rfl (by kernel_rfl) (OpSpec.call Tryz.func75 rfl rfl (vs := [_, _]) rfl (wcut_spec x d ω δ (((headL Λ.base Λ.snap).length + n : Nat) : Int) hI)) (by (repeat' constructor)) ?nx144
      rintro v L' ⟨rfl, rfl⟩
      refine D.ph ?_
      refine Phases.go [] (by (repeat' constructor)) ?_
      refine D.h rfl (by kernel_rfl) (OpSpec.call Tryz.func50 rfl rfl (vs := [_, _]) rfl (lmetC_spec g x Λ _ ea ec za zc)) (by (repeat' constructor)) ?nx146
      rintro v L' ⟨rfl, rfl⟩
      refine D.ph ?_
      refine Phases.go [] (by (repeat' constructor)) ?_
      refine D.qw [] rfl (by kernel_rfl) (Quiet.assign rfl) ?_
      refine D.ph (Phases.fin (G.then_n (G.seq (G.seq (G.region (G.q (Quiet.move rfl) rfl (G.q (Quiet.int rfl rfl rfl) rfl (G.nil (G.then_n ?_)))))))))
      refine G.condD rfl (fun h40 => ?_) (fun h40 => ?_)
      ·refine G.draw [16, 19] [[0, 1, 2, 3, 4, 5, 6, 7, 8, 9, 10, 11, 12, 13, 14, 15, 16], [17, 18, 19]] mixed (by kernel_rfl) ?_
       refine Phases.go [] (by (repeat' constructor)) ?_
       refine D.qw [14, 15, 16] rfl (by kernel_rfl) (Quiet.move rfl) ?_
       refine D.q rfl (by kernel_rfl) (Quiet.move rfl) ?_
       refine D.qw [3, 4, 5, 7, 14, 15, 16] rfl (by kernel_rfl) (Quiet.move rfl) ?_
       refine D.qw [4, 5, 7, 14, 15, 16] rfl (by kernel_rfl) (Quiet.nilp rfl) ?_
       refine D.qw [5, 7, 14, 15, 16] rfl (by kernel_rfl) (Quiet.fieldAddr rfl fo_79_4) ?_
       refine D.qw [7, 14, 15, 16] rfl (by kernel_rfl) (Quiet.load rfl ag_46 (by (repeat' constructor)) (rfl)) ?_
       refine D.qw [7, 14, 15, 16] rfl (by kernel_rfl) (Quiet.move rfl) ?_
       refine D.qw [14, 15, 16] rfl (by kernel_rfl) (Quiet.to (v' := .slice ea n ec) (Quiet.slTo (j := (n : Int)) rfl el_46 rfl (by omega) hadea) (by rw [Int.toNat_natCast])) ?_
       refine D.qw [9, 10, 11, 13, 14, 15, 16] rfl (by kernel_rfl) (Quiet.move rfl) ?_
       refine D.qw [10, 11, 13, 14, 15, 16] rfl (by kernel_rfl) (Quiet.nilp rfl) ?_
       refine D.qw [11, 13, 14, 15, 16] rfl (by kernel_rfl) (Quiet.fieldAddr rfl fo_79_5) ?_
       refine D.qw [13, 14, 15, 16] rfl (by kernel_rfl) (Quiet.load rfl ag_31 (by (repeat' constructor)) (rfl)) ?_
       refine D.q rfl (by kernel_rfl) (Quiet.move rfl) ?_
       refine D.q rfl (by kernel_rfl) (Quiet.to (v' := .slice za n zc) (Quiet.slTo (j := (n : Int)) rfl el_31 rfl (by omega) hadza) (by rw [Int.toNat_natCast])) ?_
       refine D.qw [15, 16] rfl (by kernel_rfl) (Quiet.nilp rfl) ?_
       refine D.qw [16] rfl (by kernel_rfl) (Quiet.fieldAddr rfl fo_79_4) ?_
       refine D.h rfl (by kernel_rfl) (OpSpec.store rfl rfl rfl sz_46 ?c163 ?c164) (by (repeat' constructor)) ?nx165
       case c163 => first | decide | (simp; omega) | simp
       case c164 => exact nfz0 _ _
       rintro v L' rfl
       refine D.ph ?_
       refine Phases.go [] (by (repeat' constructor)) ?_
       refine D.qw [18, 19] rfl (by kernel_rfl) (Quiet.nilp rfl) ?_
       refine D.qw [19] rfl (by kernel_rfl) (Quiet.fieldAddr rfl fo_79_5) ?_
       refine D.h rfl (by kernel_rfl) (OpSpec.store rfl rfl rfl sz_31 ?c168 ?c169) (by (repeat' constructor)) ?nx170
       case c168 => first | decide | (simp; omega) | simp
       case c169 => exact nfz0 _ _
       rintro v L' rfl
       refine D.ph (Phases.fin (G.then_n (G.seq (G.region (G.q (Quiet.move rfl) rfl (G.q (Quiet.assign rfl) rfl (G.nil (G.then_n (G.ret ?_)))))))))
       have hr : lgCut ⟨δ, ω, Λ⟩ z = lgCut2 ⟨δ, ω, Λ⟩ n := by unfold lgCut; dsimp only; rw [if_neg (by rw [h11]; decide), hpl]
       rw [hr]
       have hr2 : lgCut2 ⟨δ, ω, Λ⟩ n = (⟨(cutZ δ ω (((headL Λ.base Λ.snap).length + n : Nat) : Int)).1, (cutZ δ ω (((headL Λ.base Λ.snap).length + n : Nat) : Int)).2.1, ⟨Λ.acc, Λ.cur, Λ.base, Λ.snap, Λ.ents.take n, Λ.zxs.take n, Λ.doubt⟩⟩, 0) := by unfold lgCut2; dsimp only; rw [if_pos (show (metL Λ (cutZ δ ω (((headL Λ.base Λ.snap).length + n : Nat) : Int))).2 = 0 from h40)]
       rw [hr2, h40]
       try dsimp only
       refine G.slTo (a := ea) (c := ec) (m := Λ.ents.length) (k := n) (by omega) (by (repeat' constructor)) ?_
       refine G.slTo (a := za) (c := zc) (m := Λ.zxs.length) (k := n) (by omega) (by (repeat' constructor)) ?_
       have hmd : (Λ.met (cutZ δ ω (((headL Λ.base Λ.snap).length + n : Nat) : Int)).2.2).doubt = Λ.doubt := by unfold Lg.met; rw [if_neg (fun g2 => by rw [g2] at h40; exact absurd h40 (by decide))]
       rw [hmd]
       refine G.lgFold (g := g) (x := x) (ea := ea) (ec := ec) (za := za) (zc := zc) (m := n) (k := n) (⟨Λ.acc, Λ.cur, Λ.base, Λ.snap, Λ.ents.take n, Λ.zxs.take n, Λ.doubt⟩ : Lg) (by (repeat' constructor)) rfl (by simp; omega) (by simp; omega) (by simp [strs, List.map_take]) (by simp [ints, List.map_take]) ?_
       exact G.done (l := [.tmp 4]) rfl rfl ⟨rfl, rfl⟩ (by (repeat' constructor)) (by (repeat' constructor))
      ·refine G.skip (G.then_n (G.seq (G.region (G.q (Quiet.move rfl) rfl (G.q (Quiet.assign rfl) rfl (G.nil (G.then_n (G.ret ?_))))))))
       have hr : lgCut ⟨δ, ω, Λ⟩ z = lgCut2 ⟨δ, ω, Λ⟩ n := by unfold lgCut; dsimp only; rw [if_neg (by rw [h11]; decide), hpl]
       rw [hr]
       have hr2 : lgCut2 ⟨δ, ω, Λ⟩ n = metL Λ (cutZ δ ω (((headL Λ.base Λ.snap).length + n : Nat) : Int)) := by unfold lgCut2; dsimp only; rw [if_neg (show ¬ (metL Λ (cutZ δ ω (((headL Λ.base Λ.snap).length + n : Nat) : Int))).2 = 0 from h40)]
       rw [hr2]
       try dsimp only
       refine G.lgFold (g := g) (x := x) (ea := ea) (ec := ec) (za := za) (zc := zc) (m := Λ.ents.length) (k := Λ.zxs.length) (Λ.met (cutZ δ ω (((headL Λ.base Λ.snap).length + n : Nat) : Int)).2.2) (by (repeat' constructor)) (by rw [met_acc, met_cur, met_base, met_snap]) (by rw [met_ents]) (by rw [met_zxs]) (by rw [met_ents]) (by rw [met_zxs]) ?_
       exact G.done (l := [.tmp 4]) rfl rfl ⟨rfl, rfl⟩ (by (repeat' constructor)) (by (repeat' constructor))
     ·rintro v L' ⟨rfl, rfl⟩
      refine D.h rfl (by kernel_rfl) (OpSpec.call Tryz.func46 rfl rfl (vs := [_, _]) rfl (lahead_spec Λ.base Λ.snap hΛ.base (by omega))) (by (repeat' constructor)) ?nx172
      rintro v L' ⟨bh, ch, rfl, rfl⟩
      refine D.qw [16, 17] rfl (by kernel_rfl) (Quiet.slen rfl Tryz.underlying46 rfl) ?_
      refine D.qw [17] rfl (by kernel_rfl) (Quiet.as (v' := vint (((headL Λ.base Λ.snap).length + n : Nat) : Int)) (by simp) (Quiet.add rfl rfl (by omega))) ?_
      refine D.h rfl (by kernel_rfl) (OpSpec.call Tryz.func75 rfl rfl (vs := [_, _]) rfl (wcut_spec x d ω δ (((headL Λ.base Λ.snap).length + n : Nat) : Int) hI)) (by (repeat' constructor)) ?nx176
      rintro v L' ⟨rfl, rfl⟩
      refine D.ph ?_
      refine Phases.go [] (by (repeat' constructor)) ?_
      refine D.h rfl (by kernel_rfl) (OpSpec.call Tryz.func50 rfl rfl (vs := [_, _]) rfl (lmetC_spec g x Λ _ ea ec za zc)) (by (repeat' constructor)) ?nx178
      rintro v L' ⟨rfl, rfl⟩
      refine D.ph ?_
      refine Phases.go [] (by (repeat' constructor)) ?_
      refine D.qw [] rfl (by kernel_rfl) (Quiet.assign rfl) ?_
      refine D.ph (Phases.fin (G.then_n (G.seq (G.seq (G.region (G.q (Quiet.move rfl) rfl (G.q (Quiet.int rfl rfl rfl) rfl (G.nil (G.then_n ?_)))))))))
      refine G.condD rfl (fun h40 => ?_) (fun h40 => ?_)
      ·refine G.draw [16, 19] [[0, 1, 2, 3, 4, 5, 6, 7, 8, 9, 10, 11, 12, 13, 14, 15, 16], [17, 18, 19]] mixed (by kernel_rfl) ?_
       refine Phases.go [] (by (repeat' constructor)) ?_
       refine D.qw [14, 15, 16] rfl (by kernel_rfl) (Quiet.move rfl) ?_
       refine D.q rfl (by kernel_rfl) (Quiet.move rfl) ?_
       refine D.qw [3, 4, 5, 7, 14, 15, 16] rfl (by kernel_rfl) (Quiet.move rfl) ?_
       refine D.qw [4, 5, 7, 14, 15, 16] rfl (by kernel_rfl) (Quiet.nilp rfl) ?_
       refine D.qw [5, 7, 14, 15, 16] rfl (by kernel_rfl) (Quiet.fieldAddr rfl fo_79_4) ?_
       refine D.qw [7, 14, 15, 16] rfl (by kernel_rfl) (Quiet.load rfl ag_46 (by (repeat' constructor)) (rfl)) ?_
       refine D.qw [7, 14, 15, 16] rfl (by kernel_rfl) (Quiet.move rfl) ?_
       refine D.qw [14, 15, 16] rfl (by kernel_rfl) (Quiet.to (v' := .slice ea n ec) (Quiet.slTo (j := (n : Int)) rfl el_46 rfl (by omega) hadea) (by rw [Int.toNat_natCast])) ?_
       refine D.qw [9, 10, 11, 13, 14, 15, 16] rfl (by kernel_rfl) (Quiet.move rfl) ?_
       refine D.qw [10, 11, 13, 14, 15, 16] rfl (by kernel_rfl) (Quiet.nilp rfl) ?_
       refine D.qw [11, 13, 14, 15, 16] rfl (by kernel_rfl) (Quiet.fieldAddr rfl fo_79_5) ?_
       refine D.qw [13, 14, 15, 16] rfl (by kernel_rfl) (Quiet.load rfl ag_31 (by (repeat' constructor)) (rfl)) ?_
       refine D.q rfl (by kernel_rfl) (Quiet.move rfl) ?_
       refine D.q rfl (by kernel_rfl) (Quiet.to (v' := .slice za n zc) (Quiet.slTo (j := (n : Int)) rfl el_31 rfl (by omega) hadza) (by rw [Int.toNat_natCast])) ?_
       refine D.qw [15, 16] rfl (by kernel_rfl) (Quiet.nilp rfl) ?_
       refine D.qw [16] rfl (by kernel_rfl) (Quiet.fieldAddr rfl fo_79_4) ?_
       refine D.h rfl (by kernel_rfl) (OpSpec.store rfl rfl rfl sz_46 ?c195 ?c196) (by (repeat' constructor)) ?nx197
       case c195 => first | decide | (simp; omega) | simp
       case c196 => exact nfz0 _ _
       rintro v L' rfl
       refine D.ph ?_
       refine Phases.go [] (by (repeat' constructor)) ?_
       refine D.qw [18, 19] rfl (by kernel_rfl) (Quiet.nilp rfl) ?_
       refine D.qw [19] rfl (by kernel_rfl) (Quiet.fieldAddr rfl fo_79_5) ?_
       refine D.h rfl (by kernel_rfl) (OpSpec.store rfl rfl rfl sz_31 ?c200 ?c201) (by (repeat' constructor)) ?nx202
       case c200 => first | decide | (simp; omega) | simp
       case c201 => exact nfz0 _ _
       rintro v L' rfl
       refine D.ph (Phases.fin (G.then_n (G.seq (G.region (G.q (Quiet.move rfl) rfl (G.q (Quiet.assign rfl) rfl (G.nil (G.then_n (G.ret ?_)))))))))
       have hr : lgCut ⟨δ, ω, Λ⟩ z = lgCut2 ⟨δ, ω, Λ⟩ n := by unfold lgCut; dsimp only; rw [if_neg (by rw [h11]; decide), hpl]
       rw [hr]
       have hr2 : lgCut2 ⟨δ, ω, Λ⟩ n = (⟨(cutZ δ ω (((headL Λ.base Λ.snap).length + n : Nat) : Int)).1, (cutZ δ ω (((headL Λ.base Λ.snap).length + n : Nat) : Int)).2.1, ⟨Λ.acc, Λ.cur, Λ.base, Λ.snap, Λ.ents.take n, Λ.zxs.take n, Λ.doubt⟩⟩, 0) := by unfold lgCut2; dsimp only; rw [if_pos (show (metL Λ (cutZ δ ω (((headL Λ.base Λ.snap).length + n : Nat) : Int))).2 = 0 from h40)]
       rw [hr2, h40]
       try dsimp only
       refine G.slTo (a := ea) (c := ec) (m := Λ.ents.length) (k := n) (by omega) (by (repeat' constructor)) ?_
       refine G.slTo (a := za) (c := zc) (m := Λ.zxs.length) (k := n) (by omega) (by (repeat' constructor)) ?_
       have hmd : (Λ.met (cutZ δ ω (((headL Λ.base Λ.snap).length + n : Nat) : Int)).2.2).doubt = Λ.doubt := by unfold Lg.met; rw [if_neg (fun g2 => by rw [g2] at h40; exact absurd h40 (by decide))]
       rw [hmd]
       refine G.lgFold (g := g) (x := x) (ea := ea) (ec := ec) (za := za) (zc := zc) (m := n) (k := n) (⟨Λ.acc, Λ.cur, Λ.base, Λ.snap, Λ.ents.take n, Λ.zxs.take n, Λ.doubt⟩ : Lg) (by (repeat' constructor)) rfl (by simp; omega) (by simp; omega) (by simp [strs, List.map_take]) (by simp [ints, List.map_take]) ?_
       exact G.done (l := [.tmp 4]) rfl rfl ⟨rfl, rfl⟩ (by (repeat' constructor)) (by (repeat' constructor))
      ·refine G.skip (G.then_n (G.seq (G.region (G.q (Quiet.move rfl) rfl (G.q (Quiet.assign rfl) rfl (G.nil (G.then_n (G.ret ?_))))))))
       have hr : lgCut ⟨δ, ω, Λ⟩ z = lgCut2 ⟨δ, ω, Λ⟩ n := by unfold lgCut; dsimp only; rw [if_neg (by rw [h11]; decide), hpl]
       rw [hr]
       have hr2 : lgCut2 ⟨δ, ω, Λ⟩ n = metL Λ (cutZ δ ω (((headL Λ.base Λ.snap).length + n : Nat) : Int)) := by unfold lgCut2; dsimp only; rw [if_neg (show ¬ (metL Λ (cutZ δ ω (((headL Λ.base Λ.snap).length + n : Nat) : Int))).2 = 0 from h40)]
       rw [hr2]
       try dsimp only
       refine G.lgFold (g := g) (x := x) (ea := ea) (ec := ec) (za := za) (zc := zc) (m := Λ.ents.length) (k := Λ.zxs.length) (Λ.met (cutZ δ ω (((headL Λ.base Λ.snap).length + n : Nat) : Int)).2.2) (by (repeat' constructor)) (by rw [met_acc, met_cur, met_base, met_snap]) (by rw [met_ents]) (by rw [met_zxs]) (by rw [met_ents]) (by rw [met_zxs]) ?_
       exact G.done (l := [.tmp 4]) rfl rfl ⟨rfl, rfl⟩ (by (repeat' constructor)) (by (repeat' constructor))
    ·rintro v L' ⟨rfl, rfl⟩
     refine D.h rfl (by kernel_rfl) (Quiet.spec (L := [ptc g [vint Λ.acc, vint Λ.cur, vptr x, vint Λ.base, vstr Λ.snap, .slice ea Λ.ents.length ec, .slice za Λ.zxs.length zc, .bool Λ.doubt] 79]) (Quiet.load rfl ag_3 (by (repeat' constructor)) rfl)) (by (repeat' constructor)) ?nx204
     rintro v L' ⟨rfl, rfl⟩
     refine D.h rfl (by kernel_rfl) (OpSpec.call Tryz.func46 rfl rfl (vs := [_, _]) rfl (lahead_spec Λ.base Λ.snap hΛ.base (by omega))) (by (repeat' constructor)) ?nx206
     rintro v L' ⟨bh, ch, rfl, rfl⟩
     refine D.qw [16, 17] rfl (by kernel_rfl) (Quiet.slen rfl Tryz.underlying46 rfl) ?_
     refine D.qw [17] rfl (by kernel_rfl) (Quiet.as (v' := vint (((headL Λ.base Λ.snap).length + n : Nat) : Int)) (by simp) (Quiet.add rfl rfl (by omega))) ?_
     refine D.h rfl (by kernel_rfl) (OpSpec.call Tryz.func75 rfl rfl (vs := [_, _]) rfl (wcut_spec x d ω δ (((headL Λ.base Λ.snap).length + n : Nat) : Int) hI)) (by (repeat' constructor)) ?nx210
     rintro v L' ⟨rfl, rfl⟩
     refine D.ph ?_
     refine Phases.go [] (by (repeat' constructor)) ?_
     refine D.h rfl (by kernel_rfl) (OpSpec.call Tryz.func50 rfl rfl (vs := [_, _]) rfl (lmetC_spec g x Λ _ ea ec za zc)) (by (repeat' constructor)) ?nx212
     rintro v L' ⟨rfl, rfl⟩
     refine D.ph ?_
     refine Phases.go [] (by (repeat' constructor)) ?_
     refine D.qw [] rfl (by kernel_rfl) (Quiet.assign rfl) ?_
     refine D.ph (Phases.fin (G.then_n (G.seq (G.seq (G.region (G.q (Quiet.move rfl) rfl (G.q (Quiet.int rfl rfl rfl) rfl (G.nil (G.then_n ?_)))))))))
     refine G.condD rfl (fun h40 => ?_) (fun h40 => ?_)
     ·refine G.draw [16, 19] [[0, 1, 2, 3, 4, 5, 6, 7, 8, 9, 10, 11, 12, 13, 14, 15, 16], [17, 18, 19]] mixed (by kernel_rfl) ?_
      refine Phases.go [] (by (repeat' constructor)) ?_
      refine D.qw [14, 15, 16] rfl (by kernel_rfl) (Quiet.move rfl) ?_
      refine D.q rfl (by kernel_rfl) (Quiet.move rfl) ?_
      refine D.qw [3, 4, 5, 7, 14, 15, 16] rfl (by kernel_rfl) (Quiet.move rfl) ?_
      refine D.qw [4, 5, 7, 14, 15, 16] rfl (by kernel_rfl) (Quiet.nilp rfl) ?_
      refine D.qw [5, 7, 14, 15, 16] rfl (by kernel_rfl) (Quiet.fieldAddr rfl fo_79_4) ?_
      refine D.qw [7, 14, 15, 16] rfl (by kernel_rfl) (Quiet.load rfl ag_46 (by (repeat' constructor)) (rfl)) ?_
      refine D.qw [7, 14, 15, 16] rfl (by kernel_rfl) (Quiet.move rfl) ?_
      refine D.qw [14, 15, 16] rfl (by kernel_rfl) (Quiet.to (v' := .slice ea n ec) (Quiet.slTo (j := (n : Int)) rfl el_46 rfl (by omega) hadea) (by rw [Int.toNat_natCast])) ?_
      refine D.qw [9, 10, 11, 13, 14, 15, 16] rfl (by kernel_rfl) (Quiet.move rfl) ?_
      refine D.qw [10, 11, 13, 14, 15, 16] rfl (by kernel_rfl) (Quiet.nilp rfl) ?_
      refine D.qw [11, 13, 14, 15, 16] rfl (by kernel_rfl) (Quiet.fieldAddr rfl fo_79_5) ?_
      refine D.qw [13, 14, 15, 16] rfl (by kernel_rfl) (Quiet.load rfl ag_31 (by (repeat' constructor)) (rfl)) ?_
      refine D.q rfl (by kernel_rfl) (Quiet.move rfl) ?_
      refine D.q rfl (by kernel_rfl) (Quiet.to (v' := .slice za n zc) (Quiet.slTo (j := (n : Int)) rfl el_31 rfl (by omega) hadza) (by rw [Int.toNat_natCast])) ?_
      refine D.qw [15, 16] rfl (by kernel_rfl) (Quiet.nilp rfl) ?_
      refine D.qw [16] rfl (by kernel_rfl) (Quiet.fieldAddr rfl fo_79_4) ?_
      refine D.h rfl (by kernel_rfl) (OpSpec.store rfl rfl rfl sz_46 ?c229 ?c230) (by (repeat' constructor)) ?nx231
      case c229 => first | decide | (simp; omega) | simp
      case c230 => exact nfz0 _ _
      rintro v L' rfl
      refine D.ph ?_
      refine Phases.go [] (by (repeat' constructor)) ?_
      refine D.qw [18, 19] rfl (by kernel_rfl) (Quiet.nilp rfl) ?_
      refine D.qw [19] rfl (by kernel_rfl) (Quiet.fieldAddr rfl fo_79_5) ?_
      refine D.h rfl (by kernel_rfl) (OpSpec.store rfl rfl rfl sz_31 ?c234 ?c235) (by (repeat' constructor)) ?nx236
      case c234 => first | decide | (simp; omega) | simp
      case c235 => exact nfz0 _ _
      rintro v L' rfl
      refine D.ph (Phases.fin (G.then_n (G.seq (G.region (G.q (Quiet.move rfl) rfl (G.q (Quiet.assign rfl) rfl (G.nil (G.then_n (G.ret ?_)))))))))
      have hr : lgCut ⟨δ, ω, Λ⟩ z = lgCut2 ⟨δ, ω, Λ⟩ n := by unfold lgCut; dsimp only; rw [if_neg (by rw [h11]; decide), hpl]
      rw [hr]
      have hr2 : lgCut2 ⟨δ, ω, Λ⟩ n = (⟨(cutZ δ ω (((headL Λ.base Λ.snap).length + n : Nat) : Int)).1, (cutZ δ ω (((headL Λ.base Λ.snap).length + n : Nat) : Int)).2.1, ⟨Λ.acc, Λ.cur, Λ.base, Λ.snap, Λ.ents.take n, Λ.zxs.take n, Λ.doubt⟩⟩, 0) := by unfold lgCut2; dsimp only; rw [if_pos (show (metL Λ (cutZ δ ω (((headL Λ.base Λ.snap).length + n : Nat) : Int))).2 = 0 from h40)]
      rw [hr2, h40]
      try dsimp only
      refine G.slTo (a := ea) (c := ec) (m := Λ.ents.length) (k := n) (by omega) (by (repeat' constructor)) ?_
      refine G.slTo (a := za) (c := zc) (m := Λ.zxs.length) (k := n) (by omega) (by (repeat' constructor)) ?_
      have hmd : (Λ.met (cutZ δ ω (((headL Λ.base Λ.snap).length + n : Nat) : Int)).2.2).doubt = Λ.doubt := by unfold Lg.met; rw [if_neg (fun g2 => by rw [g2] at h40; exact absurd h40 (by decide))]
      rw [hmd]
      refine G.lgFold (g := g) (x := x) (ea := ea) (ec := ec) (za := za) (zc := zc) (m := n) (k := n) (⟨Λ.acc, Λ.cur, Λ.base, Λ.snap, Λ.ents.take n, Λ.zxs.take n, Λ.doubt⟩ : Lg) (by (repeat' constructor)) rfl (by simp; omega) (by simp; omega) (by simp [strs, List.map_take]) (by simp [ints, List.map_take]) ?_
      exact G.done (l := [.tmp 4]) rfl rfl ⟨rfl, rfl⟩ (by (repeat' constructor)) (by (repeat' constructor))
     ·refine G.skip (G.then_n (G.seq (G.region (G.q (Quiet.move rfl) rfl (G.q (Quiet.assign rfl) rfl (G.nil (G.then_n (G.ret ?_))))))))
      have hr : lgCut ⟨δ, ω, Λ⟩ z = lgCut2 ⟨δ, ω, Λ⟩ n := by unfold lgCut; dsimp only; rw [if_neg (by rw [h11]; decide), hpl]
      rw [hr]
      have hr2 : lgCut2 ⟨δ, ω, Λ⟩ n = metL Λ (cutZ δ ω (((headL Λ.base Λ.snap).length + n : Nat) : Int)) := by unfold lgCut2; dsimp only; rw [if_neg (show ¬ (metL Λ (cutZ δ ω (((headL Λ.base Λ.snap).length + n : Nat) : Int))).2 = 0 from h40)]
      rw [hr2]
      try dsimp only
      refine G.lgFold (g := g) (x := x) (ea := ea) (ec := ec) (za := za) (zc := zc) (m := Λ.ents.length) (k := Λ.zxs.length) (Λ.met (cutZ δ ω (((headL Λ.base Λ.snap).length + n : Nat) : Int)).2.2) (by (repeat' constructor)) (by rw [met_acc, met_cur, met_base, met_snap]) (by rw [met_ents]) (by rw [met_zxs]) (by rw [met_ents]) (by rw [met_zxs]) ?_
      exact G.done (l := [.tmp 4]) rfl rfl ⟨rfl, rfl⟩ (by (repeat' constructor)) (by (repeat' constructor))
   ·rintro v L' ⟨rfl, rfl⟩
    refine D.h2 (k := 12) rfl rfl (by kernel_rfl) rfl (Quiet.spec (L := [ptc g [vint Λ.acc, vint Λ.cur, vptr x, vint Λ.base, vstr Λ.snap, .slice ea Λ.ents.length ec, .slice za Λ.zxs.length zc, .bool Λ.doubt] 79]) (Quiet.load rfl ag_3 (by (repeat' constructor)) rfl)) (by (repeat' constructor)) (Quiet.spec (L := [ptc g [vint Λ.acc, vint Λ.cur, vptr x, vint Λ.base, vstr Λ.snap, .slice ea Λ.ents.length ec, .slice za Λ.zxs.length zc, .bool Λ.doubt] 79]) (Quiet.load rfl ag_9 (by (repeat' constructor)) rfl)) (by (repeat' constructor)) ?nx238 ?nx239
    ·rintro v L' ⟨rfl, rfl⟩
     refine D.h rfl (by kernel_rfl) (Quiet.spec (L := [ptc g [vint Λ.acc, vint Λ.cur, vptr x, vint Λ.base, vstr Λ.snap, .slice ea Λ.ents.length ec, .slice za Λ.zxs.length zc, .bool Λ.doubt] 79]) (Quiet.load rfl ag_9 (by (repeat' constructor)) rfl)) (by (repeat' constructor)) ?nx241
     rintro v L' ⟨rfl, rfl⟩
     refine D.h rfl (by kernel_rfl) (OpSpec.call Tryz.func46 rfl rfl (vs := [_, _]) rfl (lahead_spec Λ.base Λ.snap hΛ.base (by omega))) (by (repeat' constructor)) ?nx243
     rintro v L' ⟨bh, ch, rfl, rfl⟩
     refine D.qw [16, 17] rfl (by kernel_rfl) (Quiet.slen rfl Tryz.underlying46 rfl) ?_
     refine D.qw [17] rfl (by kernel_rfl) (Quiet.as (v' := vint (((headL Λ.base Λ.snap).length + n : Nat) : Int)) (by simp) (Quiet.add rfl rfl (by omega))) ?_
     refine D.h rfl (by kernel_rfl) (OpSpec.call Tryz.func75 rfl rfl (vs := [_, _]) rfl (wcut_spec x d ω δ (((headL Λ.base Λ.snap).length + n : Nat) : Int) hI)) (by (repeat' constructor)) ?nx247
     rintro v L' ⟨rfl, rfl⟩
     refine D.ph ?_
     refine Phases.go [] (by (repeat' constructor)) ?_
     refine D.h rfl (by kernel_rfl) (OpSpec.call Tryz.func50 rfl rfl (vs := [_, _]) rfl (lmetC_spec g x Λ _ ea ec za zc)) (by (repeat' constructor)) ?nx249
     rintro v L' ⟨rfl, rfl⟩
     refine D.ph ?_
     refine Phases.go [] (by (repeat' constructor)) ?_
     refine D.qw [] rfl (by kernel_rfl) (Quiet.assign rfl) ?_
     refine D.ph (Phases.fin (G.then_n (G.seq (G.seq (G.region (G.q (Quiet.move rfl) rfl (G.q (Quiet.int rfl rfl rfl) rfl (G.nil (G.then_n ?_)))))))))
     refine G.condD rfl (fun h40 => ?_) (fun h40 => ?_)
     ·refine G.draw [16, 19] [[0, 1, 2, 3, 4, 5, 6, 7, 8, 9, 10, 11, 12, 13, 14, 15, 16], [17, 18, 19]] mixed (by kernel_rfl) ?_
      refine Phases.go [] (by (repeat' constructor)) ?_
      refine D.qw [14, 15, 16] rfl (by kernel_rfl) (Quiet.move rfl) ?_
      refine D.q rfl (by kernel_rfl) (Quiet.move rfl) ?_
      refine D.qw [3, 4, 5, 7, 14, 15, 16] rfl (by kernel_rfl) (Quiet.move rfl) ?_
      refine D.qw [4, 5, 7, 14, 15, 16] rfl (by kernel_rfl) (Quiet.nilp rfl) ?_
      refine D.qw [5, 7, 14, 15, 16] rfl (by kernel_rfl) (Quiet.fieldAddr rfl fo_79_4) ?_
      refine D.qw [7, 14, 15, 16] rfl (by kernel_rfl) (Quiet.load rfl ag_46 (by (repeat' constructor)) (rfl)) ?_
      refine D.qw [7, 14, 15, 16] rfl (by kernel_rfl) (Quiet.move rfl) ?_
      refine D.qw [14, 15, 16] rfl (by kernel_rfl) (Quiet.to (v' := .slice ea n ec) (Quiet.slTo (j := (n : Int)) rfl el_46 rfl (by omega) hadea) (by rw [Int.toNat_natCast])) ?_
      refine D.qw [9, 10, 11, 13, 14, 15, 16] rfl (by kernel_rfl) (Quiet.move rfl) ?_
      refine D.qw [10, 11, 13, 14, 15, 16] rfl (by kernel_rfl) (Quiet.nilp rfl) ?_
      refine D.qw [11, 13, 14, 15, 16] rfl (by kernel_rfl) (Quiet.fieldAddr rfl fo_79_5) ?_
      refine D.qw [13, 14, 15, 16] rfl (by kernel_rfl) (Quiet.load rfl ag_31 (by (repeat' constructor)) (rfl)) ?_
      refine D.q rfl (by kernel_rfl) (Quiet.move rfl) ?_
      refine D.q rfl (by kernel_rfl) (Quiet.to (v' := .slice za n zc) (Quiet.slTo (j := (n : Int)) rfl el_31 rfl (by omega) hadza) (by rw [Int.toNat_natCast])) ?_
      refine D.qw [15, 16] rfl (by kernel_rfl) (Quiet.nilp rfl) ?_
      refine D.qw [16] rfl (by kernel_rfl) (Quiet.fieldAddr rfl fo_79_4) ?_
      refine D.h rfl (by kernel_rfl) (OpSpec.store rfl rfl rfl sz_46 ?c266 ?c267) (by (repeat' constructor)) ?nx268
      case c266 => first | decide | (simp; omega) | simp
      case c267 => exact nfz0 _ _
      rintro v L' rfl
      refine D.ph ?_
      refine Phases.go [] (by (repeat' constructor)) ?_
      refine D.qw [18, 19] rfl (by kernel_rfl) (Quiet.nilp rfl) ?_
      refine D.qw [19] rfl (by kernel_rfl) (Quiet.fieldAddr rfl fo_79_5) ?_
      refine D.h rfl (by kernel_rfl) (OpSpec.store rfl rfl rfl sz_31 ?c271 ?c272) (by (repeat' constructor)) ?nx273
      case c271 => first | decide | (simp; omega) | simp
      case c272 => exact nfz0 _ _
      rintro v L' rfl
      refine D.ph (Phases.fin (G.then_n (G.seq (G.region (G.q (Quiet.move rfl) rfl (G.q (Quiet.assign rfl) rfl (G.nil (G.then_n (G.ret ?_)))))))))
      have hr : lgCut ⟨δ, ω, Λ⟩ z = lgCut2 ⟨δ, ω, Λ⟩ n := by unfold lgCut; dsimp only; rw [if_neg (by rw [h11]; decide), hpl]
      rw [hr]
      have hr2 : lgCut2 ⟨δ, ω, Λ⟩ n = (⟨(cutZ δ ω (((headL Λ.base Λ.snap).length + n : Nat) : Int)).1, (cutZ δ ω (((headL Λ.base Λ.snap).length + n : Nat) : Int)).2.1, ⟨Λ.acc, Λ.cur, Λ.base, Λ.snap, Λ.ents.take n, Λ.zxs.take n, Λ.doubt⟩⟩, 0) := by unfold lgCut2; dsimp only; rw [if_pos (show (metL Λ (cutZ δ ω (((headL Λ.base Λ.snap).length + n : Nat) : Int))).2 = 0 from h40)]
      rw [hr2, h40]
      try dsimp only
      refine G.slTo (a := ea) (c := ec) (m := Λ.ents.length) (k := n) (by omega) (by (repeat' constructor)) ?_
      refine G.slTo (a := za) (c := zc) (m := Λ.zxs.length) (k := n) (by omega) (by (repeat' constructor)) ?_
      have hmd : (Λ.met (cutZ δ ω (((headL Λ.base Λ.snap).length + n : Nat) : Int)).2.2).doubt = Λ.doubt := by unfold Lg.met; rw [if_neg (fun g2 => by rw [g2] at h40; exact absurd h40 (by decide))]
      rw [hmd]
      refine G.lgFold (g := g) (x := x) (ea := ea) (ec := ec) (za := za) (zc := zc) (m := n) (k := n) (⟨Λ.acc, Λ.cur, Λ.base, Λ.snap, Λ.ents.take n, Λ.zxs.take n, Λ.doubt⟩ : Lg) (by (repeat' constructor)) rfl (by simp; omega) (by simp; omega) (by simp [strs, List.map_take]) (by simp [ints, List.map_take]) ?_
      exact G.done (l := [.tmp 4]) rfl rfl ⟨rfl, rfl⟩ (by (repeat' constructor)) (by (repeat' constructor))
     ·refine G.skip (G.then_n (G.seq (G.region (G.q (Quiet.move rfl) rfl (G.q (Quiet.assign rfl) rfl (G.nil (G.then_n (G.ret ?_))))))))
      have hr : lgCut ⟨δ, ω, Λ⟩ z = lgCut2 ⟨δ, ω, Λ⟩ n := by unfold lgCut; dsimp only; rw [if_neg (by rw [h11]; decide), hpl]
      rw [hr]
      have hr2 : lgCut2 ⟨δ, ω, Λ⟩ n = metL Λ (cutZ δ ω (((headL Λ.base Λ.snap).length + n : Nat) : Int)) := by unfold lgCut2; dsimp only; rw [if_neg (show ¬ (metL Λ (cutZ δ ω (((headL Λ.base Λ.snap).length + n : Nat) : Int))).2 = 0 from h40)]
      rw [hr2]
      try dsimp only
      refine G.lgFold (g := g) (x := x) (ea := ea) (ec := ec) (za := za) (zc := zc) (m := Λ.ents.length) (k := Λ.zxs.length) (Λ.met (cutZ δ ω (((headL Λ.base Λ.snap).length + n : Nat) : Int)).2.2) (by (repeat' constructor)) (by rw [met_acc, met_cur, met_base, met_snap]) (by rw [met_ents]) (by rw [met_zxs]) (by rw [met_ents]) (by rw [met_zxs]) ?_
      exact G.done (l := [.tmp 4]) rfl rfl ⟨rfl, rfl⟩ (by (repeat' constructor)) (by (repeat' constructor))
    ·rintro v L' ⟨rfl, rfl⟩
     refine D.h rfl (by kernel_rfl) (Quiet.spec (L := [ptc g [vint Λ.acc, vint Λ.cur, vptr x, vint Λ.base, vstr Λ.snap, .slice ea Λ.ents.length ec, .slice za Λ.zxs.length zc, .bool Λ.doubt] 79]) (Quiet.load rfl ag_3 (by (repeat' constructor)) rfl)) (by (repeat' constructor)) ?nx275
     rintro v L' ⟨rfl, rfl⟩
     refine D.h rfl (by kernel_rfl) (OpSpec.call Tryz.func46 rfl rfl (vs := [_, _]) rfl (lahead_spec Λ.base Λ.snap hΛ.base (by omega))) (by (repeat' constructor)) ?nx277
     rintro v L' ⟨bh, ch, rfl, rfl⟩
     refine D.qw [16, 17] rfl (by kernel_rfl) (Quiet.slen rfl Tryz.underlying46 rfl) ?_
     refine D.qw [17] rfl (by kernel_rfl) (Quiet.as (v' := vint (((headL Λ.base Λ.snap).length + n : Nat) : Int)) (by simp) (Quiet.add rfl rfl (by omega))) ?_
     refine D.h rfl (by kernel_rfl) (OpSpec.call Tryz.func75 rfl rfl (vs := [_, _]) rfl (wcut_spec x d ω δ (((headL Λ.base Λ.snap).length + n : Nat) : Int) hI)) (by (repeat' constructor)) ?nx281
     rintro v L' ⟨rfl, rfl⟩
     refine D.ph ?_
     refine Phases.go [] (by (repeat' constructor)) ?_
     refine D.h rfl (by kernel_rfl) (OpSpec.call Tryz.func50 rfl rfl (vs := [_, _]) rfl (lmetC_spec g x Λ _ ea ec za zc)) (by (repeat' constructor)) ?nx283
     rintro v L' ⟨rfl, rfl⟩
     refine D.ph ?_
     refine Phases.go [] (by (repeat' constructor)) ?_
     refine D.qw [] rfl (by kernel_rfl) (Quiet.assign rfl) ?_
     refine D.ph (Phases.fin (G.then_n (G.seq (G.seq (G.region (G.q (Quiet.move rfl) rfl (G.q (Quiet.int rfl rfl rfl) rfl (G.nil (G.then_n ?_)))))))))
     refine G.condD rfl (fun h40 => ?_) (fun h40 => ?_)
     ·refine G.draw [16, 19] [[0, 1, 2, 3, 4, 5, 6, 7, 8, 9, 10, 11, 12, 13, 14, 15, 16], [17, 18, 19]] mixed (by kernel_rfl) ?_
      refine Phases.go [] (by (repeat' constructor)) ?_
      refine D.qw [14, 15, 16] rfl (by kernel_rfl) (Quiet.move rfl) ?_
      refine D.q rfl (by kernel_rfl) (Quiet.move rfl) ?_
      refine D.qw [3, 4, 5, 7, 14, 15, 16] rfl (by kernel_rfl) (Quiet.move rfl) ?_
      refine D.qw [4, 5, 7, 14, 15, 16] rfl (by kernel_rfl) (Quiet.nilp rfl) ?_
      refine D.qw [5, 7, 14, 15, 16] rfl (by kernel_rfl) (Quiet.fieldAddr rfl fo_79_4) ?_
      refine D.qw [7, 14, 15, 16] rfl (by kernel_rfl) (Quiet.load rfl ag_46 (by (repeat' constructor)) (rfl)) ?_
      refine D.qw [7, 14, 15, 16] rfl (by kernel_rfl) (Quiet.move rfl) ?_
      refine D.qw [14, 15, 16] rfl (by kernel_rfl) (Quiet.to (v' := .slice ea n ec) (Quiet.slTo (j := (n : Int)) rfl el_46 rfl (by omega) hadea) (by rw [Int.toNat_natCast])) ?_
      refine D.qw [9, 10, 11, 13, 14, 15, 16] rfl (by kernel_rfl) (Quiet.move rfl) ?_
      refine D.qw [10, 11, 13, 14, 15, 16] rfl (by kernel_rfl) (Quiet.nilp rfl) ?_
      refine D.qw [11, 13, 14, 15, 16] rfl (by kernel_rfl) (Quiet.fieldAddr rfl fo_79_5) ?_
      refine D.qw [13, 14, 15, 16] rfl (by kernel_rfl) (Quiet.load rfl ag_31 (by (repeat' constructor)) (rfl)) ?_
      refine D.q rfl (by kernel_rfl) (Quiet.move rfl) ?_
      refine D.q rfl (by kernel_rfl) (Quiet.to (v' := .slice za n zc) (Quiet.slTo (j := (n : Int)) rfl el_31 rfl (by omega) hadza) (by rw [Int.toNat_natCast])) ?_
      refine D.qw [15, 16] rfl (by kernel_rfl) (Quiet.nilp rfl) ?_
      refine D.qw [16] rfl (by kernel_rfl) (Quiet.fieldAddr rfl fo_79_4) ?_
      refine D.h rfl (by kernel_rfl) (OpSpec.store rfl rfl rfl sz_46 ?c300 ?c301) (by (repeat' constructor)) ?nx302
      case c300 => first | decide | (simp; omega) | simp
      case c301 => exact nfz0 _ _
      rintro v L' rfl
      refine D.ph ?_
      refine Phases.go [] (by (repeat' constructor)) ?_
      refine D.qw [18, 19] rfl (by kernel_rfl) (Quiet.nilp rfl) ?_
      refine D.qw [19] rfl (by kernel_rfl) (Quiet.fieldAddr rfl fo_79_5) ?_
      refine D.h rfl (by kernel_rfl) (OpSpec.store rfl rfl rfl sz_31 ?c305 ?c306) (by (repeat' constructor)) ?nx307
      case c305 => first | decide | (simp; omega) | simp
      case c306 => exact nfz0 _ _
      rintro v L' rfl
      refine D.ph (Phases.fin (G.then_n (G.seq (G.region (G.q (Quiet.move rfl) rfl (G.q (Quiet.assign rfl) rfl (G.nil (G.then_n (G.ret ?_)))))))))
      have hr : lgCut ⟨δ, ω, Λ⟩ z = lgCut2 ⟨δ, ω, Λ⟩ n := by unfold lgCut; dsimp only; rw [if_neg (by rw [h11]; decide), hpl]
      rw [hr]
      have hr2 : lgCut2 ⟨δ, ω, Λ⟩ n = (⟨(cutZ δ ω (((headL Λ.base Λ.snap).length + n : Nat) : Int)).1, (cutZ δ ω (((headL Λ.base Λ.snap).length + n : Nat) : Int)).2.1, ⟨Λ.acc, Λ.cur, Λ.base, Λ.snap, Λ.ents.take n, Λ.zxs.take n, Λ.doubt⟩⟩, 0) := by unfold lgCut2; dsimp only; rw [if_pos (show (metL Λ (cutZ δ ω (((headL Λ.base Λ.snap).length + n : Nat) : Int))).2 = 0 from h40)]
      rw [hr2, h40]
      try dsimp only
      refine G.slTo (a := ea) (c := ec) (m := Λ.ents.length) (k := n) (by omega) (by (repeat' constructor)) ?_
      refine G.slTo (a := za) (c := zc) (m := Λ.zxs.length) (k := n) (by omega) (by (repeat' constructor)) ?_
      have hmd : (Λ.met (cutZ δ ω (((headL Λ.base Λ.snap).length + n : Nat) : Int)).2.2).doubt = Λ.doubt := by unfold Lg.met; rw [if_neg (fun g2 => by rw [g2] at h40; exact absurd h40 (by decide))]
      rw [hmd]
      refine G.lgFold (g := g) (x := x) (ea := ea) (ec := ec) (za := za) (zc := zc) (m := n) (k := n) (⟨Λ.acc, Λ.cur, Λ.base, Λ.snap, Λ.ents.take n, Λ.zxs.take n, Λ.doubt⟩ : Lg) (by (repeat' constructor)) rfl (by simp; omega) (by simp; omega) (by simp [strs, List.map_take]) (by simp [ints, List.map_take]) ?_
      exact G.done (l := [.tmp 4]) rfl rfl ⟨rfl, rfl⟩ (by (repeat' constructor)) (by (repeat' constructor))
     ·refine G.skip (G.then_n (G.seq (G.region (G.q (Quiet.move rfl) rfl (G.q (Quiet.assign rfl) rfl (G.nil (G.then_n (G.ret ?_))))))))
      have hr : lgCut ⟨δ, ω, Λ⟩ z = lgCut2 ⟨δ, ω, Λ⟩ n := by unfold lgCut; dsimp only; rw [if_neg (by rw [h11]; decide), hpl]
      rw [hr]
      have hr2 : lgCut2 ⟨δ, ω, Λ⟩ n = metL Λ (cutZ δ ω (((headL Λ.base Λ.snap).length + n : Nat) : Int)) := by unfold lgCut2; dsimp only; rw [if_neg (show ¬ (metL Λ (cutZ δ ω (((headL Λ.base Λ.snap).length + n : Nat) : Int))).2 = 0 from h40)]
      rw [hr2]
      try dsimp only
      refine G.lgFold (g := g) (x := x) (ea := ea) (ec := ec) (za := za) (zc := zc) (m := Λ.ents.length) (k := Λ.zxs.length) (Λ.met (cutZ δ ω (((headL Λ.base Λ.snap).length + n : Nat) : Int)).2.2) (by (repeat' constructor)) (by rw [met_acc, met_cur, met_base, met_snap]) (by rw [met_ents]) (by rw [met_zxs]) (by rw [met_ents]) (by rw [met_zxs]) ?_
      exact G.done (l := [.tmp 4]) rfl rfl ⟨rfl, rfl⟩ (by (repeat' constructor)) (by (repeat' constructor))

end Go.Proofs.YtidjhgbdokcphaaGreat

/- Own work: parts of slices; a ledger that is being made. -/

namespace Go.Proofs.YtidjhgbdokcphaaGreat
open Go

def cutG (a : Option Addr) (c i sz : Nat) : Option Addr := if c = i then a else a.map (·.add (i * sz))
def cutS (a : Option Addr) (c i : Nat) : Option Addr := cutG a c i 1
theorem Quiet.slFromG {P : Program} {E : Env} {L : List HP} {ty : TypeId} {t : TypeId} {x y : Operand} {a : Option Addr} {n c e sz by' : Nat} {i : Int} (hx : ev E x = some (.slice a n c)) (ht : elemOf' P t = some (e, sz, by')) (hy : ev E y = some (.int .i64 i)) (hb : 0 ≤ i ∧ i ≤ n ∧ n ≤ c) :
    Quiet P ⟨none, .slice t x (some y) none none, ty, "", #[], none⟩ E L (.slice (cutG a c i.toNat sz) (n - i.toNat) (c - i.toNat)) := by
  intro ρ w ha _
  unfold elemOf' at ht
  split at ht <;> (try cases ht)
  rename_i e' hu
  split at ht <;> (try cases ht)
  rename_i inf hin
  refine run_v ?_
  show (Instr.sliceAt t (ρ x) (some (ρ y)) none none).run P w = _
  rw [ha x _ hx, ha y _ hy]
  unfold Instr.sliceAt
  rw [run_bind (run_underlying hu)]
  show (Instr.slice t (.slice a n c) (some (.int .i64 i)) none none).run P w = _
  unfold Instr.slice
  rw [run_bind (run_underlying hu)]
  show (do let (l, h, m) ← Instr.sliceBounds true n c (some (.int .i64 i)) none none; let size ← sizeOf e; pure (.slice (if m = l then a else a.map (·.add (l * size))) (h - l) (m - l)) : Sem Value).run P w = _
  rw [run_bind (run_sliceBounds (i := i) (j := n) (.inl rfl) (.inr ⟨rfl, rfl⟩) ⟨hb.1, by omega, by omega⟩)]
  show (do let size ← sizeOf e; pure (.slice (if c = i.toNat then a else a.map (·.add (i.toNat * size))) ((n : Int).toNat - i.toNat) (c - i.toNat)) : Sem Value).run P w = _
  rw [run_bind (run_sizeOf (k := inf.size) (by simp [sizeOf', hin]))]
  rw [Int.toNat_natCast]; rfl
theorem Quiet.slFromS {P : Program} {E : Env} {L : List HP} {ty : TypeId} {t : TypeId} {x y : Operand} {a : Option Addr} {n c e by' : Nat} {i : Int} (hx : ev E x = some (.slice a n c)) (ht : elemOf' P t = some (e, 1, by')) (hy : ev E y = some (.int .i64 i)) (hb : 0 ≤ i ∧ i ≤ n ∧ n ≤ c) :
    Quiet P ⟨none, .slice t x (some y) none none, ty, "", #[], none⟩ E L (.slice (cutS a c i.toNat) (n - i.toNat) (c - i.toNat)) := Quiet.slFromG hx ht hy hb
theorem slR_from {T : TypeId} {m c n : Nat} {a : Option Addr} {xs : List Value} {h : Hp} (hn : n ≤ m) (hp : slR T 1 (.slice a m c) m xs h) : rdS 1 h (.slice (cutS a c n) (m - n) (c - n)) (m - n) (xs.drop n) := by
  have hl := slR_length hp
  rcases Nat.lt_or_ge n m with g | g
  · rcases hp with ⟨-, h2, -⟩ | ⟨b, cap, rest, fr, hv, hb, h1, h2, h3, h4⟩
    · omega
    · simp only [Value.slice.injEq] at hv
      obtain ⟨rfl, -, rfl⟩ := hv
      have h9 : slR T 1 (.slice (some ⟨b, 0, none⟩) m c) m xs h := .inr ⟨b, c, rest, fr, rfl, hb, h1, h2, h3, h4⟩
      have := rdS_drop (k := n) (slR_rd h9) g
      unfold cutS cutG
      rw [if_neg (by omega)]
      simp only [Option.map_some, Addr.add_eq, Nat.mul_one] at this ⊢
      exact this
  · obtain rfl : n = m := by omega
    refine .inl ⟨by omega, List.drop_eq_nil_of_le (by omega), _, _, by rw [Nat.sub_self]⟩
/-- A ledger that is being made: no log yet. -/
def lgNR (b : Nat) (base : Int) (snap : Bs) (es : List Bs) (zs : List Int) : HP := fun h => ∃ y : (Option Addr × Nat) × (Option Addr × Nat), True ∧ sep [ptc b [vint 0, vint 0, .pointer none, vint base, vstr snap, .slice y.1.1 es.length y.1.2, .slice y.2.1 zs.length y.2.2, .bool false] 79,
  strR (.slice y.1.1 es.length y.1.2) es, intR (.slice y.2.1 zs.length y.2.2) zs] h
section
variable {W : World} {n : Nat} {ds : List Deferred} {E : Env} {L R : List HP} {X : Act → World → Prop}
theorem G.lgNOpen {b : Nat} {base : Int} {snap : Bs} {es : List Bs} {zs : List Int} (hL : Pick (lgNR b base snap es zs) L R) (h : ∀ ea ec za zc, G W n ds E (ptc b [vint 0, vint 0, .pointer none, vint base, vstr snap, .slice ea es.length ec, .slice za zs.length zc, .bool false] 79 :: strR (.slice ea es.length ec) es :: intR (.slice za zs.length zc) zs :: R) X) : G W n ds E L X :=
  G.focus hL (G.open (q := fun y : (Option Addr × Nat) × (Option Addr × Nat) => [ptc b [vint 0, vint 0, .pointer none, vint base, vstr snap, .slice y.1.1 es.length y.1.2, .slice y.2.1 zs.length y.2.2, .bool false] 79, strR (.slice y.1.1 es.length y.1.2) es, intR (.slice y.2.1 zs.length y.2.2) zs]) (φ := fun _ => True) (fun _ hp => hp) fun y _ => h y.1.1 y.1.2 y.2.1 y.2.2)
theorem G.lgNFold {b : Nat} (base : Int) (snap : Bs) (es : List Bs) (zs : List Int) {l xs ys : List Value} {ea za : Option Addr} {ec zc m k : Nat} (hL : Picks [ptc b l 79, slR 9 1 (.slice ea m ec) m xs, slR 3 1 (.slice za k zc) k ys] L R)
    (hl : l = [vint 0, vint 0, .pointer none, vint base, vstr snap, .slice ea m ec, .slice za k zc, .bool false]) (hm : m = es.length) (hk : k = zs.length) (he : xs = strs es) (hz : ys = ints zs) (h : G W n ds E (lgNR b base snap es zs :: R) X) : G W n ds E L X := by
  subst hl; subst hm; subst hk; subst he; subst hz
  exact G.fold hL (fun _ hp => ⟨((ea, ec), (za, zc)), trivial, hp⟩) h
end
theorem recZ_len' (s : Bs) : (recZ s).length = s.length + 6 := by rw [recZ_len]
theorem laid_few : ∀ {l : List Bs}, (∀ s ∈ l, s.length ≤ 4000) → (laidZ l).length ≤ l.length * 4006
  | [], _ => by simp [laidZ]
  | s :: l, h => by
    have h1 := laid_few (l := l) (fun x hx => h x (List.mem_cons_of_mem _ hx))
    have h2 := h s (List.mem_cons_self ..)
    have e : laidZ (s :: l) = recZ s ++ laidZ l := by simp [laidZ]
    rw [e, List.length_append, recZ_len', List.length_cons]
    omega
theorem renew_bound {base : Int} {snap : Bs} {es : List Bs} (hs : snap.length ≤ 65536) (he : es.length ≤ 200) (h : ((headL base snap ++ es).any fun s => decide (s.length > 4000)) = false) : (laidZ (headL base snap ++ es)).length ≤ 3000000 := by
  have h1 := headL_len base snap hs
  have h2 := laid_few (l := headL base snap ++ es) (fun s hs => by
    have := List.any_eq_false.1 h s hs
    simpa using this)
  rw [List.length_append] at h2
  omega
theorem renew_bad {s : Ld} {base : Int} {snap : Bs} {es : List Bs} {zs : List Int} (h : (lgRenew s base snap es zs).2 ≠ 0) : ∃ e, (lgRenew s base snap es zs).1.Λ = s.Λ.met e := by
  unfold lgRenew at h ⊢
  split
  · exact ⟨0, rfl⟩
  · rename_i g
    rw [if_neg g] at h
    split
    · rename_i g2; rw [if_pos g2] at h; exact absurd rfl h
    · exact ⟨_, rfl⟩
end Go.Proofs.YtidjhgbdokcphaaGreat

/- Own work, by program: package ledger: renew, Compact, Install: walked. -/

namespace Go.Proofs.YtidjhgbdokcphaaGreat
open Go
set_option maxRecDepth 100000 in
theorem lrenew_spec (g x d : Nat) (δ : Dk) (ω : Wl) (Λ : Lg) (base : Int) (snap : Bs) (ve vz : Value) (es : List Bs) (zs : List Int) (ea : Option Addr) (ec : Nat) (za : Option Addr) (zc : Nat) (p : HP) (hI : WlI δ ω) (hb : I64 base) (hsn : snap.length ≤ 65536) (hre : ∀ h : Hp, p h → rdS 1 h ve es.length (strs es)) (hrz : ∀ h : Hp, p h → rdS 1 h vz zs.length (ints zs)) (hel : es.length ≤ 4294967296) (hzl : zs.length = es.length) :
    Fn Tryz.prog 139 #[vptr g, .agg [vint 0, vint 0, .pointer none, vint base, vstr snap, ve, vz, .bool false].toArray] [ptc g [vint Λ.acc, vint Λ.cur, vptr x, vint Λ.base, vstr Λ.snap, .slice ea Λ.ents.length ec, .slice za Λ.zxs.length zc, .bool Λ.doubt] 79, wlR x d ω, dkR d δ, p] fun v L => v = vint (lgRenew ⟨δ, ω, Λ⟩ base snap es zs).2 ∧ (((lgRenew ⟨δ, ω, Λ⟩ base snap es zs).2 = 0 ∧ L = [lgR g x (lgRenew ⟨δ, ω, Λ⟩ base snap es zs).1.Λ, wlR x d (lgRenew ⟨δ, ω, Λ⟩ base snap es zs).1.ω, dkR d (lgRenew ⟨δ, ω, Λ⟩ base snap es zs).1.δ, p]) ∨ ((lgRenew ⟨δ, ω, Λ⟩ base snap es zs).2 ≠ 0 ∧ L = [ptc g [vint Λ.acc, vint Λ.cur, vptr x, vint Λ.base, vstr Λ.snap, .slice ea Λ.ents.length ec, .slice za Λ.zxs.length zc, .bool (lgRenew ⟨δ, ω, Λ⟩ base snap es zs).1.Λ.doubt] 79, wlR x d (lgRenew ⟨δ, ω, Λ⟩ base snap es zs).1.ω, dkR d (lgRenew ⟨δ, ω, Λ⟩ base snap es zs).1.δ, p])) := by
 refine Fn.intro (vs := [vptr g, .agg [vint 0, vint 0, .pointer none, vint base, vstr snap, ve, vz, .bool false].toArray]) Tryz.func139 rfl rfl ?_
 intro F W
 refine G.rdAny (p := p) hre (by (repeat' constructor)) fun ae ce e _ => ?_
 subst e
 refine G.rdAny (p := p) hrz (by (repeat' constructor)) fun az cz e _ => ?_
 subst e
 have h0 := headL_len base snap hsn
 refine G.seq (G.region ?_)
 refine G.op (OpSpec.box rfl) (by (repeat' constructor)) rfl ?nx1
 rintro v L' ⟨b3, rfl, rfl⟩
 refine G.q (Quiet.assign rfl) rfl (G.nil ?_)
 refine G.ptCast (b := b3) (l' := [vint 0, vint 0, .pointer none, vint base, vstr snap, .slice ae es.length ce, .slice az zs.length cz, .bool false]) (by (repeat' constructor)) rfl ?_
 refine G.then_n (G.seq (G.seq (G.region (G.q (Quiet.fieldAddr rfl fo_79_4) rfl ?_))))
 refine G.q (Quiet.load rfl ag_46 (by (repeat' constructor)) (rfl)) rfl ?_
 refine G.q (Quiet.slen rfl Tryz.underlying46 rfl) rfl (G.q (Quiet.int rfl rfl rfl) rfl (G.nil (G.then_n ?_)))
 refine G.condD rfl (fun h9 => ?_) (fun h9 => ?_)
 ·refine G.seq (G.region (G.q (Quiet.assign rfl) rfl (G.nil (G.then_n (G.ret (G.then_r ?_))))))
  have hr : lgRenew ⟨δ, ω, Λ⟩ base snap es zs = (⟨δ, ω, Λ⟩, 83) := by unfold lgRenew; rw [if_pos (by omega)]
  rw [hr]
  exact G.done (l := [.tmp 4]) rfl rfl ⟨rfl, .inr ⟨show (83 : Int) ≠ 0 by decide, rfl⟩⟩ (by (repeat' constructor)) (by (repeat' constructor))
 ·refine G.skip (G.then_n (G.seq ?_))
  refine G.draw [4, 9, 12, 13, 14] [[0, 1, 2, 3, 5, 6, 7, 8, 10, 11, 9, 12, 4, 13], [14], [15]] mixed (by kernel_rfl) ?_
  refine Phases.go [ptc b3 _ _] (by (repeat' constructor)) ?_
  refine D.q rfl (by kernel_rfl) (Quiet.move rfl) ?_
  refine D.q rfl (by kernel_rfl) (Quiet.move rfl) ?_
  refine D.q rfl (by kernel_rfl) (Quiet.nilp rfl) ?_
  refine D.q rfl (by kernel_rfl) (Quiet.fieldAddr rfl fo_79_1) ?_
  refine D.q rfl (by kernel_rfl) (Quiet.fieldAddr rfl fo_79_2) ?_
  refine D.q rfl (by kernel_rfl) (Quiet.load rfl ag_3 (by (repeat' constructor)) (rfl)) ?_
  refine D.q rfl (by kernel_rfl) (Quiet.fieldAddr rfl fo_79_3) ?_
  refine D.q rfl (by kernel_rfl) (Quiet.load rfl ag_9 (by (repeat' constructor)) (rfl)) ?_
  refine D.q rfl (by kernel_rfl) (Quiet.fieldAddr rfl fo_79_4) ?_
  refine D.q rfl (by kernel_rfl) (Quiet.load rfl ag_46 (by (repeat' constructor)) (rfl)) ?_
  refine D.h2 (k := 4) rfl rfl (by kernel_rfl) rfl (OpSpec.call Tryz.func46 rfl rfl (vs := [_, _]) rfl (lahead_spec base snap hb (by omega))) (by (repeat' constructor)) (Quiet.spec (L := [ptc g [vint Λ.acc, vint Λ.cur, vptr x, vint Λ.base, vstr Λ.snap, .slice ea Λ.ents.length ec, .slice za Λ.zxs.length zc, .bool Λ.doubt] 79]) (Quiet.load rfl ag_77 (by (repeat' constructor)) rfl)) (by (repeat' constructor)) ?nx19 ?nx20
  ·rintro v L' ⟨bh, ch, rfl, rfl⟩
   refine D.h2 (k := 4) rfl rfl (by kernel_rfl) rfl (OpSpec.append (n := (headL base snap).length) (m := es.length) (xs := strs (headL base snap)) (ys := strs es) (p := p) rfl rfl rfl el_46 (.inl ⟨_, Tryz.underlying46⟩) ze_9 rfl rfl ?hc22 hre ?hb23 (by decide)) (by (repeat' constructor)) (Quiet.spec (L := [ptc g [vint Λ.acc, vint Λ.cur, vptr x, vint Λ.base, vstr Λ.snap, .slice ea Λ.ents.length ec, .slice za Λ.zxs.length zc, .bool Λ.doubt] 79]) (Quiet.load rfl ag_77 (by (repeat' constructor)) rfl)) (by (repeat' constructor)) ?nx24 ?nx25
   case hc22 => intro y hy; obtain ⟨z, -, rfl⟩ := List.mem_map.1 hy; rfl
   case hb23 => omega
   ·rintro v L' ⟨⟨a12, c12, rfl⟩, rfl⟩
    refine D.h rfl (by kernel_rfl) (Quiet.spec (L := [ptc g [vint Λ.acc, vint Λ.cur, vptr x, vint Λ.base, vstr Λ.snap, .slice ea Λ.ents.length ec, .slice za Λ.zxs.length zc, .bool Λ.doubt] 79]) (Quiet.load rfl ag_77 (by (repeat' constructor)) rfl)) (by (repeat' constructor)) ?nx27
    rintro v L' ⟨rfl, rfl⟩
    refine D.h rfl (by kernel_rfl) (OpSpec.call Tryz.func180 rfl rfl (vs := [_, _]) rfl (wrenew2_spec x d ω δ (.slice a12 ((headL base snap).length + es.length) c12) (headL base snap ++ es) (slR 9 1 (.slice a12 ((headL base snap).length + es.length) c12) ((headL base snap).length + es.length) (strs (headL base snap) ++ strs es)) hI ?hr29 ?hln30 ?hlb31)) (by (repeat' constructor)) ?nx32
    case hr29 => exact fun h hp => (by rw [List.length_append, show strs (headL base snap ++ es) = strs (headL base snap) ++ strs es from List.map_append]; exact slR_rd hp)
    case hln30 => rw [List.length_append]; omega
    case hlb31 => exact renew_bound hsn (by omega)
    rintro v L' ⟨rfl, rfl⟩
    refine D.ph ?_
    refine Phases.go [] (by (repeat' constructor)) ?_
    refine D.h rfl (by kernel_rfl) (OpSpec.call Tryz.func50 rfl rfl (vs := [_, _]) rfl (lmetC_spec g x Λ _ ea ec za zc)) (by (repeat' constructor)) ?nx34
    rintro v L' ⟨rfl, rfl⟩
    refine D.ph ?_
    refine Phases.go [] (by (repeat' constructor)) ?_
    refine D.qw [] rfl (by kernel_rfl) (Quiet.assign rfl) ?_
    refine D.ph (Phases.fin (G.then_n (G.seq (G.seq (G.region (G.q (Quiet.move rfl) rfl (G.q (Quiet.int rfl rfl rfl) rfl (G.nil (G.then_n ?_)))))))))
    refine G.condD rfl (fun h26 => ?_) (fun h26 => ?_)
    ·refine G.draw [10, 13, 16, 19, 22, 25] [[0, 1, 2, 3, 4, 5, 6, 7, 8, 9, 11, 12, 10, 13, 14, 15, 16, 17, 18, 19, 20, 21, 22], [23, 24, 25]] mixed (by kernel_rfl) ?_
     refine Phases.go [ptc b3 _ _] (by (repeat' constructor)) ?_
     refine D.q rfl (by kernel_rfl) (Quiet.move rfl) ?_
     refine D.q rfl (by kernel_rfl) (Quiet.move rfl) ?_
     refine D.q rfl (by kernel_rfl) (Quiet.move rfl) ?_
     refine D.q rfl (by kernel_rfl) (Quiet.move rfl) ?_
     refine D.q rfl (by kernel_rfl) (Quiet.fieldAddr rfl fo_79_2) ?_
     refine D.q rfl (by kernel_rfl) (Quiet.load rfl ag_3 (by (repeat' constructor)) (rfl)) ?_
     refine D.q rfl (by kernel_rfl) (Quiet.fieldAddr rfl fo_79_3) ?_
     refine D.q rfl (by kernel_rfl) (Quiet.load rfl ag_9 (by (repeat' constructor)) (rfl)) ?_
     refine D.qw [9, 10, 13, 14, 15, 16, 17, 18, 19, 20, 21, 22] rfl (by kernel_rfl) (Quiet.fieldAddr rfl fo_79_4) ?_
     refine D.qw [10, 13, 14, 15, 16, 17, 18, 19, 20, 21, 22] rfl (by kernel_rfl) (Quiet.load rfl ag_46 (by (repeat' constructor)) (rfl)) ?_
     refine D.q rfl (by kernel_rfl) (Quiet.fieldAddr rfl fo_79_5) ?_
     refine D.q rfl (by kernel_rfl) (Quiet.load rfl ag_31 (by (repeat' constructor)) (rfl)) ?_
     refine D.h rfl (by kernel_rfl) (OpSpec.call Tryz.func116 rfl rfl (vs := [_]) rfl (cloneT_spec _ es.length (strs es) p hre ?hc49 ?hb50)) (by (repeat' constructor)) ?nx51
     case hc49 => intro y hy; obtain ⟨z, -, rfl⟩ := List.mem_map.1 hy; rfl
     case hb50 => omega
     rintro v L' ⟨⟨a10, c10, rfl⟩, rfl⟩
     refine D.h rfl (by kernel_rfl) (OpSpec.call Tryz.func181 rfl rfl (vs := [_]) rfl (cloneI_spec _ zs.length (ints zs) p hrz ?hc53 ?hb54)) (by (repeat' constructor)) ?nx55
     case hc53 => intro y hy; obtain ⟨z, -, rfl⟩ := List.mem_map.1 hy; rfl
     case hb54 => omega
     rintro v L' ⟨⟨a13, c13, rfl⟩, rfl⟩
     refine D.qw [15, 16, 17, 18, 19, 20, 21, 22] rfl (by kernel_rfl) (Quiet.nilp rfl) ?_
     refine D.qw [16, 17, 18, 19, 20, 21, 22] rfl (by kernel_rfl) (Quiet.fieldAddr rfl fo_79_2) ?_
     refine D.h rfl (by kernel_rfl) (OpSpec.store rfl rfl rfl sz_3 ?c59 ?c60) (by (repeat' constructor)) ?nx61
     case c59 => first | decide | (simp; omega) | simp
     case c60 => exact nfz0 _ _
     rintro v L' rfl
     refine D.qw [18, 19, 20, 21, 22] rfl (by kernel_rfl) (Quiet.nilp rfl) ?_
     refine D.qw [19, 20, 21, 22] rfl (by kernel_rfl) (Quiet.fieldAddr rfl fo_79_3) ?_
     refine D.h rfl (by kernel_rfl) (OpSpec.store rfl rfl rfl sz_9 ?c64 ?c65) (by (repeat' constructor)) ?nx66
     case c64 => first | decide | (simp; omega) | simp
     case c65 => exact nfz0 _ _
     rintro v L' rfl
     refine D.qw [21, 22] rfl (by kernel_rfl) (Quiet.nilp rfl) ?_
     refine D.qw [22] rfl (by kernel_rfl) (Quiet.fieldAddr rfl fo_79_4) ?_
     refine D.h rfl (by kernel_rfl) (OpSpec.store rfl rfl rfl sz_46 ?c69 ?c70) (by (repeat' constructor)) ?nx71
     case c69 => first | decide | (simp; omega) | simp
     case c70 => exact nfz0 _ _
     rintro v L' rfl
     refine D.ph ?_
     refine Phases.go [] (by (repeat' constructor)) ?_
     refine D.qw [24, 25] rfl (by kernel_rfl) (Quiet.nilp rfl) ?_
     refine D.qw [25] rfl (by kernel_rfl) (Quiet.fieldAddr rfl fo_79_5) ?_
     refine D.h rfl (by kernel_rfl) (OpSpec.store rfl rfl rfl sz_31 ?c74 ?c75) (by (repeat' constructor)) ?nx76
     case c74 => first | decide | (simp; omega) | simp
     case c75 => exact nfz0 _ _
     rintro v L' rfl
     refine D.ph (Phases.fin (G.then_n (G.seq (G.region (G.q (Quiet.move rfl) rfl (G.q (Quiet.assign rfl) rfl (G.nil (G.then_n (G.ret ?_)))))))))
     have hr : lgRenew ⟨δ, ω, Λ⟩ base snap es zs = (⟨(renewZ δ ω (headL base snap ++ es)).1, (renewZ δ ω (headL base snap ++ es)).2.1, ⟨Λ.acc, Λ.cur, base, snap, es, zs, Λ.doubt⟩⟩, 0) := by unfold lgRenew; dsimp only; rw [if_neg (by omega), if_pos (show (metL Λ (renewZ δ ω (headL base snap ++ es))).2 = 0 from h26)]
     rw [hr, h26]
     dsimp only
     rw [doubt_of h26]
     refine G.lgFold (g := g) (x := x) (ea := a10) (ec := c10) (za := a13) (zc := c13) (m := es.length) (k := zs.length) (⟨Λ.acc, Λ.cur, base, snap, es, zs, Λ.doubt⟩ : Lg) (by (repeat' constructor)) rfl rfl rfl rfl rfl ?_
     exact G.done (l := [.tmp 4]) rfl rfl ⟨rfl, .inl ⟨rfl, rfl⟩⟩ (by (repeat' constructor)) (by (repeat' constructor))
    ·refine G.skip (G.then_n (G.seq (G.region (G.q (Quiet.move rfl) rfl (G.q (Quiet.assign rfl) rfl (G.nil (G.then_n (G.ret ?_))))))))
     have hr : lgRenew ⟨δ, ω, Λ⟩ base snap es zs = metL Λ (renewZ δ ω (headL base snap ++ es)) := by unfold lgRenew; dsimp only; rw [if_neg (by omega), if_neg (show ¬ (metL Λ (renewZ δ ω (headL base snap ++ es))).2 = 0 from h26)]
     rw [hr]
     exact G.done (l := [.tmp 4]) rfl rfl ⟨rfl, .inr ⟨h26, rfl⟩⟩ (by (repeat' constructor)) (by (repeat' constructor))
   ·rintro v L' ⟨rfl, rfl⟩
    refine D.h rfl (by kernel_rfl) (OpSpec.append (n := (headL base snap).length) (m := es.length) (xs := strs (headL base snap)) (ys := strs es) (p := p) rfl rfl rfl el_46 (.inl ⟨_, Tryz.underlying46⟩) ze_9 rfl rfl ?hc78 hre ?hb79 (by decide)) (by (repeat' constructor)) ?nx80
    case hc78 => intro y hy; obtain ⟨z, -, rfl⟩ := List.mem_map.1 hy; rfl
    case hb79 => omega
    rintro v L' ⟨⟨a12, c12, rfl⟩, rfl⟩
    refine D.h rfl (by kernel_rfl) (OpSpec.call Tryz.func180 rfl rfl (vs := [_, _]) rfl (wrenew2_spec x d ω δ (.slice a12 ((headL base snap).length + es.length) c12) (headL base snap ++ es) (slR 9 1 (.slice a12 ((headL base snap).length + es.length) c12) ((headL base snap).length + es.length) (strs (headL base snap) ++ strs es)) hI ?hr82 ?hln83 ?hlb84)) (by (repeat' constructor)) ?nx85
    case hr82 => exact fun h hp => (by rw [List.length_append, show strs (headL base snap ++ es) = strs (headL base snap) ++ strs es from List.map_append]; exact slR_rd hp)
    case hln83 => rw [List.length_append]; omega
    case hlb84 => exact renew_bound hsn (by omega)
    rintro v L' ⟨rfl, rfl⟩
    refine D.ph ?_
    refine Phases.go [] (by (repeat' constructor)) ?_
    refine D.h rfl (by kernel_rfl) (OpSpec.call Tryz.func50 rfl rfl (vs := [_, _]) rfl (lmetC_spec g x Λ _ ea ec za zc)) (by (repeat' constructor)) ?nx87
    rintro v L' ⟨rfl, rfl⟩
    refine D.ph ?_
    refine Phases.go [] (by (repeat' constructor)) ?_
    refine D.qw [] rfl (by kernel_rfl) (Quiet.assign rfl) ?_
    refine D.ph (Phases.fin (G.then_n (G.seq (G.seq (G.region (G.q (Quiet.move rfl) rfl (G.q (Quiet.int rfl rfl rfl) rfl (G.nil (G.then_n ?_)))))))))
    refine G.condD rfl (fun h26 => ?_) (fun h26 => ?_)
    ·refine G.draw [10, 13, 16, 19, 22, 25] [[0, 1, 2, 3, 4, 5, 6, 7, 8, 9, 11, 12, 10, 13, 14, 15, 16, 17, 18, 19, 20, 21, 22], [23, 24, 25]] mixed (by kernel_rfl) ?_
     refine Phases.go [ptc b3 _ _] (by (repeat' constructor)) ?_
     refine D.q rfl (by kernel_rfl) (Quiet.move rfl) ?_
     refine D.q rfl (by kernel_rfl) (Quiet.move rfl) ?_
     refine D.q rfl (by kernel_rfl) (Quiet.move rfl) ?_
     refine D.q rfl (by kernel_rfl) (Quiet.move rfl) ?_
     refine D.q rfl (by kernel_rfl) (Quiet.fieldAddr rfl fo_79_2) ?_
     refine D.q rfl (by kernel_rfl) (Quiet.load rfl ag_3 (by (repeat' constructor)) (rfl)) ?_
     refine D.q rfl (by kernel_rfl) (Quiet.fieldAddr rfl fo_79_3) ?_
     refine D.q rfl (by kernel_rfl) (Quiet.load rfl ag_9 (by (repeat' constructor)) (rfl)) ?_
     refine D.qw [9, 10, 13, 14, 15, 16, 17, 18, 19, 20, 21, 22] rfl (by kernel_rfl) (Quiet.fieldAddr rfl fo_79_4) ?_
     refine D.qw [10, 13, 14, 15, 16, 17, 18, 19, 20, 21, 22] rfl (by kernel_rfl) (Quiet.load rfl ag_46 (by (repeat' constructor)) (rfl)) ?_
     refine D.q rfl (by kernel_rfl) (Quiet.fieldAddr rfl fo_79_5) ?_
     refine D.q rfl (by kernel_rfl) (Quiet.load rfl ag_31 (by (repeat' constructor)) (rfl)) ?_
     refine D.h rfl (by kernel_rfl) (OpSpec.call Tryz.func116 rfl rfl (vs := [_]) rfl (cloneT_spec _ es.length (strs es) p hre ?hc102 ?hb103)) (by (repeat' constructor)) ?nx104
     case hc102 => intro y hy; obtain ⟨z, -, rfl⟩ := List.mem_map.1 hy; rfl
     case hb103 => omega
     rintro v L' ⟨⟨a10, c10, rfl⟩, rfl⟩
     refine D.h rfl (by kernel_rfl) (OpSpec.call Tryz.func181 rfl rfl (vs := [_]) rfl (cloneI_spec _ zs.length (ints zs) p hrz ?hc106 ?hb107)) (by (repeat' constructor)) ?nx108
     case hc106 => intro y hy; obtain ⟨z, -, rfl⟩ := List.mem_map.1 hy; rfl
     case hb107 => omega
     rintro v L' ⟨⟨a13, c13, rfl⟩, rfl⟩
     refine D.qw [15, 16, 17, 18, 19, 20, 21, 22] rfl (by kernel_rfl) (Quiet.nilp rfl) ?_
     refine D.qw [16, 17, 18, 19, 20, 21, 22] rfl (by kernel_rfl) (Quiet.fieldAddr rfl fo_79_2) ?_
     refine D.h rfl (by kernel_rfl) (OpSpec.store rfl rfl rfl sz_3 ?c112 ?c113) (by (repeat' constructor)) ?nx114
     case c112 => first | decide | (simp; omega) | simp
     case c113 => exact nfz0 _ _
     rintro v L' rfl
     refine D.qw [18, 19, 20, 21, 22] rfl (by kernel_rfl) (Quiet.nilp rfl) ?_
     refine D.qw [19, 20, 21, 22] rfl (by kernel_rfl) (Quiet.fieldAddr rfl fo_79_3) ?_
     refine D.h rfl (by kernel_rfl) (OpSpec.store rfl rfl rfl sz_9 ?c117 ?c118) (by (repeat' constructor)) ?nx119
     case c117 => first | decide | (simp; omega) | simp
     case c118 => exact nfz0 _ _
     rintro v L' rfl
     refine D.qw [21, 22] rfl (by kernel_rfl) (Quiet.nilp rfl) ?_
     refine D.qw [22] rfl (by kernel_rfl) (Quiet.fieldAddr rfl fo_79_4) ?_
     refine D.h rfl (by kernel_rfl) (OpSpec.store rfl rfl rfl sz_46 ?c122 ?c123) (by (repeat' constructor)) ?nx124
     case c122 => first | decide | (simp; omega) | simp
     case c123 => exact nfz0 _ _
     rintro v L' rfl
     refine D.ph ?_
     refine Phases.go [] (by (repeat' constructor)) ?_
     refine D.qw [24, 25] rfl (by kernel_rfl) (Quiet.nilp rfl) ?_
     refine D.qw [25] rfl (by kernel_rfl) (Quiet.fieldAddr rfl fo_79_5) ?_
     refine D.h rfl (by kernel_rfl) (OpSpec.store rfl rfl rfl sz_31 ?c127 ?c128) (by (repeat' constructor)) ?nx129
     case c127 => first | decide | (simp; omega) | simp
     case c128 => exact nfz0 _ _
     rintro v L' rfl
     refine D.ph (Phases.fin (G.then_n (G.seq (G.region (G.q (Quiet.move rfl) rfl (G.q (Quiet.assign rfl) rfl (G.nil (G.then_n (G.ret ?_)))))))))
     have hr : lgRenew ⟨δ, ω, Λ⟩ base snap es zs = (⟨(renewZ δ ω (headL base snap ++ es)).1, (renewZ δ ω (headL base snap ++ es)).2.1, ⟨Λ.acc, Λ.cur, base, snap, es, zs, Λ.doubt⟩⟩, 0) := by unfold lgRenew; dsimp only; rw [if_neg (by omega), if_pos (show (metL Λ (renewZ δ ω (headL base snap ++ es))).2 = 0 from h26)]
     rw [hr, h26]
     dsimp only
     rw [doubt_of h26]
     refine G.lgFold (g := g) (x := x) (ea := a10) (ec := c10) (za := a13) (zc := c13) (m := es.length) (k := zs.length) (⟨Λ.acc, Λ.cur, base, snap, es, zs, Λ.doubt⟩ : Lg) (by (repeat' constructor)) rfl rfl rfl rfl rfl ?_
     exact G.done (l := [.tmp 4]) rfl rfl ⟨rfl, .inl ⟨rfl, rfl⟩⟩ (by (repeat' constructor)) (by (repeat' constructor))
    ·refine G.skip (G.then_n (G.seq (G.region (G.q (Quiet.move rfl) rfl (G.q (Quiet.assign rfl) rfl (G.nil (G.then_n (G.ret ?_))))))))
     have hr : lgRenew ⟨δ, ω, Λ⟩ base snap es zs = metL Λ (renewZ δ ω (headL base snap ++ es)) := by unfold lgRenew; dsimp only; rw [if_neg (by omega), if_neg (show ¬ (metL Λ (renewZ δ ω (headL base snap ++ es))).2 = 0 from h26)]
     rw [hr]
     exact G.done (l := [.tmp 4]) rfl rfl ⟨rfl, .inr ⟨h26, rfl⟩⟩ (by (repeat' constructor)) (by (repeat' constructor))
  ·rintro v L' ⟨rfl, rfl⟩
   refine D.h rfl (by kernel_rfl) (OpSpec.call Tryz.func46 rfl rfl (vs := [_, _]) rfl (lahead_spec base snap hb (by omega))) (by (repeat' constructor)) ?nx131
   rintro v L' ⟨bh, ch, rfl, rfl⟩
   refine D.h rfl (by kernel_rfl) (OpSpec.append (n := (headL base snap).length) (m := es.length) (xs := strs (headL base snap)) (ys := strs es) (p := p) rfl rfl rfl el_46 (.inl ⟨_, Tryz.underlying46⟩) ze_9 rfl rfl ?hc133 hre ?hb134 (by decide)) (by (repeat' constructor)) ?nx135
   case hc133 => intro y hy; obtain ⟨z, -, rfl⟩ := List.mem_map.1 hy; rfl
   case hb134 => omega
   rintro v L' ⟨⟨a12, c12, rfl⟩, rfl⟩
   refine D.h rfl (by kernel_rfl) (OpSpec.call Tryz.func180 rfl rfl (vs := [_, _]) rfl (wrenew2_spec x d ω δ (.slice a12 ((headL base snap).length + es.length) c12) (headL base snap ++ es) (slR 9 1 (.slice a12 ((headL base snap).length + es.length) c12) ((headL base snap).length + es.length) (strs (headL base snap) ++ strs es)) hI ?hr137 ?hln138 ?hlb139)) (by (repeat' constructor)) ?nx140
   case hr137 => exact fun h hp => (by rw [List.length_append, show strs (headL base snap ++ es) = strs (headL base snap) ++ strs es from List.map_append]; exact slR_rd hp)
   case hln138 => rw [List.length_append]; omega
   case hlb139 => exact renew_bound hsn (by omega)
   rintro v L' ⟨rfl, rfl⟩
   refine D.ph ?_
   refine Phases.go [] (by (repeat' constructor)) ?_
   refine D.h rfl (by kernel_rfl) (OpSpec.call Tryz.func50 rfl rfl (vs := [_, _]) rfl (lmetC_spec g x Λ _ ea ec za zc)) (by (repeat' constructor)) ?nx142
   rintro v L' ⟨rfl, rfl⟩
   refine D.ph ?_
   refine Phases.go [] (by (repeat' constructor)) ?_
   refine D.qw [] rfl (by kernel_rfl) (Quiet.assign rfl) ?_
   refine D.ph (Phases.fin (G.then_n (G.seq (G.seq (G.region (G.q (Quiet.move rfl) rfl (G.q (Quiet.int rfl rfl rfl) rfl (G.nil (G.then_n ?_)))))))))
   refine G.condD rfl (fun h26 => ?_) (fun h26 => ?_)
   ·refine G.draw [10, 13, 16, 19, 22, 25] [[0, 1, 2, 3, 4, 5, 6, 7, 8, 9, 11, 12, 10, 13, 14, 15, 16, 17, 18, 19, 20, 21, 22], [23, 24, 25]] mixed (by kernel_rfl) ?_
    refine Phases.go [ptc b3 _ _] (by (repeat' constructor)) ?_
    refine D.q rfl (by kernel_rfl) (Quiet.move rfl) ?_
    refine D.q rfl (by kernel_rfl) (Quiet.move rfl) ?_
    refine D.q rfl (by kernel_rfl) (Quiet.move rfl) ?_
    refine D.q rfl (by kernel_rfl) (Quiet.move rfl) ?_
    refine D.q rfl (by kernel_rfl) (Quiet.fieldAddr rfl fo_79_2) ?_
    refine D.q rfl (by kernel_rfl) (Quiet.load rfl ag_3 (by (repeat' constructor)) (rfl)) ?_
    refine D.q rfl (by kernel_rfl) (Quiet.fieldAddr rfl fo_79_3) ?_
    refine D.q rfl (by kernel_rfl) (Quiet.load rfl ag_9 (by (repeat' constructor)) (rfl)) ?_
    refine D.qw [9, 10, 13, 14, 15, 16, 17, 18, 19, 20, 21, 22] rfl (by kernel_rfl) (Quiet.fieldAddr rfl fo_79_4) ?_
    refine D.qw [10, 13, 14, 15, 16, 17, 18, 19, 20, 21, 22] rfl (by kernel_rfl) (Quiet.load rfl ag_46 (by (repeat' constructor)) (rfl)) ?_
    refine D.q rfl (by kernel_rfl) (Quiet.fieldAddr rfl fo_79_5) ?_
    refine D.q rfl (by kernel_rfl) (Quiet.load rfl ag_31 (by (repeat' constructor)) (rfl)) ?_
    refine D.h rfl (by kernel_rfl) (OpSpec.call Tryz.func116 rfl rfl (vs := [_]) rfl (cloneT_spec _ es.length (strs es) p hre ?hc157 ?hb158)) (by (repeat' constructor)) ?nx159
    case hc157 => intro y hy; obtain ⟨z, -, rfl⟩ := List.mem_map.1 hy; rfl
    case hb158 => omega
    rintro v L' ⟨⟨a10, c10, rfl⟩, rfl⟩
    refine D.h rfl (by kernel_rfl) (OpSpec.call Tryz.func181 rfl rfl (vs := [_]) rfl (cloneI_spec _ zs.length (ints zs) p hrz ?hc161 ?hb162)) (by (repeat' constructor)) ?nx163
    case hc161 => intro y hy; obtain ⟨z, -, rfl⟩ := List.mem_map.1 hy; rfl
    case hb162 => omega
    rintro v L' ⟨⟨a13, c13, rfl⟩, rfl⟩
    refine D.qw [15, 16, 17, 18, 19, 20, 21, 22] rfl (by kernel_rfl) (Quiet.nilp rfl) ?_
    refine D.qw [16, 17, 18, 19, 20, 21, 22] rfl (by kernel_rfl) (Quiet.fieldAddr rfl fo_79_2) ?_
    refine D.h rfl (by kernel_rfl) (OpSpec.store rfl rfl rfl sz_3 ?c167 ?c168) (by (repeat' constructor)) ?nx169
    case c167 => first | decide | (simp; omega) | simp
    case c168 => exact nfz0 _ _
    rintro v L' rfl
    refine D.qw [18, 19, 20, 21, 22] rfl (by kernel_rfl) (Quiet.nilp rfl) ?_
    refine D.qw [19, 20, 21, 22] rfl (by kernel_rfl) (Quiet.fieldAddr rfl fo_79_3) ?_
    refine D.h rfl (by kernel_rfl) (OpSpec.store rfl rfl rfl sz_9 ?c172 ?c173) (by (repeat' constructor)) ?nx174
    case c172 => first | decide | (simp; omega) | simp
    case c173 => exact nfz0 _ _
    rintro v L' rfl
    refine D.qw [21, 22] rfl (by kernel_rfl) (Quiet.nilp rfl) ?_
    refine D.qw [22] rfl (by kernel_rfl) (Quiet.fieldAddr rfl fo_79_4) ?_
    refine D.h rfl (by kernel_rfl) (OpSpec.store rfl rfl rfl sz_46 ?c177 ?c178) (by (repeat' constructor)) ?nx179
    case c177 => first | decide | (simp; omega) | simp
    case c178 => exact nfz0 _ _
    rintro v L' rfl
    refine D.ph ?_
    refine Phases.go [] (by (repeat' constructor)) ?_
    refine D.qw [24, 25] rfl (by kernel_rfl) (Quiet.nilp rfl) ?_
    refine D.qw [25] rfl (by kernel_rfl) (Quiet.fieldAddr rfl fo_79_5) ?_
    refine D.h rfl (by kernel_rfl) (OpSpec.store rfl rfl rfl sz_31 ?c182 ?c183) (by (repeat' constructor)) ?nx184
    case c182 => first | decide | (simp; omega) | simp
    case c183 => exact nfz0 _ _
    rintro v L' rfl
    refine D.ph (Phases.fin (G.then_n (G.seq (G.region (G.q (Quiet.move rfl) rfl (G.q (Quiet.assign rfl) rfl (G.nil (G.then_n (G.ret ?_)))))))))
    have hr : lgRenew ⟨δ, ω, Λ⟩ base snap es zs = (⟨(renewZ δ ω (headL base snap ++ es)).1, (renewZ δ ω (headL base snap ++ es)).2.1, ⟨Λ.acc, Λ.cur, base, snap, es, zs, Λ.doubt⟩⟩, 0) := by unfold lgRenew; dsimp only; rw [if_neg (by omega), if_pos (show (metL Λ (renewZ δ ω (headL base snap ++ es))).2 = 0 from h26)]
    rw [hr, h26]
    dsimp only
    rw [doubt_of h26]
    refine G.lgFold (g := g) (x := x) (ea := a10) (ec := c10) (za := a13) (zc := c13) (m := es.length) (k := zs.length) (⟨Λ.acc, Λ.cur, base, snap, es, zs, Λ.doubt⟩ : Lg) (by (repeat' constructor)) rfl rfl rfl rfl rfl ?_
    exact G.done (l := [.tmp 4]) rfl rfl ⟨rfl, .inl ⟨rfl, rfl⟩⟩ (by (repeat' constructor)) (by (repeat' constructor))
   ·refine G.skip (G.then_n (G.seq (G.region (G.q (Quiet.move rfl) rfl (G.q (Quiet.assign rfl) rfl (G.nil (G.then_n (G.ret ?_))))))))
    have hr : lgRenew ⟨δ, ω, Λ⟩ base snap es zs = metL Λ (renewZ δ ω (headL base snap ++ es)) := by unfold lgRenew; dsimp only; rw [if_neg (by omega), if_neg (show ¬ (metL Λ (renewZ δ ω (headL base snap ++ es))).2 = 0 from h26)]
    rw [hr]
    exact G.done (l := [.tmp 4]) rfl rfl ⟨rfl, .inr ⟨h26, rfl⟩⟩ (by (repeat' constructor)) (by (repeat' constructor))

theorem sep_hd {p : HP} {h : Hp} (hp : sep [p] h) : ∀ {sz n : Nat} {v : Value} {ys : List Value}, (∀ h, p h → rdS sz h v n ys) → rdS sz h v n ys := by
  obtain ⟨g1, g2, -, le1, le2, q1, q2⟩ := hp
  intro sz n v ys hr
  exact rdS_mono (hr _ q1) le1
set_option maxRecDepth 100000 in
theorem lcompact_spec (g x d : Nat) (δ : Dk) (ω : Wl) (Λ : Lg) (z : Int) (snap : Bs) (hI : WlI δ ω) (hΛ : LgI Λ) (hs : Λ.zxs.Pairwise (· < ·)) (hz : I64 z) : Fn Tryz.prog 80 #[vptr g, vint z, vstr snap] [lgR g x Λ, wlR x d ω, dkR d δ] fun v L => v = vint (lgCompact ⟨δ, ω, Λ⟩ z snap).2 ∧ L = [lgR g x (lgCompact ⟨δ, ω, Λ⟩ z snap).1.Λ, wlR x d (lgCompact ⟨δ, ω, Λ⟩ z snap).1.ω, dkR d (lgCompact ⟨δ, ω, Λ⟩ z snap).1.δ] := by
 refine Fn.intro (vs := [vptr g, vint z, vstr snap]) Tryz.func80 rfl rfl ?_
 intro F W
 refine G.lgOpen (by (repeat' constructor)) fun ea ec za zc => ?_
 have h1 := hΛ.ents
 have h2 := hΛ.same
 refine G.seq (G.region (G.q (Quiet.assign rfl) rfl (G.nil (G.then_n (G.seq (G.block (G.seq (G.region (G.q (Quiet.move rfl) rfl (G.q (Quiet.nilp rfl) rfl (G.q (Quiet.fieldAddr rfl fo_79_6) rfl ?_)))))))))))
 refine G.q (Quiet.load rfl ag_4 (by (repeat' constructor)) (rfl)) rfl ?_
 refine G.q (Quiet.assign rfl) rfl (G.nil (G.then_n ?_))
 refine G.condB rfl (fun h9 => ?_) (fun h9 => ?_)
 ·refine G.seq (G.region (G.q (Quiet.assign rfl) rfl (G.nil (G.then_n (G.ret (G.blk_r (G.then_r ?_)))))))
  have hr : lgCompact ⟨δ, ω, Λ⟩ z snap = (⟨δ, ω, Λ⟩, 2) := by unfold lgCompact; dsimp only; rw [if_pos h9]
  rw [hr]
  try dsimp only
  refine G.lgFold (g := g) (x := x) Λ (by (repeat' constructor)) (by exact rfl) (by first | rfl | simp [Lg.keep]) (by first | rfl | simp [Lg.keep]) (by first | rfl | simp [Lg.keep]) (by first | rfl | simp [Lg.keep]) ?_
  exact G.done (l := [.tmp 6]) rfl rfl ⟨rfl, rfl⟩ (by (repeat' constructor)) (by (repeat' constructor))
 ·refine G.seq (G.region (G.q (Quiet.move rfl) rfl (G.q (Quiet.strlen rfl Tryz.underlying9 rfl) rfl (G.q (Quiet.int rfl rfl rfl) rfl (G.q (Quiet.assign rfl) rfl (G.nil (G.then_n ?_)))))))
  refine G.condD rfl (fun h14 => ?_) (fun h14 => ?_)
  ·refine G.seq (G.region (G.q (Quiet.assign rfl) rfl (G.nil (G.then_n (G.ret (G.blk_r (G.then_r ?_)))))))
   have hr : lgCompact ⟨δ, ω, Λ⟩ z snap = (⟨δ, ω, Λ⟩, 1) := by unfold lgCompact; dsimp only; rw [if_neg (by rw [h9]; decide), if_pos (by omega)]
   rw [hr]
   try dsimp only
   refine G.lgFold (g := g) (x := x) Λ (by (repeat' constructor)) (by exact rfl) (by first | rfl | simp [Lg.keep]) (by first | rfl | simp [Lg.keep]) (by first | rfl | simp [Lg.keep]) (by first | rfl | simp [Lg.keep]) ?_
   exact G.done (l := [.tmp 6]) rfl rfl ⟨rfl, rfl⟩ (by (repeat' constructor)) (by (repeat' constructor))
  ·refine G.skip (G.blk_n (G.then_n (G.seq ?_)))
   refine G.lgFold (g := g) (x := x) Λ (by (repeat' constructor)) (by exact rfl) (by first | rfl | simp [Lg.keep]) (by first | rfl | simp [Lg.keep]) (by first | rfl | simp [Lg.keep]) (by first | rfl | simp [Lg.keep]) ?_
   refine G.region (G.q (Quiet.move rfl) rfl (G.q (Quiet.move rfl) rfl ?_))
   refine G.op (OpSpec.call Tryz.func74 rfl rfl (vs := [_, _]) rfl (lupto_spec g x Λ z hΛ hs)) (by (repeat' constructor)) rfl ?nx13
   rintro v L' ⟨rfl, rfl⟩
   refine G.q (Quiet.move rfl) rfl (G.q (Quiet.extract rfl rfl) rfl (G.q (Quiet.extract rfl rfl) rfl (G.q (Quiet.assign rfl) rfl (G.q (Quiet.assign rfl) rfl (G.nil (G.then_n (G.seq (G.seq (G.region ?_)))))))))
   rcases hpl : placeZ Λ z with _ | n
   ·refine G.q (Quiet.move rfl) rfl (G.q (Quiet.not rfl) rfl (G.nil (G.then_n (G.condT rfl (G.seq (G.region (G.q (Quiet.assign rfl) rfl (G.nil (G.then_n (G.ret (G.then_r ?_)))))))))))
    have hr : lgCompact ⟨δ, ω, Λ⟩ z snap = (⟨δ, ω, Λ⟩, 81) := by unfold lgCompact; dsimp only; rw [if_neg (by rw [h9]; decide), if_neg (by omega), hpl]
    rw [hr]
    try dsimp only
    exact G.done (l := [.tmp 6]) rfl rfl ⟨rfl, rfl⟩ (by (repeat' constructor)) (by (repeat' constructor))
   ·simp only [Option.getD_some]
    have hpe := (place_le hpl).1
    refine G.q (Quiet.move rfl) rfl (G.q (Quiet.not rfl) rfl (G.nil (G.then_n (G.condF rfl (G.skip (G.then_n (G.seq ?_)))))))
    refine G.lgOpen (by (repeat' constructor)) fun ea ec za zc => ?_
    refine G.slAddr (a := ea) (c := ec) (by (repeat' constructor)) fun hcap1 _ => ?_
    refine G.slAddr (a := za) (c := zc) (by (repeat' constructor)) fun hcap2 _ => ?_
    refine G.fold (p := sep [strR (.slice ea Λ.ents.length ec) Λ.ents, intR (.slice za Λ.zxs.length zc) Λ.zxs]) (q := [strR (.slice ea Λ.ents.length ec) Λ.ents, intR (.slice za Λ.zxs.length zc) Λ.zxs]) (by (repeat' constructor)) (fun _ hp => hp) ?_
    refine G.draw [16] [[0, 1, 2, 3, 4, 5, 6, 7, 8, 9, 10, 11, 12, 13, 14, 15, 16], [17]] mixed (by kernel_rfl) ?_
    refine Phases.go [] (by (repeat' constructor)) ?_
    refine D.qw [16] rfl (by kernel_rfl) (Quiet.move rfl) ?_
    refine D.qw [15, 16] rfl (by kernel_rfl) (Quiet.move rfl) ?_
    refine D.qw [15, 16] rfl (by kernel_rfl) (Quiet.move rfl) ?_
    refine D.qw [4, 5, 6, 8, 15, 16] rfl (by kernel_rfl) (Quiet.move rfl) ?_
    refine D.qw [5, 6, 8, 15, 16] rfl (by kernel_rfl) (Quiet.nilp rfl) ?_
    refine D.qw [6, 8, 15, 16] rfl (by kernel_rfl) (Quiet.fieldAddr rfl fo_79_4) ?_
    refine D.qw [8, 15, 16] rfl (by kernel_rfl) (Quiet.load rfl ag_46 (by (repeat' constructor)) (rfl)) ?_
    refine D.qw [8, 15, 16] rfl (by kernel_rfl) (Quiet.move rfl) ?_
    refine D.qw [15, 16] rfl (by kernel_rfl) (Quiet.to (v' := (.slice (cutS ea ec n) (Λ.ents.length - n) (ec - n))) (Quiet.slFromS (i := (n : Int)) rfl el_46 rfl (by omega)) (by rw [Int.toNat_natCast])) ?_
    refine D.qw [10, 11, 12, 14, 15, 16] rfl (by kernel_rfl) (Quiet.move rfl) ?_
    refine D.qw [11, 12, 14, 15, 16] rfl (by kernel_rfl) (Quiet.nilp rfl) ?_
    refine D.qw [12, 14, 15, 16] rfl (by kernel_rfl) (Quiet.fieldAddr rfl fo_79_5) ?_
    refine D.qw [14, 15, 16] rfl (by kernel_rfl) (Quiet.load rfl ag_31 (by (repeat' constructor)) (rfl)) ?_
    refine D.qw [14, 15, 16] rfl (by kernel_rfl) (Quiet.move rfl) ?_
    refine D.qw [15, 16] rfl (by kernel_rfl) (Quiet.to (v' := (.slice (cutS za zc n) (Λ.zxs.length - n) (zc - n))) (Quiet.slFromS (i := (n : Int)) rfl el_31 rfl (by omega)) (by rw [Int.toNat_natCast])) ?_
    refine D.qw [16] rfl (by kernel_rfl) (Quiet.buildN (pl := [(0, 2), (2, 1), (3, 1), (4, 1), (5, 1), (6, 1), (7, 1)]) (us := [(2, _), (3, _), (4, _), (5, _)]) (cells := [vint 0, vint 0, .pointer none, vint z, vstr snap, (.slice (cutS ea ec n) (Λ.ents.length - n) (ec - n)), (.slice (cutS za zc n) (Λ.zxs.length - n) (zc - n)), .bool false]) Tryz.underlying79 (by kernel_rfl) ze_79 rfl rfl) ?_
    refine D.h rfl (by kernel_rfl) (OpSpec.call Tryz.func139 rfl rfl (vs := [_, _]) rfl (lrenew_spec g x d δ ω Λ z snap (.slice (cutS ea ec n) (Λ.ents.length - n) (ec - n)) (.slice (cutS za zc n) (Λ.zxs.length - n) (zc - n)) (Λ.ents.drop n) (Λ.zxs.drop n) ea ec za zc (sep [strR (.slice ea Λ.ents.length ec) Λ.ents, intR (.slice za Λ.zxs.length zc) Λ.zxs]) hI ?hb34 ?hsn35 ?hre36 ?hrz37 ?hel38 ?hzl39)) (by (repeat' constructor)) ?nx40
    case hb34 => exact hz
    case hsn35 => omega
    case hre36 => intro h hp; obtain ⟨g1, g2, -, le1, le2, q1, q2⟩ := hp; rw [List.length_drop, show strs (Λ.ents.drop n) = (strs Λ.ents).drop n from List.map_drop]; exact rdS_mono (slR_from (by omega) q1) le1
    case hrz37 => intro h hp; obtain ⟨g1, g2, -, le1, le2, q1, q2⟩ := hp; rw [List.length_drop, show ints (Λ.zxs.drop n) = (ints Λ.zxs).drop n from List.map_drop]; exact rdS_mono (sep_hd q2 (fun _ q => slR_from (by omega) q)) le2
    case hel38 => rw [List.length_drop]; omega
    case hzl39 => rw [List.length_drop, List.length_drop]; omega
    rintro v L' ⟨rfl, ⟨hf0, rfl⟩ | ⟨hf1, rfl⟩⟩
    ·refine D.ph ?_
     refine Phases.go [] (by (repeat' constructor)) ?_
     refine D.qw [] rfl (by kernel_rfl) (Quiet.assign rfl) ?_
     refine D.ph (Phases.fin (G.then_n (G.ret ?_)))
     have hr : lgCompact ⟨δ, ω, Λ⟩ z snap = lgRenew ⟨δ, ω, Λ⟩ z snap (Λ.ents.drop n) (Λ.zxs.drop n) := by unfold lgCompact; dsimp only; rw [if_neg (by rw [h9]; decide), if_neg (by omega), hpl]
     rw [hr]
     exact G.done (l := [.tmp 6]) rfl rfl ⟨rfl, rfl⟩ (by (repeat' constructor)) (by (repeat' constructor))
    ·refine D.ph ?_
     refine Phases.go [] (by (repeat' constructor)) ?_
     refine D.qw [] rfl (by kernel_rfl) (Quiet.assign rfl) ?_
     refine D.ph (Phases.fin (G.then_n (G.ret ?_)))
     have hr : lgCompact ⟨δ, ω, Λ⟩ z snap = lgRenew ⟨δ, ω, Λ⟩ z snap (Λ.ents.drop n) (Λ.zxs.drop n) := by unfold lgCompact; dsimp only; rw [if_neg (by rw [h9]; decide), if_neg (by omega), hpl]
     rw [hr]
     refine G.focus (p := sep [strR (.slice ea Λ.ents.length ec) Λ.ents, intR (.slice za Λ.zxs.length zc) Λ.zxs]) (by (repeat' constructor)) (G.unfold (q := [strR (.slice ea Λ.ents.length ec) Λ.ents, intR (.slice za Λ.zxs.length zc) Λ.zxs]) (fun _ hp => hp) ?_)
     simp only [List.cons_append, List.nil_append]
     obtain ⟨e9, he9⟩ := renew_bad hf1
     rw [he9]
     dsimp only
     refine G.lgFold (g := g) (x := x) (ea := ea) (ec := ec) (za := za) (zc := zc) (m := Λ.ents.length) (k := Λ.zxs.length) (Λ.met e9) (by (repeat' constructor)) (by rw [met_acc, met_cur, met_base, met_snap]) (by rw [met_ents]) (by rw [met_zxs]) (by rw [met_ents]) (by rw [met_zxs]) ?_
     exact G.done (l := [.tmp 6]) rfl rfl ⟨rfl, rfl⟩ (by (repeat' constructor)) (by (repeat' constructor))

set_option maxRecDepth 100000 in
theorem lkeepN_spec (b : Nat) (base : Int) (snap : Bs) (es : List Bs) (zs : List Int) (s : Bs) (z : Int) (hl : es.length ≤ 4294967296) (hm : zs.length ≤ 4294967296) : Fn Tryz.prog 51 #[vptr b, vstr s, vint z] [lgNR b base snap es zs] fun v L => v = .tuple #[] ∧ L = [lgNR b base snap (es ++ [s]) (zs ++ [z])] := by
 refine Fn.intro (vs := [vptr b, vstr s, vint z]) Tryz.func51 rfl rfl ?_
 intro F W
 refine G.lgNOpen (by (repeat' constructor)) fun ea ec za zc => ?_
 refine G.seq (G.region (G.q (Quiet.move rfl) rfl (G.q (Quiet.move rfl) rfl (G.q (Quiet.nilp rfl) rfl (G.q (Quiet.fieldAddr rfl fo_79_4) rfl ?_)))))
 refine G.q (Quiet.load rfl ag_46 (by (repeat' constructor)) (rfl)) rfl ?_
 refine G.q (Quiet.move rfl) rfl ?_
 refine G.op (OpSpec.buildSlice1 (vs := [_]) el_46 ze_9 rfl rfl rfl rfl rfl (by decide)) (by (repeat' constructor)) rfl ?nx7
 rintro v L' ⟨b0, rfl, rfl⟩
 refine G.op (OpSpec.append1 rfl rfl rfl el_46 ze_9 rfl rfl ?c9 ?c10 (Nat.le_refl _) ?c11 (by decide)) (by (repeat' constructor)) rfl ?nx12
 case c9 => (first | (simp [isCell]; done) | (simp [isCell, setAll, Value.cells]; done))
 case c10 => rfl
 case c11 => omega
 rintro v L' ⟨⟨a0, c0, rfl⟩, rfl⟩
 refine G.q (Quiet.nilp rfl) rfl (G.q (Quiet.fieldAddr rfl fo_79_4) rfl ?_)
 refine G.op (OpSpec.store rfl rfl rfl sz_46 ?c16 ?c17) (by (repeat' constructor)) rfl ?nx18
 case c16 => first | decide | (simp; omega) | simp
 case c17 => exact nfz0 _ _
 rintro v L' rfl
 refine G.nil (G.then_n (G.region (G.q (Quiet.move rfl) rfl (G.q (Quiet.move rfl) rfl (G.q (Quiet.nilp rfl) rfl (G.q (Quiet.fieldAddr rfl fo_79_5) rfl ?_))))))
 refine G.q (Quiet.load rfl ag_31 (by (repeat' constructor)) (rfl)) rfl ?_
 refine G.q (Quiet.move rfl) rfl ?_
 refine G.op (OpSpec.buildSlice1 (vs := [_]) el_31 ze_3 rfl rfl rfl rfl rfl (by decide)) (by (repeat' constructor)) rfl ?nx25
 rintro v L' ⟨b1, rfl, rfl⟩
 refine G.op (OpSpec.append1 rfl rfl rfl el_31 ze_3 rfl rfl ?c27 ?c28 (Nat.le_refl _) ?c29 (by decide)) (by (repeat' constructor)) rfl ?nx30
 case c27 => (first | (simp [isCell]; done) | (simp [isCell, setAll, Value.cells]; done))
 case c28 => rfl
 case c29 => omega
 rintro v L' ⟨⟨a1, c1, rfl⟩, rfl⟩
 refine G.q (Quiet.nilp rfl) rfl (G.q (Quiet.fieldAddr rfl fo_79_5) rfl ?_)
 refine G.op (OpSpec.store rfl rfl rfl sz_31 ?c34 ?c35) (by (repeat' constructor)) rfl ?nx36
 case c34 => first | decide | (simp; omega) | simp
 case c35 => exact nfz0 _ _
 rintro v L' rfl
 refine G.nil (G.done_n ?_)
 refine G.lgNFold (b := b) base snap (es ++ [s]) (zs ++ [z]) (by (repeat' constructor)) rfl (by simp) (by simp) (by simp [strs, Value.cells]) (by simp [ints, Value.cells]) ?_
 exact G.done (l := []) rfl rfl ⟨rfl, rfl⟩ (by (repeat' constructor)) (by (repeat' constructor))

theorem ints_at' {zs : List Int} {i : Nat} (h : i < zs.length) : (ints zs)[i * 1]? = some (vint (zs.getD i 0)) := by
  rw [Nat.mul_one]; simp [ints, List.getD_eq_getElem?_getD, h]
theorem all_fits_bad {l : List En} {j : Nat} (h : j < l.length) (hf : fitsE l[j] = false) : l.all fitsE = false := by
  rw [List.all_eq_false]; exact ⟨l[j], List.getElem_mem h, by rw [hf]; decide⟩
theorem all_fits {l : List En} (h : ∀ j (hj : j < l.length), fitsE l[j] = true) : l.all fitsE = true := by
  rw [List.all_eq_true]; intro e he
  obtain ⟨j, hj, rfl⟩ := List.mem_iff_getElem.1 he
  exact h j hj
theorem take_map {β : Type} {f : En → β} {l : List En} {j : Nat} (h : j < l.length) : (l.take j).map f ++ [f l[j]] = (l.take (j + 1)).map f := by
  rw [List.take_succ_eq_append_getElem h, List.map_append]; rfl
set_option maxRecDepth 100000 in
theorem linstall_spec (g x d : Nat) (δ : Dk) (ω : Wl) (Λ : Lg) (z : Int) (snap : Bs) (va : Value) (l : List En) (p : HP) (hI : WlI δ ω) (hz : I64 z) (hcells : ∀ h : Hp, p h → rdS 11 h va l.length (l.flatMap enC)) (hll : l.length ≤ 1073741824) (hx : ∀ e ∈ l, EnX p e) : Fn Tryz.prog 78 #[vptr g, vint z, vstr snap, va] [lgR g x Λ, wlR x d ω, dkR d δ, p] fun v L => v = vint (lgInstall ⟨δ, ω, Λ⟩ z snap l).2 ∧ L = [lgR g x (lgInstall ⟨δ, ω, Λ⟩ z snap l).1.Λ, wlR x d (lgInstall ⟨δ, ω, Λ⟩ z snap l).1.ω, dkR d (lgInstall ⟨δ, ω, Λ⟩ z snap l).1.δ, p] := by
 refine Fn.intro (vs := [vptr g, vint z, vstr snap, va]) Tryz.func78 rfl rfl ?_
 intro F W
 refine G.lgOpen (by (repeat' constructor)) fun ea ec za zc => ?_
 refine G.rdAny (p := p) hcells (by (repeat' constructor)) fun a0 c0 e _ => ?_
 subst e
 refine G.seq (G.region (G.q (Quiet.assign rfl) rfl (G.nil (G.then_n (G.seq (G.block (G.seq (G.region (G.q (Quiet.move rfl) rfl (G.q (Quiet.nilp rfl) rfl (G.q (Quiet.fieldAddr rfl fo_79_6) rfl ?_)))))))))))
 refine G.q (Quiet.load rfl ag_4 (by (repeat' constructor)) (rfl)) rfl ?_
 refine G.q (Quiet.assign rfl) rfl (G.nil (G.then_n ?_))
 refine G.condB rfl (fun h16 => ?_) (fun h16 => ?_)
 ·refine G.seq (G.region (G.q (Quiet.assign rfl) rfl (G.nil (G.then_n (G.ret (G.blk_r (G.then_r ?_)))))))
  have hr : lgInstall ⟨δ, ω, Λ⟩ z snap l = (⟨δ, ω, Λ⟩, 2) := by unfold lgInstall; dsimp only; rw [if_pos h16]
  rw [hr]
  try dsimp only
  refine G.lgFold (g := g) (x := x) Λ (by (repeat' constructor)) (by exact rfl) (by first | rfl | simp [Lg.keep]) (by first | rfl | simp [Lg.keep]) (by first | rfl | simp [Lg.keep]) (by first | rfl | simp [Lg.keep]) ?_
  exact G.done (l := [.tmp 8]) rfl rfl ⟨rfl, rfl⟩ (by (repeat' constructor)) (by (repeat' constructor))
 ·refine G.seq (G.region (G.q (Quiet.move rfl) rfl (G.q (Quiet.int rfl rfl rfl) rfl (G.q (Quiet.move rfl) rfl ?_))))
  refine G.dec (t := 24) rfl (fun h3_24 => ?_) (fun h3_24 => ?_)
  ·refine G.kDT (t := 23) rfl h3_24 (G.gskip (t := 24) rfl rfl rfl rfl (G.gskip (t := 24) rfl rfl rfl rfl (G.gskip (t := 24) rfl rfl rfl rfl (G.q (Quiet.pickT rfl rfl) rfl (G.q (Quiet.assign rfl) rfl (G.nil (G.then_n (G.condT rfl (G.seq (G.region (G.q (Quiet.assign rfl) rfl (G.nil (G.then_n (G.ret (G.blk_r (G.then_r ?_))))))))))))))))
   have hr : lgInstall ⟨δ, ω, Λ⟩ z snap l = (⟨δ, ω, Λ⟩, 1) := by unfold lgInstall; dsimp only; rw [if_neg (by rw [h16]; decide), if_pos (by first | exact .inl h3_24 | exact .inr (by omega))]
   rw [hr]
   try dsimp only
   refine G.lgFold (g := g) (x := x) (ea := ea) (ec := ec) (za := za) (zc := zc) (m := Λ.ents.length) (k := Λ.zxs.length) Λ (by (repeat' constructor)) (by exact rfl) (by first | rfl | simp [Lg.keep]) (by first | rfl | simp [Lg.keep]) (by first | rfl | simp [Lg.keep]) (by first | rfl | simp [Lg.keep]) ?_
   exact G.done (l := [.tmp 8]) rfl rfl ⟨rfl, rfl⟩ (by (repeat' constructor)) (by (repeat' constructor))
  ·refine G.kDF (t := 23) rfl h3_24 (G.grun (t := 24) rfl rfl rfl (G.q (Quiet.move rfl) rfl (G.grun (t := 24) rfl rfl rfl (G.q (Quiet.strlen rfl Tryz.underlying9 rfl) rfl (G.grun (t := 24) rfl rfl rfl (G.q (Quiet.int rfl rfl rfl) rfl (G.q (Quiet.pickF rfl rfl) rfl (G.q (Quiet.assign rfl) rfl (G.nil (G.then_n ?_))))))))))
   refine G.condD rfl (fun h21 => ?_) (fun h21 => ?_)
   ·refine G.seq (G.region (G.q (Quiet.assign rfl) rfl (G.nil (G.then_n (G.ret (G.blk_r (G.then_r ?_)))))))
    have hr : lgInstall ⟨δ, ω, Λ⟩ z snap l = (⟨δ, ω, Λ⟩, 1) := by unfold lgInstall; dsimp only; rw [if_neg (by rw [h16]; decide), if_pos (by first | exact .inl h3_24 | exact .inr (by omega))]
    rw [hr]
    try dsimp only
    refine G.lgFold (g := g) (x := x) (ea := ea) (ec := ec) (za := za) (zc := zc) (m := Λ.ents.length) (k := Λ.zxs.length) Λ (by (repeat' constructor)) (by exact rfl) (by first | rfl | simp [Lg.keep]) (by first | rfl | simp [Lg.keep]) (by first | rfl | simp [Lg.keep]) (by first | rfl | simp [Lg.keep]) ?_
    exact G.done (l := [.tmp 8]) rfl rfl ⟨rfl, rfl⟩ (by (repeat' constructor)) (by (repeat' constructor))
   ·refine G.skip (G.blk_n (G.then_n (G.seq (G.region (G.q (Quiet.move rfl) rfl (G.q (Quiet.move rfl) rfl ?_))))))
    refine G.q (Quiet.buildN (pl := [(0, 2), (2, 1), (3, 1), (4, 1), (5, 1), (6, 1), (7, 1)]) (us := [(2, _), (3, _)]) (cells := [vint 0, vint 0, .pointer none, vint z, vstr snap, .slice none 0 0, .slice none 0 0, .bool false]) Tryz.underlying79 (by kernel_rfl) ze_79 rfl rfl) rfl ?_
    refine G.op (OpSpec.allocA ze_79) (by (repeat' constructor)) rfl ?nx18
    rintro v L' ⟨b9, rfl, rfl⟩
    refine G.op (OpSpec.storeA rfl rfl ?c20 sz_79 ?c23 ?c21 ?c22) (by (repeat' constructor)) rfl ?nx24
    case c20 => simp [isCell]
    case c23 => rfl
    case c21 => simp
    case c22 => exact nfz0 _ _
    rintro v L' rfl
    refine G.nil ?_
    refine G.ptCast (b := b9) (l' := [vint 0, vint 0, .pointer none, vint z, vstr snap, .slice none 0 0, .slice none 0 0, .bool false]) (by (repeat' constructor)) rfl ?_
    refine G.add (slR_nil 9 1) (G.add (slR_nil 3 1) ?_)
    refine G.lgNFold (b := b9) (ea := none) (ec := 0) (za := none) (zc := 0) (m := 0) (k := 0) (xs := []) (ys := []) z snap ((l.take 0).map enB) ((l.take 0).map (·.zx)) (by (repeat' constructor)) rfl rfl rfl rfl rfl ?_
    refine G.then_n (G.seq (G.seq (G.region (G.q (Quiet.move rfl) rfl (G.q (Quiet.slen rfl Tryz.underlying22 rfl) rfl (G.q (Quiet.move rfl) rfl (G.nil (G.then_n (G.block ?_)))))))))
    refine G.loopK (ι := Nat) (fun q E => (34, vint q) :: E) (fun q => [lgNR b9 z snap ((l.take q).map enB) ((l.take q).map (·.zx))]) (fun q => q ≤ l.length ∧ ∀ i (hi : i < q) (hl : i < l.length), fitsE l[i] = true) (fun q => l.length - q) (0) (ts := [0, 1, 9, 32, 33]) (.cons rfl (.cons rfl (.cons rfl (.cons rfl (.cons rfl (.nil)))))) (⟨Nat.zero_le _, fun i hi => by omega⟩) ⟨rfl, rfl, rfl, rfl, rfl, rfl, trivial⟩ (by (repeat' constructor)) ?_
    rintro j ⟨hj, hft⟩
    refine G.seq (G.region (G.q (Quiet.int rfl rfl rfl) rfl (G.nil (G.then_n (G.seq ?_)))))
    refine G.condD rfl (fun h35 => ?_) (fun h35 => ?_)
    ·have hj2 : j < l.length := by omega
     refine G.rdShape (p := p) hcells (by (repeat' constructor)) (by omega) fun ba oa e => ?_
     subst e
     have hX := hx _ (List.getElem_mem hj2)
     refine G.skip (G.then_n (G.seq (G.block (G.seq (G.region ?_)))))
     refine G.q (Quiet.indexAddr rfl rfl el_22 (by omega)) rfl ?_
     refine G.q (Quiet.loadRdA (sz := 11) (j := j * 11) (k := 11) (p := p) (vs := enC l[j]) rfl ag_38 (by (repeat' constructor)) hcells (by simp) (by omega) (by omega) (flatMap_at (f := enC) (sz := 11) (fun _ _ => rfl) hj2)) rfl ?_
     refine G.op (OpSpec.allocA ze_38) (by (repeat' constructor)) rfl ?nx31
     rintro v L' ⟨b11, rfl, rfl⟩
     refine G.op (OpSpec.storeA rfl rfl ?c33 sz_38 ?c36 ?c34 ?c35) (by (repeat' constructor)) rfl ?nx37
     case c33 => exact hX.l.cells
     case c36 => rfl
     case c34 => simp [enC, ptC]
     case c35 => exact nfz0 _ _
     rintro v L' rfl
     refine G.nil ?_
     refine G.ptCast (b := b11) (l' := enC l[j]) (by (repeat' constructor)) (by exact rfl) ?_
     refine G.then_n (G.seq (G.region ?_))
     refine G.q (Quiet.loadAs (vs := enC l[j]) rfl ag_38 (by (repeat' constructor)) (by simp [enC, ptC]) rfl) rfl ?_
     refine G.op (OpSpec.call Tryz.func48 rfl rfl (vs := [_]) rfl (llaid_spec l[j] p hX)) (by (repeat' constructor)) rfl ?nx39
     rintro v L' ⟨s1, hs1, rfl, rfl⟩
     refine G.q (Quiet.move rfl) rfl (G.q (Quiet.extract rfl rfl) rfl (G.q (Quiet.extract rfl rfl) rfl (G.q (Quiet.assign rfl) rfl (G.q (Quiet.assign rfl) rfl (G.nil (G.then_n (G.seq (G.seq (G.region (G.q (Quiet.move rfl) rfl (G.q (Quiet.not rfl) rfl (G.nil (G.then_n ?_)))))))))))))
     refine G.condB rfl (fun h44 => ?_) (fun h44 => ?_)
     ·refine G.seq (G.region (G.q (Quiet.assign rfl) rfl (G.nil (G.then_n (G.ret (G.then_r (G.blk_r (G.then_r (G.then_r (G.blk_r (G.then_r ?_)))))))))))
      have hr : lgInstall ⟨δ, ω, Λ⟩ z snap l = (⟨δ, ω, Λ⟩, 1) := by unfold lgInstall; dsimp only; rw [if_neg (by rw [h16]; decide), if_neg (by rintro (g1 | g1); exact h3_24 g1; omega), if_pos (all_fits_bad hj2 (by simpa using h44))]
      rw [hr]
      try dsimp only
      refine G.lgFold (g := g) (x := x) (ea := ea) (ec := ec) (za := za) (zc := zc) (m := Λ.ents.length) (k := Λ.zxs.length) Λ (by (repeat' constructor)) (by exact rfl) (by first | rfl | simp [Lg.keep]) (by first | rfl | simp [Lg.keep]) (by first | rfl | simp [Lg.keep]) (by first | rfl | simp [Lg.keep]) ?_
      exact G.done (l := [.tmp 8]) rfl rfl ⟨rfl, rfl⟩ (by (repeat' constructor)) (by (repeat' constructor))
     ·have hfj : fitsE l[j] = true := by simpa using h44
      have hse := hs1 hfj
      subst hse
      refine G.skip (G.then_n (G.region (G.q (Quiet.move rfl) rfl (G.q (Quiet.fieldAddr rfl fo_38_0) rfl ?_))))
      refine G.q (Quiet.load rfl ag_3 (by (repeat' constructor)) (rfl)) rfl ?_
      refine G.op (OpSpec.call Tryz.func51 rfl rfl (vs := [_, _, _]) rfl (lkeepN_spec b9 z snap ((l.take j).map enB) ((l.take j).map (·.zx)) (enB l[j]) l[j].zx ?h147 ?h248)) (by (repeat' constructor)) rfl ?nx49
      case h147 => rw [List.length_map, List.length_take]; omega
      case h248 => rw [List.length_map, List.length_take]; omega
      rintro v L' ⟨rfl, rfl⟩; rw [take_map hj2, take_map hj2]
      refine G.nil (G.blk_n (G.then_n (G.region ?_)))
      refine G.q (Quiet.add rfl rfl (by omega)) rfl ?_
      refine G.q (Quiet.move rfl) rfl (G.nil (G.then_n ?_))
      exact G.roundK (j + 1) (⟨by omega, fun i hi hl2 => by rcases Nat.lt_or_ge i j with g1 | g1; exact hft i g1 hl2; obtain rfl : i = j := (by omega); exact hfj⟩) (by omega) ⟨rfl, rfl, rfl, rfl, rfl, rfl, trivial⟩ (by (repeat' constructor)) (by ((repeat (apply Have.cons; (repeat (first | exact Pick.here | apply Pick.there)))); apply Have.base; repeat' constructor))
    ·have hje : j = l.length := by omega
     subst hje
     rw [List.take_length]
     have hall := all_fits (fun i hi => hft i hi hi)
     refine G.lgNOpen (by (repeat' constructor)) fun na nc nz nd => ?_
     have hzl : (l.map (·.zx)).length = l.length := List.length_map _
     refine G.exit (G.then_e (G.then_e (G.blk_e (G.then_n (G.seq (G.seq (G.region (G.q (Quiet.fieldAddr rfl fo_79_5) rfl ?_))))))))
     refine G.q (Quiet.load rfl ag_31 (by (repeat' constructor)) (rfl)) rfl ?_
     refine G.q (Quiet.slen rfl Tryz.underlying31 rfl) rfl (G.q (Quiet.move rfl) rfl (G.nil (G.then_n (G.block ?_))))
     refine G.loopK (ι := Nat) (fun q E => (53, vint q) :: E) (fun q => []) (fun q => q ≤ (l.map (·.zx)).length ∧ ∀ k, k < q → z < ((l.map (·.zx))).getD k 0 ∧ (0 < k → ((l.map (·.zx))).getD (k - 1) 0 < ((l.map (·.zx))).getD k 0)) (fun q => (l.map (·.zx)).length - q) (0) (ts := [0, 1, 9, 51, 52]) (.cons rfl (.cons rfl (.cons rfl (.cons rfl (.cons rfl (.nil)))))) (⟨Nat.zero_le _, fun k hk => by omega⟩) ⟨rfl, rfl, rfl, rfl, rfl, rfl, trivial⟩ (by (repeat' constructor)) ?_
     rintro i ⟨hi, hgood⟩
     refine G.seq (G.region (G.q (Quiet.int rfl rfl rfl) rfl (G.nil (G.then_n (G.seq ?_)))))
     refine G.condD rfl (fun h54 => ?_) (fun h54 => ?_)
     ·refine G.slShape (v := .slice nz _ nd) (xs := ints (l.map (·.zx))) (by (repeat' constructor)) (by omega) fun bn cq e0 mq _ => ?_
      simp only [Value.slice.injEq, true_and] at e0
      obtain ⟨rfl, rfl⟩ := e0
      refine G.skip (G.then_n (G.seq (G.block (G.seq (G.region (G.q (Quiet.move rfl) rfl ?_))))))
      refine G.q (Quiet.indexAddr rfl rfl el_31 (by omega)) rfl ?_
      refine G.q (Quiet.loadEl (p := intR (.slice (some ⟨bn, 0, none⟩) (l.map (·.zx)).length nd) (l.map (·.zx))) (i := (i) * 1) (v := vint (((l.map (·.zx))).getD (i) 0)) rfl ag_3 (by (repeat' constructor)) (fun h hp => slR_rd hp) (ints_at' (by omega))) rfl ?_
      refine G.q (Quiet.assign rfl) rfl (G.q (Quiet.assign rfl) rfl (G.nil (G.then_n (G.seq (G.region (G.q (Quiet.move rfl) rfl (G.q (Quiet.move rfl) rfl (G.q (Quiet.int rfl rfl rfl) rfl (G.q (Quiet.move rfl) rfl ?_)))))))))
      refine G.dec (t := 61) rfl (fun h17_61 => ?_) (fun h17_61 => ?_)
      ·refine G.kDT (t := 60) rfl h17_61 (G.gskip (t := 61) rfl rfl rfl rfl (G.gskip (t := 61) rfl rfl rfl rfl (G.gskip (t := 61) rfl rfl rfl rfl (G.gskipU (t := 64) rfl rfl rfl (G.gskipU (t := 64) rfl rfl rfl (G.gskipU (t := 64) rfl rfl rfl (G.gskipU (t := 64) rfl rfl rfl (G.gskipU (t := 64) rfl rfl rfl (G.gskipU (t := 64) rfl rfl rfl (G.gskipU (t := 64) rfl rfl rfl (G.gskipU (t := 64) rfl rfl rfl (G.gskip (t := 61) rfl rfl rfl rfl (G.q (Quiet.pickT rfl rfl) rfl (G.nil (G.then_n (G.condT rfl (G.seq (G.region (G.q (Quiet.assign rfl) rfl (G.nil (G.then_n (G.ret (G.blk_r (G.then_r (G.then_r (G.blk_r (G.then_r ?_)))))))))))))))))))))))))))
       have hr : lgInstall ⟨δ, ω, Λ⟩ z snap l = (⟨δ, ω, Λ⟩, 81) := by unfold lgInstall; dsimp only; rw [if_neg (by rw [h16]; decide), if_neg (by rintro (g1 | g1); exact h3_24 g1; omega), if_neg (by rw [hall]; decide), if_pos (fun hR => by have hRi := hR i (by omega); exact absurd hRi.1 (by omega))]
       rw [hr]
       try dsimp only
       refine G.lgFold (g := g) (x := x) (ea := ea) (ec := ec) (za := za) (zc := zc) (m := Λ.ents.length) (k := Λ.zxs.length) Λ (by (repeat' constructor)) (by exact rfl) (by first | rfl | simp [Lg.keep]) (by first | rfl | simp [Lg.keep]) (by first | rfl | simp [Lg.keep]) (by first | rfl | simp [Lg.keep]) ?_
       exact G.done (l := [.tmp 8]) rfl rfl ⟨rfl, rfl⟩ (by (repeat' constructor)) (by (repeat' constructor))
      ·refine G.kDF (t := 60) rfl h17_61 (G.grun (t := 61) rfl rfl rfl (G.q (Quiet.move rfl) rfl (G.grun (t := 61) rfl rfl rfl (G.q (Quiet.int rfl rfl rfl) rfl (G.grun (t := 61) rfl rfl rfl (G.q (Quiet.move rfl) rfl ?_))))))
       refine G.dec (t := 64) rfl (fun h17_64 => ?_) (fun h17_64 => ?_)
       ·refine G.kDT (t := 63) rfl h17_64 (G.grun (t := 64) rfl rfl rfl (G.q (Quiet.move rfl) rfl (G.grun (t := 64) rfl rfl rfl (G.q (Quiet.fieldAddr rfl fo_79_5) rfl (G.grun (t := 64) rfl rfl rfl ?_)))))
        refine G.q (Quiet.load rfl ag_31 (by (repeat' constructor)) (rfl)) rfl ?_
        refine G.grun (t := 64) rfl rfl rfl (G.q (Quiet.move rfl) rfl (G.grun (t := 64) rfl rfl rfl ?_))
        refine G.q (Quiet.as (v' := vint ((i - 1 : Nat) : Int)) (by congr 1; omega) (Quiet.sub rfl rfl (by omega))) rfl ?_
        refine G.grun (t := 64) rfl rfl rfl ?_
        refine G.q (Quiet.indexAddr rfl rfl el_31 (by omega)) rfl ?_
        refine G.grun (t := 64) rfl rfl rfl ?_
        refine G.q (Quiet.loadEl (p := intR (.slice (some ⟨bn, 0, none⟩) (l.map (·.zx)).length nd) (l.map (·.zx))) (i := (i - 1) * 1) (v := vint (((l.map (·.zx))).getD (i - 1) 0)) rfl ag_3 (by (repeat' constructor)) (fun h hp => slR_rd hp) (ints_at' (by omega))) rfl ?_
        refine G.grun (t := 64) rfl rfl rfl (G.q (Quiet.int rfl rfl rfl) rfl (G.grun (t := 61) rfl rfl rfl (G.q (Quiet.pickT rfl rfl) rfl (G.q (Quiet.pickF rfl rfl) rfl (G.nil (G.then_n ?_))))))
        refine G.condD rfl (fun h74 => ?_) (fun h74 => ?_)
        ·refine G.seq (G.region (G.q (Quiet.assign rfl) rfl (G.nil (G.then_n (G.ret (G.blk_r (G.then_r (G.then_r (G.blk_r (G.then_r ?_))))))))))
         have hr : lgInstall ⟨δ, ω, Λ⟩ z snap l = (⟨δ, ω, Λ⟩, 81) := by unfold lgInstall; dsimp only; rw [if_neg (by rw [h16]; decide), if_neg (by rintro (g1 | g1); exact h3_24 g1; omega), if_neg (by rw [hall]; decide), if_pos (fun hR => by have hRi := hR i (by omega); have := hRi.2 (by omega); omega)]
         rw [hr]
         try dsimp only
         refine G.lgFold (g := g) (x := x) (ea := ea) (ec := ec) (za := za) (zc := zc) (m := Λ.ents.length) (k := Λ.zxs.length) Λ (by (repeat' constructor)) (by exact rfl) (by first | rfl | simp [Lg.keep]) (by first | rfl | simp [Lg.keep]) (by first | rfl | simp [Lg.keep]) (by first | rfl | simp [Lg.keep]) ?_
         exact G.done (l := [.tmp 8]) rfl rfl ⟨rfl, rfl⟩ (by (repeat' constructor)) (by (repeat' constructor))
        ·refine G.skip (G.blk_n (G.then_n (G.region ?_)))
         refine G.q (Quiet.add rfl rfl (by omega)) rfl ?_
         refine G.q (Quiet.move rfl) rfl (G.nil (G.then_n ?_))
         exact G.roundK (i + 1) (⟨by omega, fun k hk => by rcases Nat.lt_or_ge k i with g1 | g1; exact hgood k g1; obtain rfl : k = i := (by omega); exact ⟨by omega, fun h0k => by first | omega | exact absurd h0k (by omega)⟩⟩) (by omega) ⟨rfl, rfl, rfl, rfl, rfl, rfl, trivial⟩ (by (repeat' constructor)) (by ((repeat (apply Have.cons; (repeat (first | exact Pick.here | apply Pick.there)))); apply Have.base; repeat' constructor))
       ·refine G.kDF (t := 63) rfl h17_64 (G.gskip (t := 64) rfl rfl rfl rfl (G.gskip (t := 64) rfl rfl rfl rfl (G.gskip (t := 64) rfl rfl rfl rfl (G.gskip (t := 64) rfl rfl rfl rfl (G.gskip (t := 64) rfl rfl rfl rfl (G.gskip (t := 64) rfl rfl rfl rfl (G.gskip (t := 64) rfl rfl rfl rfl (G.gskip (t := 64) rfl rfl rfl rfl (G.grun (t := 61) rfl rfl rfl (G.q (Quiet.pickF rfl rfl) rfl (G.q (Quiet.pickF rfl rfl) rfl (G.nil (G.then_n (G.condF rfl (G.skip (G.blk_n (G.then_n (G.region ?_))))))))))))))))))
        refine G.q (Quiet.add rfl rfl (by omega)) rfl ?_
        refine G.q (Quiet.move rfl) rfl (G.nil (G.then_n ?_))
        exact G.roundK (i + 1) (⟨by omega, fun k hk => by rcases Nat.lt_or_ge k i with g1 | g1; exact hgood k g1; obtain rfl : k = i := (by omega); exact ⟨by omega, fun h0k => by first | omega | exact absurd h0k (by omega)⟩⟩) (by omega) ⟨rfl, rfl, rfl, rfl, rfl, rfl, trivial⟩ (by (repeat' constructor)) (by ((repeat (apply Have.cons; (repeat (first | exact Pick.here | apply Pick.there)))); apply Have.base; repeat' constructor))
     ·have hR : Rises z (l.map (·.zx)) := fun k hk => hgood k (by omega)
      refine G.fold (p := sep [strR (.slice na (l.map enB).length nc) (l.map enB), intR (.slice nz (l.map (·.zx)).length nd) (l.map (·.zx))]) (q := [strR (.slice na (l.map enB).length nc) (l.map enB), intR (.slice nz (l.map (·.zx)).length nd) (l.map (·.zx))]) (by (repeat' constructor)) (fun _ hp => hp) ?_
      refine G.exit (G.then_e (G.then_e (G.blk_e (G.then_n (G.seq (G.region (G.q (Quiet.move rfl) rfl ?_)))))))
      refine G.q (Quiet.loadAs (vs := [vint 0, vint 0, .pointer none, vint z, vstr snap, .slice na (l.map enB).length nc, .slice nz (l.map (·.zx)).length nd, .bool false]) rfl ag_79 (by (repeat' constructor)) (by simp) rfl) rfl ?_
      have hsp := lrenew_spec g x d δ ω Λ z snap (.slice na (l.map enB).length nc) (.slice nz (l.map (·.zx)).length nd) (l.map enB) (l.map (·.zx)) ea ec za zc (sep [strR (.slice na (l.map enB).length nc) (l.map enB), intR (.slice nz (l.map (·.zx)).length nd) (l.map (·.zx))]) hI hz (by omega) (fun h hp => (by obtain ⟨g1, g2, -, le1, le2, q1, q2⟩ := hp; exact rdS_mono (slR_rd q1) le1)) (fun h hp => (by obtain ⟨g1, g2, -, le1, le2, q1, q2⟩ := hp; exact rdS_mono (sep_hd q2 (fun _ q => slR_rd q)) le2)) (by rw [List.length_map]; omega) (by rw [List.length_map, List.length_map])
      refine G.op (OpSpec.call Tryz.func139 rfl rfl (vs := [_, _]) rfl (hsp)) (by (repeat' constructor)) rfl ?nx77
      rintro v L' ⟨rfl, ⟨hf0, rfl⟩ | ⟨hf1, rfl⟩⟩
      ·refine G.q (Quiet.assign rfl) rfl (G.nil (G.then_n (G.ret ?_)))
       have hr : lgInstall ⟨δ, ω, Λ⟩ z snap l = lgRenew ⟨δ, ω, Λ⟩ z snap (l.map enB) (l.map (·.zx)) := by unfold lgInstall; dsimp only; rw [if_neg (by rw [h16]; decide), if_neg (by rintro (g1 | g1); exact h3_24 g1; omega), if_neg (by rw [hall]; decide), if_neg (fun g => g hR)]
       rw [hr]
       exact G.done (l := [.tmp 8]) rfl rfl ⟨rfl, rfl⟩ (by (repeat' constructor)) (by (repeat' constructor))
      ·refine G.q (Quiet.assign rfl) rfl (G.nil (G.then_n (G.ret ?_)))
       have hr : lgInstall ⟨δ, ω, Λ⟩ z snap l = lgRenew ⟨δ, ω, Λ⟩ z snap (l.map enB) (l.map (·.zx)) := by unfold lgInstall; dsimp only; rw [if_neg (by rw [h16]; decide), if_neg (by rintro (g1 | g1); exact h3_24 g1; omega), if_neg (by rw [hall]; decide), if_neg (fun g => g hR)]
       rw [hr]
       obtain ⟨e9, he9⟩ := renew_bad hf1
       rw [he9]
       dsimp only
       refine G.lgFold (g := g) (x := x) (ea := ea) (ec := ec) (za := za) (zc := zc) (m := Λ.ents.length) (k := Λ.zxs.length) (Λ.met e9) (by (repeat' constructor)) (by rw [met_acc, met_cur, met_base, met_snap]) (by rw [met_ents]) (by rw [met_zxs]) (by rw [met_ents]) (by rw [met_zxs]) ?_
       exact G.done (l := [.tmp 8]) rfl rfl ⟨rfl, rfl⟩ (by (repeat' constructor)) (by (repeat' constructor))

end Go.Proofs.YtidjhgbdokcphaaGreat

/- Own work: scripts of law 09: plain. -/

namespace Go.Proofs.YtidjhgbdokcphaaGreat
open Go

structure Op9 where
  k : Int
  n : Int
  size : Int
  e : En
  lv : Value
  l : List En
  text : Bs
  hv : Value
  how : List Int
def op9K (o : Op9) (k : Int) : List Value := [vint k, vint o.n, vint o.size] ++ enC o.e ++ [o.lv, vstr o.text, o.hv]
def op9C (o : Op9) : List Value := op9K o o.k
structure Op9A (p : HP) (o : Op9) : Prop where
  k : I64 o.k
  n : I64 o.n
  size : I64 o.size
  e : EnX p o.e
  l : ∀ h : Hp, p h → rdS 11 h o.lv o.l.length (o.l.flatMap enC)
  len : o.l.length ≤ 1048576
  x : ∀ e ∈ o.l, EnX p e
  text : o.text.length ≤ 1048576
  how : ∀ h : Hp, p h → rdS 1 h o.hv o.how.length (ints o.how)
  hows : ∀ z ∈ o.how, I64 z
  lc : isCell o.lv = true
  hc : isCell o.hv = true
structure Ops9 (p : HP) (v : Value) (xs : List Op9) : Prop where
  cells : ∀ h : Hp, p h → rdS 17 h v xs.length (xs.flatMap op9C)
  len : xs.length ≤ 1048576
  each : ∀ o ∈ xs, Op9A p o
theorem op9K_cells {p : HP} {o : Op9} (h : Op9A p o) (k : Int) : ∀ v ∈ op9K o k, isCell v = true := by
  intro v hv
  unfold op9K at hv
  rcases List.mem_append.1 hv with hv | hv
  · rcases List.mem_append.1 hv with hv | hv
    · simp at hv; rcases hv with rfl | rfl | rfl <;> rfl
    · exact h.e.l.cells v hv
  · simp at hv
    rcases hv with rfl | rfl | rfl
    · exact h.lc
    · rfl
    · exact h.hc
def textF : Nat → Bs → Int → Bs
  | 0, s, _ => s
  | f + 1, s, n => if s ≠ [] ∧ (s.length : Int) < n then textF f (s ++ s) n else s
def cutT (s : Bs) (n : Int) : Bs := if (s.length : Int) > n ∧ n > 0 then s.take n.toNat else s
def textZ (o : Op9) : Bs := cutT (textF 66001 o.text (min o.size 66000)) (min o.size 66000)
theorem textF_stop {f : Nat} {s : Bs} {n : Int} (h : ¬ (s ≠ [] ∧ (s.length : Int) < n)) : textF f s n = s := by
  cases f with
  | zero => rfl
  | succ f => show (if _ then _ else _) = _; rw [if_neg h]
theorem textF_go {f : Nat} {s : Bs} {n : Int} (h : s ≠ [] ∧ (s.length : Int) < n) : textF (f + 1) s n = textF f (s ++ s) n := by
  show (if _ then _ else _) = _; rw [if_pos h]
def lgDoes (s : Ld) (o : Op9) (k : Int) : Ld × Int :=
  if k = 1 then lgAppend s o.e else if k = 2 then lgSync s else if k = 3 then lgAccept s o.n else if k = 4 then lgAdopt s o.n else if k = 5 then lgCut s o.n else if k = 6 then lgInstall s o.n (textZ o) o.l else lgCompact s o.n (textZ o)
theorem lr_cut {s : Ld} {N : Int} (h : LLv s N) (z : Int) : LRes s N (lgCut s z) (lgCut s.calm z) (fun L => ∃ n, placeZ s.Λ z = some n ∧ L = cutL s.Λ n) := by
  have hd : s.Λ.doubt = false := h.lw.live
  rcases hp : placeZ s.Λ z with _ | n
  · have e : ∀ t : Ld, t.Λ = s.Λ → lgCut t z = (t, 81) := fun t ht => by unfold lgCut; rw [ht, if_neg (by rw [hd]; decide), hp]
    rw [e s rfl, e s.calm rfl]
    exact LRes.same h (fun g => absurd g (by decide)) rfl
  · have e : ∀ t : Ld, t.Λ = s.Λ → lgCut t z = lgCut2 t n := fun t ht => by unfold lgCut; rw [ht, if_neg (by rw [hd]; decide), hp]
    rw [e s rfl, e s.calm rfl]
    have hl := h.lw.w.rows.len
    exact (lr_cut2 h (n := n) (by have := (place_le hp).1; rw [show s.Λ.ents.length = s.Λ.zxs.length from hl.symm]; exact this)).mono (fun L hL => ⟨n, rfl, hL⟩)
theorem lr_install {s : Ld} {N : Int} (h : LLv s N) {z : Int} (hz : z ≤ 9223372036854775807) (snap : Bs) {l : List En} (hi : ∀ e ∈ l, EnI e) : LRes s N (lgInstall s z snap l) (lgInstall s.calm z snap l) (fun L => L = newL s.Λ z snap (l.map enB) (l.map (·.zx))) := by
  have hd : s.Λ.doubt = false := h.lw.live
  by_cases h1 : z < 0 ∨ snap.length > 65536
  · have e : ∀ t : Ld, t.Λ = s.Λ → lgInstall t z snap l = (t, 1) := fun t ht => by unfold lgInstall; rw [ht, if_neg (by rw [hd]; decide), if_pos h1]
    rw [e s rfl, e s.calm rfl]; exact LRes.same h (fun g => absurd g (by decide)) rfl
  by_cases h2 : l.all fitsE = false
  · have e : ∀ t : Ld, t.Λ = s.Λ → lgInstall t z snap l = (t, 1) := fun t ht => by unfold lgInstall; rw [ht, if_neg (by rw [hd]; decide), if_neg h1, if_pos h2]
    rw [e s rfl, e s.calm rfl]; exact LRes.same h (fun g => absurd g (by decide)) rfl
  by_cases h3 : ¬ Rises z (l.map (·.zx))
  · have e : ∀ t : Ld, t.Λ = s.Λ → lgInstall t z snap l = (t, 81) := fun t ht => by unfold lgInstall; rw [ht, if_neg (by rw [hd]; decide), if_neg h1, if_neg h2, if_pos h3]
    rw [e s rfl, e s.calm rfl]; exact LRes.same h (fun g => absurd g (by decide)) rfl
  have e : ∀ t : Ld, t.Λ = s.Λ → lgInstall t z snap l = lgRenew t z snap (l.map enB) (l.map (·.zx)) := fun t ht => by unfold lgInstall; rw [ht, if_neg (by rw [hd]; decide), if_neg h1, if_neg h2, if_neg h3]
  rw [e s rfl, e s.calm rfl]
  exact (lr_renew h (by omega) (by omega) (rises_rows l z hi (by simpa using h2) (by simpa using h3))).mono (fun L hL => hL.1)
theorem place_ok {Λ : Lg} (h : LgW Λ) {z : Int} {n : Nat} (hn : placeZ Λ z = some n) : (0 ≤ z ∧ z ≤ 9223372036854775807) ∧ RowsI z (Λ.ents.drop n) (Λ.zxs.drop n) := by
  obtain ⟨p1, p2⟩ := place_le hn
  have hb := h.base
  have hd := h.rows.drop n p1
  rw [p2] at hd
  refine ⟨?_, hd⟩
  unfold placeZ at hn
  split at hn
  · rename_i hm
    have := h.rows.gt z hm
    have := (h.rows.i64 z hm).2
    omega
  · split at hn
    · rename_i g; rw [g]; exact hb
    · cases hn
theorem lr_compact {s : Ld} {N : Int} (h : LLv s N) (z : Int) (snap : Bs) : LRes s N (lgCompact s z snap) (lgCompact s.calm z snap) (fun L => ∃ n, placeZ s.Λ z = some n ∧ L = newL s.Λ z snap (s.Λ.ents.drop n) (s.Λ.zxs.drop n)) := by
  have hd : s.Λ.doubt = false := h.lw.live
  by_cases h1 : snap.length > 65536
  · have e : ∀ t : Ld, t.Λ = s.Λ → lgCompact t z snap = (t, 1) := fun t ht => by unfold lgCompact; rw [ht, if_neg (by rw [hd]; decide), if_pos h1]
    rw [e s rfl, e s.calm rfl]; exact LRes.same h (fun g => absurd g (by decide)) rfl
  rcases hp : placeZ s.Λ z with _ | n
  · have e : ∀ t : Ld, t.Λ = s.Λ → lgCompact t z snap = (t, 81) := fun t ht => by unfold lgCompact; rw [ht, if_neg (by rw [hd]; decide), if_neg h1, hp]
    rw [e s rfl, e s.calm rfl]
    exact LRes.same h (fun g => absurd g (by decide)) rfl
  · have e : ∀ t : Ld, t.Λ = s.Λ → lgCompact t z snap = lgRenew t z snap (s.Λ.ents.drop n) (s.Λ.zxs.drop n) := fun t ht => by unfold lgCompact; rw [ht, if_neg (by rw [hd]; decide), if_neg h1, hp]
    rw [e s rfl, e s.calm rfl]
    obtain ⟨hz, hr⟩ := place_ok h.lw.w hp
    exact (lr_renew h hz (by omega) hr).mono (fun L hL => ⟨n, rfl, hL.1⟩)
/-- No epoch falls. -/
def QE (Λ L : Lg) : Prop := Λ.acc ≤ L.acc ∧ Λ.cur ≤ L.cur
theorem lr_does {p : HP} {s : Ld} {N : Int} (h : LLv s N) {o : Op9} (ho : Op9A p o) (k : Int) : LRes s (N + 4000000) (lgDoes s o k) (lgDoes s.calm o k) (QE s.Λ) := by
  unfold lgDoes
  split
  · exact ((lr_append h ho.e.l.w.i).mono (fun L hL => hL.elim)).more (by omega)
  split
  · exact ((lr_sync h).mono (fun L hL => by rw [hL]; exact ⟨Int.le_refl _, Int.le_refl _⟩)).more (by omega)
  split
  · exact ((lr_accept h o.n).mono (fun L hL => by rw [hL.2]; exact ⟨by show s.Λ.acc ≤ o.n; omega, Int.le_refl _⟩)).more (by omega)
  split
  · exact (lr_adopt h o.n).mono (fun L hL => by
      rcases hL.2.2 with q | q <;> rw [q]
      · exact ⟨Int.le_refl _, Int.le_refl _⟩
      · exact ⟨Int.le_refl _, hL.1⟩)
  split
  · exact ((lr_cut h o.n).mono (fun L hL => by obtain ⟨n, -, q⟩ := hL; rw [q]; exact ⟨Int.le_refl _, Int.le_refl _⟩)).more (by omega)
  split
  · exact ((lr_install h ho.n.2 _ (fun e he => (ho.x e he).l.w.i)).mono (fun L hL => by rw [hL]; exact ⟨Int.le_refl _, Int.le_refl _⟩)).more (by omega)
  · exact ((lr_compact h o.n _).mono (fun L hL => by obtain ⟨n, -, q⟩ := hL; rw [q]; exact ⟨Int.le_refl _, Int.le_refl _⟩)).more (by omega)
theorem sync_I {δ : Dk} {ω : Wl} (h : WlI δ ω) (ha : δ.acts ≤ 1000000000000) : WlI (syncZ δ ω).1 (syncZ δ ω).2.1 := by
  unfold syncZ
  split
  · exact h
  split
  · exact h
  split
  · exact h
  rename_i h1 h2 h3
  have sk := sync_keeps δ
  have hc := h.count
  have hsl : ∀ m : Wl, m = ω ∨ m = { ω with recs := ω.recs, synced := ω.recs.length, area := ω.area, count := ω.count + 1 } → ∀ σ : Dk, σ.now.length = δ.now.length → σ.acts ≤ δ.acts + 10 → WlI σ m := by
    intro m hm σ hl hac
    rcases hm with rfl | rfl
    · exact ⟨by rw [hl]; exact h.size, by omega, h.area, h.count, h.synced, by rw [halfZ_of hl]; exact h.fits⟩
    · exact ⟨by rw [hl]; exact h.size, by omega, h.area, by dsimp only; omega, by dsimp only; omega, by rw [halfZ_of hl]; exact h.fits⟩
  have hseal : ∃ σ m e, sealZ δ ω ω.area ω.recs = (σ, m, e) ∧ σ.now.length = δ.now.length ∧ σ.acts ≤ δ.acts + 10 ∧ (m = ω ∨ m = { ω with recs := ω.recs, synced := ω.recs.length, area := ω.area, count := ω.count + 1 }) := by
    have nk := nextZ_keeps δ.sync.1 (ω.mark ω.area ω.recs ω.a ω.b)
    unfold sealZ
    split
    · exact ⟨_, _, _, rfl, by rw [sk.1], by omega, .inl rfl⟩
    have sl : δ.sync.1.now.length = δ.now.length := by rw [sk.1]
    split
    · exact ⟨_, _, _, rfl, by omega, by omega, .inl rfl⟩
    · exact ⟨_, _, _, rfl, by omega, by omega, .inr rfl⟩
  obtain ⟨σ, m, e, hq, q1, q2, q3⟩ := hseal
  have hw := hsl m q3 σ q1 q2
  rw [hq]
  unfold dbt
  split
  · exact ⟨hw.size, hw.acts, hw.area, hw.count, hw.synced, hw.fits⟩
  · exact hw
end Go.Proofs.YtidjhgbdokcphaaGreat

/- Own work, by program: LedgerMarks: walked. -/
namespace Go.Proofs.YtidjhgbdokcphaaGreat
open Go
set_option maxRecDepth 100000 in
theorem numbers9_spec (va vb : Value) (xs ys : List Int) (p q : HP) (hp : ∀ h : Hp, p h → rdS 1 h va xs.length (ints xs)) (hq : ∀ h : Hp, q h → rdS 1 h vb ys.length (ints ys)) (hl : xs.length ≤ 4294967296) (hm : ys.length ≤ 4294967296) : Fn Tryz.prog 14 #[va, vb] [p, q] fun v L => v = .bool (decide (xs = ys)) ∧ L = [p, q] := by
 refine Fn.intro (vs := [va, vb]) Tryz.func14 rfl rfl ?_
 intro F W
 refine G.rdAny (p := p) hp (by (repeat' constructor)) fun ap cp e _ => ?_
 subst e
 refine G.rdAny (p := q) hq (by (repeat' constructor)) fun aq cq e _ => ?_
 subst e
 refine G.seq (G.region (G.q (Quiet.assign rfl) rfl (G.nil (G.then_n (G.seq (G.seq (G.region (G.q (Quiet.move rfl) rfl (G.q (Quiet.slen rfl Tryz.underlying31 rfl) rfl (G.q (Quiet.move rfl) rfl (G.q (Quiet.slen rfl Tryz.underlying31 rfl) rfl (G.q (Quiet.int rfl rfl rfl) rfl (G.nil (G.then_n ?_))))))))))))))
 refine G.condN rfl (fun h10 => ?_) (fun h10 => ?_)
 ·refine G.seq (G.region (G.q (Quiet.assign rfl) rfl (G.nil (G.then_n (G.ret (G.then_r ?_))))))
  exact G.done (l := [.tmp 4]) rfl rfl ⟨congrArg Value.bool (decide_eq_false (fun h => h10 (by rw [h]))).symm, rfl⟩ (by (repeat' constructor)) (by (repeat' constructor))
 ·refine G.skip (G.then_n (G.seq (G.seq (G.region (G.q (Quiet.assign rfl) rfl (G.nil (G.then_n (G.block ?_))))))))
  refine G.loopK (ι := Nat) (fun q E => (5, vint q) :: E) (fun q => []) (fun q => q ≤ xs.length ∧ ∀ j, j < q → xs.getD j 0 = ys.getD j 0) (fun q => xs.length - q) (0) (ts := [0, 1]) (.cons rfl (.cons rfl (.nil))) (⟨Nat.zero_le _, fun j hj => by omega⟩) ⟨rfl, rfl, rfl, trivial⟩ (by (repeat' constructor)) ?_
  rintro i ⟨hi, hb⟩
  refine G.seq (G.seq (G.region (G.q (Quiet.move rfl) rfl (G.q (Quiet.move rfl) rfl (G.q (Quiet.slen rfl Tryz.underlying31 rfl) rfl (G.q (Quiet.int rfl rfl rfl) rfl (G.nil (G.then_n ?_))))))))
  refine G.condD rfl (fun h14 => ?_) (fun h14 => ?_)
  ·refine G.rdShape (p := p) hp (by (repeat' constructor)) (by omega) fun bp op e => ?_
   subst e
   refine G.rdShape (p := q) hq (by (repeat' constructor)) (by omega) fun bq oq e => ?_
   subst e
   refine G.skip (G.then_n (G.seq (G.block (G.seq ?_))))
   refine G.draw [] [[0, 1, 2, 3, 4, 5, 6, 7, 8]] mixed (by kernel_rfl) ?_
   refine Phases.go [] (by (repeat' constructor)) ?_
   refine D.qw [2, 3, 8] rfl (by kernel_rfl) (Quiet.move rfl) ?_
   refine D.qw [2, 3, 8] rfl (by kernel_rfl) (Quiet.move rfl) ?_
   refine D.qw [3, 8] rfl (by kernel_rfl) (Quiet.indexAddr rfl rfl el_31 (by omega)) ?_
   refine D.qw [8] rfl (by kernel_rfl) (Quiet.loadEl (p := p) (i := i * 1) (v := vint (xs.getD i 0)) rfl ag_3 (by (repeat' constructor)) hp (ints_at (by omega))) ?_
   refine D.qw [6, 7, 8] rfl (by kernel_rfl) (Quiet.move rfl) ?_
   refine D.qw [6, 7, 8] rfl (by kernel_rfl) (Quiet.move rfl) ?_
   refine D.qw [7, 8] rfl (by kernel_rfl) (Quiet.indexAddr rfl rfl el_31 (by omega)) ?_
   refine D.qw [8] rfl (by kernel_rfl) (Quiet.loadEl (p := q) (i := i * 1) (v := vint (ys.getD i 0)) rfl ag_3 (by (repeat' constructor)) hq (ints_at (by omega))) ?_
   refine D.qw [] rfl (by kernel_rfl) (Quiet.int rfl rfl rfl) ?_
   refine D.ph (Phases.fin (G.then_n ?_))
   refine G.condN rfl (fun h25 => ?_) (fun h25 => ?_)
   ·refine G.seq (G.region (G.q (Quiet.assign rfl) rfl (G.nil (G.then_n (G.ret (G.blk_r (G.then_r (G.then_r (G.blk_r (G.then_r ?_))))))))))
    exact G.done (l := [.tmp 4]) rfl rfl ⟨congrArg Value.bool (decide_eq_false (fun h => h25 (by rw [h]))).symm, rfl⟩ (by (repeat' constructor)) (by (repeat' constructor))
   ·refine G.skip (G.blk_n (G.then_n (G.region (G.q (Quiet.move rfl) rfl ?_))))
    refine G.q (Quiet.add rfl rfl (by omega)) rfl ?_
    refine G.q (Quiet.assign rfl) rfl (G.nil (G.then_n ?_))
    exact G.roundK (i + 1) (⟨by omega, fun j hj => by rcases Nat.lt_or_ge j i with h | h; exact hb j h; obtain rfl : j = i := (by omega); exact h25⟩) (by omega) ⟨rfl, rfl, rfl, trivial⟩ (by (repeat' constructor)) (by ((repeat (apply Have.cons; (repeat (first | exact Pick.here | apply Pick.there)))); apply Have.base; repeat' constructor))
  ·refine G.exit (G.then_e (G.then_e (G.blk_e (G.then_n (G.seq (G.region (G.q (Quiet.assign rfl) rfl (G.nil (G.then_n (G.ret ?_))))))))))
   exact G.done (l := [.tmp 4]) rfl rfl ⟨congrArg Value.bool (decide_eq_true (by apply List.ext_getElem (by omega); intro j h1 h2; have := hb j (by omega); simpa [List.getD_eq_getElem?_getD, h1, h2] using this)).symm, rfl⟩ (by (repeat' constructor)) (by (repeat' constructor))

end Go.Proofs.YtidjhgbdokcphaaGreat

/- Own work: a formatted ledger, and what opens behind a crash: plain. -/
namespace Go.Proofs.YtidjhgbdokcphaaGreat
open Go

theorem lgFormat_ok {δ : Dk} {ω : Wl} (h : (lgFormat δ).2 = some ω) : (lgF1 δ).2.2 = 0 ∧ (lgF2 δ).2.2 = 0 ∧ ω = (lgF2 δ).2.1 ∧ (lgFormat δ).1 = (lgF2 δ).1 := by
  unfold lgFormat at h ⊢
  split at h
  · cases h
  split at h
  · cases h
  split at h
  · cases h
  · rename_i h1 h2 h3
    cases h
    rw [if_neg h1, if_neg h2, if_neg h3]
    exact ⟨by simpa using h2, by simpa using h3, rfl, rfl⟩
theorem calm_of {δ : Dk} (h : Al δ) : δ.calm = δ := by
  obtain ⟨n, o, a, l, d⟩ := δ
  have : l = 0 := h.left
  subst this; rfl
theorem format_llv {n : Int} (h : 16 ≤ n ∧ n ≤ 32768) : ∃ ω, (lgFormat (Dk.new n)).2 = some ω ∧ LLv ⟨(lgFormat (Dk.new n)).1, ω, lg0⟩ 4000003 ∧ Well (formatZ (Dk.new n)).1 newW 3 ∧ Well (lgF1 (Dk.new n)).1 (lgF1 (Dk.new n)).2.1 2000003 := by
  obtain ⟨ω, f1, f2, -, f4, f5⟩ := format_lwell h
  obtain ⟨e1, e2, e3, e4⟩ := lgFormat_ok f1
  have v1 : Lv (lgF1 (Dk.new n)).1 (lgF1 (Dk.new n)).2.1 (3 + 2000000) := (append_res (lv_new h) (headB 0 0) (B := ([], 0, 0))).live (by show (lgF1 (Dk.new n)).2.2 ≠ 2; rw [e1]; decide)
  have v2 : Lv (lgF2 (Dk.new n)).1 (lgF2 (Dk.new n)).2.1 (3 + 2000000 + 2000000) := (sync_res v1 (k := 2)).live (by show (lgF2 (Dk.new n)).2.2 ≠ 2; rw [e2]; decide)
  refine ⟨ω, f1, ⟨by rw [e3]; dsimp only; rw [e4]; exact v2, ?_, ?_⟩, f4, f5⟩
  · show LWell ⟨(lgFormat (Dk.new n)).1.calm, ω, lg0⟩ 4000003
    rw [calm_of f2.well.al]; exact f2
  · show ((headL 0 []).length : Int) ≤ ω.synced
    have hs : (lgF2 (Dk.new n)).2.1.synced = (lgF2 (Dk.new n)).2.1.recs.length := by
      rcases (well_sync f5).2.2 with ⟨c, g⟩ | g
      · show (syncZ (lgF1 (Dk.new n)).1 (lgF1 (Dk.new n)).2.1).2.1.synced = (syncZ (lgF1 (Dk.new n)).1 (lgF1 (Dk.new n)).2.1).2.1.recs.length
        rw [g]
      · have : (lgF2 (Dk.new n)).2.2 = 30 := by show (syncZ _ _).2.2 = 30; rw [g]
        rw [e2] at this; cases this
    have hr : ω.recs = headL 0 [] ++ [] := f2.recs
    rw [e3, hs, ← e3, hr]; simp
theorem LLv.opened {σ : Dk} {ω : Wl} {Λ : Lg} {N : Int} (h : LLv ⟨σ, ω, Λ⟩ N) : ω.doubt = false ∧ ω.recs.length ≤ 1048576 ∧ ∀ s ∈ ω.recs, s.length ≤ 1073741824 := by
  have h1 := headL_len Λ.base Λ.snap h.lw.w.snap
  have h2 : Λ.ents.length ≤ 200 := h.lw.w.few
  have hr : ω.recs = headL Λ.base Λ.snap ++ Λ.ents := h.lw.recs
  refine ⟨h.lw.well.doubt, by rw [hr, List.length_append]; omega, fun s hs => ?_⟩
  have : s.length ≤ 4000 := h.lv.kp.long s hs
  omega
theorem op9_at {xs : List Op9} {i : Nat} (h : i < xs.length) : ((xs.flatMap op9C).drop (i * 17)).take 17 = op9C xs[i] := flatMap_at (f := op9C) (sz := 17) (fun _ _ => rfl) h
end Go.Proofs.YtidjhgbdokcphaaGreat

/- Own work: what a ledger tells, in memory: plain. -/
namespace Go.Proofs.YtidjhgbdokcphaaGreat
open Go

theorem txtR_le (st : Rs) : (txtR st).1.length ≤ 4096 := by
  unfold txtR runP
  split
  · exact Nat.zero_le _
  · split
    · rename_i x hx; exact (txt_form hx).2
    · exact Nat.zero_le _
theorem many_all {α : Type} {f : Rn α} {Q : α → Prop} (h : ∀ st, Q (f st).1) : ∀ (n : Nat) (st : Rs), ∀ x ∈ (manyR f n st).1, Q x
  | 0, _, x, hx => by cases hx
  | n + 1, st, x, hx => by
    rcases List.mem_append.1 (show x ∈ (manyR f n st).1 ++ [(f (manyR f n st).2).1] from hx) with hx | hx
    · exact many_all h n st x hx
    · rw [List.mem_singleton] at hx; subst hx; exact h _
theorem rows_all {α : Type} {f : Rn α} {Q : α → Prop} (h : ∀ st, Q (f st).1) (st : Rs) : (rowsR f st).1.length ≤ 256 ∧ ∀ x ∈ (rowsR f st).1, Q x := by
  refine ⟨?_, many_all h _ _⟩
  show (manyR f (cntR st).1 (cntR st).2).1.length ≤ 256
  rw [many_len]; exact cntR_le st
def AcG (a : Ac) : Prop := I64 a.1 ∧ a.2.length ≤ 4096
structure PtG (y : Pt) : Prop where
  kind : I64 y.kind
  own : I64 y.own
  num : I64 y.num
  err : I64 y.err
  path : y.path.length ≤ 4096
  data : y.data.length ≤ 4096
  many : y.acl.length ≤ 256
  acl : ∀ a ∈ y.acl, AcG a
structure EnG (e : En) : Prop where
  zx : I64 e.zx
  ses : I64 e.ses
  xid : I64 e.xid
  x : PtG e.x
  many : e.subs.length ≤ 256
  subs : ∀ y ∈ e.subs, PtG y
theorem acR_G (st : Rs) : AcG (acR st).1 := ⟨numR_i64 _, txtR_le _⟩
theorem ptR_G (st : Rs) : PtG (ptR st).1 :=
  ⟨numR_i64 _, numR_i64 _, numR_i64 _, numR_i64 _, txtR_le _, txtR_le _, (rows_all acR_G _).1, (rows_all acR_G _).2⟩
theorem enR_G (st : Rs) : EnG (enR st).1 := ⟨numR_i64 _, numR_i64 _, numR_i64 _, ptR_G _, (rows_all ptR_G _).1, (rows_all ptR_G _).2⟩
theorem getZ_G {s : Bs} {e : En} (h : getZ s = some e) : EnG e := by
  unfold getZ getR at h
  split at h
  · rename_i q hq; cases h
    have := enR_G (some s)
    rw [hq] at this; exact this
  · cases h
theorem PtG.of {y : Pt} (h : PtG y.pl) : PtG y := ⟨h.kind, h.own, h.num, h.err, h.path, h.data, h.many, h.acl⟩
theorem EnG.of {e : En} (h : EnG e.pl) : EnG e := by
  refine ⟨h.zx, h.ses, h.xid, h.x.of, by have := h.many; unfold En.pl at this; rw [List.length_map] at this; exact this, fun y hy => (h.subs y.pl ?_).of⟩
  show y.pl ∈ e.subs.map Pt.pl
  exact List.mem_map_of_mem hy
theorem PtG.i {y : Pt} (h : PtG y) : PtI y := by
  have hu : U64 = 18446744073709551616 := rfl
  refine ⟨h.kind, h.own, h.num, h.err, ?_, ?_, ?_, fun a ha => ⟨(h.acl a ha).1, ?_⟩⟩
  · have := h.path; omega
  · have := h.data; omega
  · have := h.many; omega
  · have := (h.acl a ha).2; omega
theorem EnG.i {e : En} (h : EnG e) : EnI e := by
  have hu : U64 = 18446744073709551616 := rfl
  exact ⟨h.zx, h.ses, h.xid, h.x.i, by have := h.many; omega, fun y hy => (h.subs y hy).i⟩
theorem fm_most {α : Type} {f : α → Bs} {c : Nat} : ∀ {l : List α}, (∀ x ∈ l, (f x).length ≤ c) → (l.flatMap f).length ≤ l.length * c
  | [], _ => by simp
  | y :: l, h => by
    have h1 := h y (List.mem_cons_self ..)
    have h2 := fm_most (l := l) (f := f) (fun x hx => h x (List.mem_cons_of_mem _ hx))
    rw [List.flatMap_cons, List.length_append, List.length_cons, Nat.add_mul]; omega
theorem cnt10 {n : Nat} (h : n ≤ 65536) : (cntB n).length ≤ 10 := sev_len10 (by have hu : U64 = 18446744073709551616 := rfl; omega)
theorem ptB_most {y : Pt} (h : PtG y) : (ptB y).length ≤ 1061966 := by
  have h1 := numB_len h.kind
  have h2 := cnt10 (n := y.path.length) (by have := h.path; omega)
  have h3 := cnt10 (n := y.data.length) (by have := h.data; omega)
  have h4 := cnt10 (n := y.acl.length) (by have := h.many; omega)
  have h5 := numB_len h.own
  have h6 := numB_len h.num
  have h7 := numB_len h.err
  have h8 := fm_most (f := acB) (c := 4116) (l := y.acl) (fun a ha => by
    have g1 := numB_len (h.acl a ha).1
    have g2 := (h.acl a ha).2
    have g3 := cnt10 (n := a.2.length) (by omega)
    unfold acB txtB; rw [List.length_append, List.length_append]; omega)
  have h9 := h.path
  have h10 := h.data
  have h11 : y.acl.length * 4116 ≤ 256 * 4116 := Nat.mul_le_mul_right _ h.many
  rw [ptB_len]
  unfold aclB
  rw [List.length_append]
  simp only [List.flatMap_cons, List.flatMap_nil, List.length_append, List.length_nil]
  omega
theorem enB_most {e : En} (h : EnG e) : (enB e).length ≤ 1073741824 := by
  have h1 := numB_len h.zx
  have h2 := numB_len h.ses
  have h3 := numB_len h.xid
  have h4 := ptB_most h.x
  have h5 := fm_most (f := ptB) (c := 1061966) (l := e.subs) (fun y hy => ptB_most (h.subs y hy))
  have h6 := cnt10 (n := e.subs.length) (by have := h.many; omega)
  have h7 : e.subs.length * 1061966 ≤ 256 * 1061966 := Nat.mul_le_mul_right _ h.many
  rw [enB_len]
  unfold subsB
  rw [List.length_append]
  simp only [List.flatMap_cons, List.flatMap_nil, List.length_append, List.length_nil]
  omega
theorem big_get {α : Type} {f : α → HP} : ∀ {l : List α} {x : α} {h : Hp}, x ∈ l → bigR f l h → ∃ h1, (∀ b o, h1 b = some o → h b = some o) ∧ f x h1
  | y :: l, x, h, hx, hp => by
    have hq := big_cons hp
    rcases List.mem_cons.1 hx with rfl | hx
    · exact sep_head hq
    · obtain ⟨h1, a1, q1⟩ := sep_head (sep_perm (List.Perm.swap _ _ _) hq)
      obtain ⟨h2, a2, q2⟩ := big_get hx q1
      exact ⟨h2, fun b o hb => a1 b o (a2 b o hb), q2⟩
  | [], _, _, hx, _ => by cases hx
theorem ent_acl {e : En} {h : Hp} (hp : entR e h) : rdS 2 h e.x.aclV e.x.acl.length (e.x.acl.flatMap acC) := by
  obtain ⟨h1, a1, q1⟩ := sep_head hp
  exact rdS_mono (slR_rd q1) a1
theorem ent_subs {e : En} {h : Hp} (hp : entR e h) : rdS 8 h e.x.subsV e.subs.length (e.subs.flatMap ptC) := by
  obtain ⟨h1, a1, q1⟩ := sep_head (sep_perm (List.Perm.swap _ _ _) hp)
  exact rdS_mono (slR_rd q1) a1
theorem ent_each {e : En} {h : Hp} (hp : entR e h) {y : Pt} (hy : y ∈ e.subs) : rdS 2 h y.aclV y.acl.length (y.acl.flatMap acC) := by
  have hq : sep [bigR aclR e.subs, aclR e.x, subsR e] h := sep_perm (by
    refine List.Perm.trans (List.Perm.cons _ (List.Perm.swap _ _ _)) (List.Perm.swap _ _ _)) hp
  obtain ⟨h1, a1, q1⟩ := sep_head hq
  obtain ⟨h2, a2, q2⟩ := big_get hy q1
  exact rdS_mono (slR_rd q2) (fun b o hb => a1 b o (a2 b o hb))
theorem entL {es : List En} {e : En} (he : e ∈ es) (hk : EnK e) (hg : EnG e) : EnL (bigR entR es) e := by
  have hr : ∀ {h : Hp}, bigR entR es h → ∃ h1, (∀ b o, h1 b = some o → h b = some o) ∧ entR e h1 := fun hp => big_get he hp
  have h256 : ∀ {n : Nat}, n ≤ 256 → n ≤ 1048576 := fun h => Nat.le_trans h (by decide)
  refine ⟨⟨hg.i, fun h hp => ?_, fun h hp => ?_, fun y hy h hp => ?_⟩, enB_most hg, ⟨h256 hg.many, h256 hg.x.many, fun y hy => h256 (hg.subs y hy).many⟩, hk.x, fun y hy => ⟨(hk.subs y hy).1, by rw [(hk.subs y hy).2]; rfl⟩⟩
  · obtain ⟨h1, a1, q1⟩ := hr hp; exact rdS_mono (ent_acl q1) a1
  · obtain ⟨h1, a1, q1⟩ := hr hp; exact rdS_mono (ent_subs q1) a1
  · obtain ⟨h1, a1, q1⟩ := hr hp; exact rdS_mono (ent_each q1 hy) a1
/-- What a ledger tells of its entries. -/
def toldR (sl : Value) (l : List Bs) : HP := fun h => ∃ y : (Option Addr × Nat) × List En, (sl = .slice y.1.1 y.2.length y.1.2 ∧ y.2.map enB = l ∧ y.2.length ≤ 1048576 ∧ ∀ e ∈ y.2, EnK e ∧ EnG e) ∧ sep [slR 38 11 sl y.2.length (y.2.flatMap enC), bigR entR y.2] h
section
variable {W : World} {n : Nat} {ds : List Deferred} {E : Env} {L R : List HP} {X : Act → World → Prop}
theorem G.toldOpen {sl : Value} {l : List Bs} (hL : Pick (toldR sl l) L R) (h : ∀ (a : Option Addr) (c : Nat) (es : List En), sl = .slice a es.length c → es.map enB = l → es.length ≤ 1048576 → (∀ e ∈ es, EnK e ∧ EnG e) → G W n ds E (slR 38 11 sl es.length (es.flatMap enC) :: bigR entR es :: R) X) : G W n ds E L X :=
  G.focus hL (G.open (q := fun y : (Option Addr × Nat) × List En => [slR 38 11 sl y.2.length (y.2.flatMap enC), bigR entR y.2]) (φ := fun (y : (Option Addr × Nat) × List En) => sl = .slice y.1.1 y.2.length y.1.2 ∧ y.2.map enB = l ∧ y.2.length ≤ 1048576 ∧ ∀ e ∈ y.2, EnK e ∧ EnG e) (fun _ hp => hp) fun y hy => h y.1.1 y.1.2 y.2 hy.1 hy.2.1 hy.2.2.1 hy.2.2.2)
theorem G.toldFold {a : Option Addr} {c m : Nat} {es : List En} {xs : List Value} (sl : Value) (l : List Bs) (hL : Picks [slR 38 11 (.slice a m c) m xs, bigR entR es] L R) (hs : sl = .slice a m c) (hm : m = es.length) (hx : xs = es.flatMap enC) (hl : es.map enB = l) (hn : es.length ≤ 1048576) (hk : ∀ e ∈ es, EnK e ∧ EnG e) (h : G W n ds E (toldR sl l :: R) X) : G W n ds E L X := by
  subst hs; subst hm; subst hx
  exact G.fold hL (fun _ hp => ⟨((a, c), es), ⟨rfl, hl, hn, hk⟩, hp⟩) h
end
theorem get_enB {s : Bs} {e : En} (h : getZ s = some e.pl) : enB e = s := by
  rw [← enB_pl]; exact (get_form h).1.symm
/-- Entries behind a number, by their bytes. -/
def behindB (Λ : Lg) (z : Int) : List Bs := ((Λ.ents.zip Λ.zxs).filter fun q => decide (q.2 > z)).map (·.1)
theorem rowsI_some : ∀ {es : List Bs} {zs : List Int} {b : Int}, RowsI b es zs → ∀ q ∈ es.zip zs, ∃ e, getZ q.1 = some e ∧ e.zx = q.2
  | [], [], _, _, q, hq => by cases hq
  | s :: t, z :: u, _, h, q, hq => by
    rw [List.zip_cons_cons] at hq
    rcases List.mem_cons.1 hq with rfl | hq
    · exact h.1
    · exact rowsI_some h.2.2.2 q hq
  | [], _ :: _, _, h, _, _ => h.elim
  | _ :: _, [], _, h, _, _ => h.elim
theorem behind_B {Λ : Lg} (h : LgW Λ) {z : Int} {es : List En} (he : es.map En.pl = behindL Λ z) : es.map enB = behindB Λ z ∧ ∀ e ∈ es, EnG e := by
  have key : ∀ {l : List (Bs × Int)} {es : List En}, (∀ q ∈ l, ∃ e, getZ q.1 = some e ∧ e.zx = q.2) → es.map En.pl = l.map entAt → es.map enB = l.map (·.1) ∧ ∀ e ∈ es, EnG e := by
    intro l
    induction l with
    | nil => intro es _ h; cases es with
      | nil => exact ⟨rfl, fun _ h => by cases h⟩
      | cons e es => simp at h
    | cons q l ih =>
      intro es hq h
      cases es with
      | nil => simp at h
      | cons e es =>
        rw [List.map_cons, List.map_cons, List.cons.injEq] at h
        obtain ⟨i1, i2⟩ := ih (fun x hx => hq x (List.mem_cons_of_mem _ hx)) h.2
        obtain ⟨g, hg, -⟩ := hq q (List.mem_cons_self ..)
        have hpl : getZ q.1 = some e.pl := by rw [h.1]; unfold entAt; rw [hg]; rfl
        refine ⟨by rw [List.map_cons, List.map_cons, i1, get_enB hpl], fun x hx => ?_⟩
        rcases List.mem_cons.1 hx with rfl | hx
        · exact (getZ_G hpl).of
        · exact i2 x hx
  exact key (fun q hq => rowsI_some h.rows q ((List.mem_filter.1 hq).1)) he
theorem zip_fst : ∀ {es : List Bs} {zs : List Int}, zs.length = es.length → (es.zip zs).map (·.1) = es
  | [], [], _ => rfl
  | s :: t, z :: u, h => by rw [List.zip_cons_cons, List.map_cons, zip_fst (by simpa using h)]
  | [], _ :: _, h => by simp at h
  | _ :: _, [], h => by simp at h
theorem behind_all {Λ : Lg} (h : LgW Λ) {z : Int} (hz : z ≤ Λ.base) : behindB Λ z = Λ.ents := by
  unfold behindB
  rw [List.filter_eq_self.2 (fun q hq => ?_), zip_fst h.rows.len]
  have := h.rows.gt q.2 (List.of_mem_zip hq).2
  simpa using (by omega : q.2 > z)
end Go.Proofs.YtidjhgbdokcphaaGreat

/- Own work, by program: same, told, equal: walked. -/

namespace Go.Proofs.YtidjhgbdokcphaaGreat
open Go
theorem same_step {a b : List En} {i : Nat} (h1 : i < a.length) (h2 : i < b.length) (h : (a.take i).map enB = (b.take i).map enB) (he : enB a[i] = enB b[i]) : (a.take (i + 1)).map enB = (b.take (i + 1)).map enB := by
  rw [List.take_succ_eq_append_getElem h1, List.take_succ_eq_append_getElem h2, List.map_append, List.map_append, h]
  simp [he]
theorem same_bad {a b : List En} {i : Nat} (h1 : i < a.length) (h2 : i < b.length) (he : ¬ enB a[i] = enB b[i]) : ¬ a.map enB = b.map enB := by
  intro h
  have h3 : (a.map enB)[i]? = (b.map enB)[i]? := by rw [h]
  simp [h1, h2] at h3
  exact he h3
set_option maxRecDepth 100000 in
theorem same9_spec (va vb : Value) (a b : List En) (pa pe qa qe : HP) (ha : ∀ h : Hp, pa h → rdS 11 h va a.length (a.flatMap enC)) (hae : ∀ e ∈ a, EnL pe e) (hb : ∀ h : Hp, qa h → rdS 11 h vb b.length (b.flatMap enC)) (hbe : ∀ e ∈ b, EnL qe e) (hl : a.length ≤ 4294967296) (hm : b.length ≤ 4294967296) : Fn Tryz.prog 30 #[va, vb] [pa, pe, qa, qe] fun v L => v = .bool (decide (a.map enB = b.map enB)) ∧ L = [pa, pe, qa, qe] := by
 refine Fn.intro (vs := [va, vb]) Tryz.func30 rfl rfl ?_
 intro F W
 refine G.rdAny (p := pa) ha (by (repeat' constructor)) fun aa ca e _ => ?_
 subst e
 refine G.rdAny (p := qa) hb (by (repeat' constructor)) fun ab cb e _ => ?_
 subst e
 refine G.seq (G.region (G.q (Quiet.assign rfl) rfl (G.nil (G.then_n (G.seq (G.seq (G.region (G.q (Quiet.move rfl) rfl (G.q (Quiet.slen rfl Tryz.underlying22 rfl) rfl (G.q (Quiet.move rfl) rfl (G.q (Quiet.slen rfl Tryz.underlying22 rfl) rfl (G.q (Quiet.int rfl rfl rfl) rfl (G.nil (G.then_n ?_))))))))))))))
 refine G.condN rfl (fun h10 => ?_) (fun h10 => ?_)
 ·refine G.seq (G.region (G.q (Quiet.assign rfl) rfl (G.nil (G.then_n (G.ret (G.then_r ?_))))))
  exact G.done (l := [.tmp 4]) rfl rfl ⟨congrArg Value.bool (decide_eq_false (fun h => by have h2 := congrArg List.length h; rw [List.length_map, List.length_map] at h2; omega)).symm, rfl⟩ (by (repeat' constructor)) (by (repeat' constructor))
 ·have hlen : a.length = b.length := by omega
  refine G.skip (G.then_n (G.seq (G.seq (G.region (G.q (Quiet.assign rfl) rfl (G.nil (G.then_n (G.block ?_))))))))
  refine G.loopK (ι := Nat) (fun q E => (5, vint q) :: E) (fun q => []) (fun q => q ≤ a.length ∧ (a.take q).map enB = (b.take q).map enB) (fun q => a.length - q) (0) (ts := [0, 1]) (.cons rfl (.cons rfl (.nil))) (⟨Nat.zero_le _, rfl⟩) ⟨rfl, rfl, rfl, trivial⟩ (by (repeat' constructor)) ?_
  rintro i ⟨hi, ht⟩
  refine G.seq (G.seq (G.region (G.q (Quiet.move rfl) rfl (G.q (Quiet.move rfl) rfl (G.q (Quiet.slen rfl Tryz.underlying22 rfl) rfl (G.q (Quiet.int rfl rfl rfl) rfl (G.nil (G.then_n ?_))))))))
  refine G.condD rfl (fun h14 => ?_) (fun h14 => ?_)
  ·have hi2 : i < a.length := by omega
   have hi3 : i < b.length := by omega
   have hea := hae _ (List.getElem_mem hi2)
   have heb := hbe _ (List.getElem_mem hi3)
   refine G.rdShape (p := pa) ha (by (repeat' constructor)) (by omega) fun ba oa e => ?_
   subst e
   refine G.rdShape (p := qa) hb (by (repeat' constructor)) (by omega) fun bb ob e => ?_
   subst e
   refine G.skip (G.then_n (G.seq (G.block (G.seq ?_))))
   refine G.draw [] [[0, 1, 2, 3, 4, 5, 6, 7, 8, 9, 10]] mixed (by kernel_rfl) ?_
   refine Phases.go [pa, pe, qa, qe] (by (repeat' constructor)) ?_
   refine D.qw [2, 3, 4, 9, 10] rfl (by kernel_rfl) (Quiet.move rfl) ?_
   refine D.qw [2, 3, 4, 9, 10] rfl (by kernel_rfl) (Quiet.move rfl) ?_
   refine D.qw [3, 4, 9, 10] rfl (by kernel_rfl) (Quiet.indexAddr rfl rfl el_22 (by omega)) ?_
   refine D.qw [4, 9, 10] rfl (by kernel_rfl) (Quiet.loadRdA (sz := 11) (j := i * 11) (k := 11) (p := pa) (vs := enC a[i]) rfl ag_38 (by (repeat' constructor)) ha (by simp) (by omega) (by omega) (flatMap_at (f := enC) (sz := 11) (fun _ _ => rfl) (by omega))) ?_
   refine D.m rfl (by kernel_rfl) (OpSpec.call Tryz.func77 rfl rfl (vs := [_]) rfl (r2put_spec a[i] pe hea)) (by (repeat' constructor)) ?nx17
   refine D.qw [7, 8, 9, 10] rfl (by kernel_rfl) (Quiet.move rfl) ?_
   refine D.qw [7, 8, 9, 10] rfl (by kernel_rfl) (Quiet.move rfl) ?_
   refine D.qw [8, 9, 10] rfl (by kernel_rfl) (Quiet.indexAddr rfl rfl el_22 (by omega)) ?_
   refine D.qw [9, 10] rfl (by kernel_rfl) (Quiet.loadRdA (sz := 11) (j := i * 11) (k := 11) (p := qa) (vs := enC b[i]) rfl ag_38 (by (repeat' constructor)) hb (by simp) (by omega) (by omega) (flatMap_at (f := enC) (sz := 11) (fun _ _ => rfl) (by omega))) ?_
   refine D.m rfl (by kernel_rfl) (OpSpec.call Tryz.func77 rfl rfl (vs := [_]) rfl (r2put_spec b[i] qe heb)) (by (repeat' constructor)) ?nx23
   refine D.qw [] rfl (by kernel_rfl) (Quiet.strne rfl rfl) ?_
   refine D.ph (Phases.fin (G.then_n ?_))
   refine G.condN rfl (fun h27 => ?_) (fun h27 => ?_)
   ·refine G.seq (G.region (G.q (Quiet.assign rfl) rfl (G.nil (G.then_n (G.ret (G.blk_r (G.then_r (G.then_r (G.blk_r (G.then_r ?_))))))))))
    exact G.done (l := [.tmp 4]) rfl rfl ⟨congrArg Value.bool (decide_eq_false (same_bad hi2 hi3 (by simpa using h27))).symm, rfl⟩ (by (repeat' constructor)) (by (repeat' constructor))
   ·refine G.skip (G.blk_n (G.then_n (G.region (G.q (Quiet.move rfl) rfl ?_))))
    refine G.q (Quiet.add rfl rfl (by omega)) rfl ?_
    refine G.q (Quiet.assign rfl) rfl (G.nil (G.then_n ?_))
    exact G.roundK (i + 1) (⟨by omega, same_step hi2 hi3 ht (by simpa using h27)⟩) (by omega) ⟨rfl, rfl, rfl, trivial⟩ (by (repeat' constructor)) (by ((repeat (apply Have.cons; (repeat (first | exact Pick.here | apply Pick.there)))); apply Have.base; repeat' constructor))
  ·refine G.exit (G.then_e (G.then_e (G.blk_e (G.then_n (G.seq (G.region (G.q (Quiet.assign rfl) rfl (G.nil (G.then_n (G.ret ?_))))))))))
   exact G.done (l := [.tmp 4]) rfl rfl ⟨congrArg Value.bool (decide_eq_true (by have hie : i = a.length := (by omega); rw [hie, List.take_length, hlen, List.take_length] at ht; exact ht)).symm, rfl⟩ (by (repeat' constructor)) (by (repeat' constructor))

set_option maxRecDepth 100000 in
theorem told9_spec (g x : Nat) (Λ : Lg) (h : LgW Λ) : Fn Tryz.prog 35 #[vptr g] [lgR g x Λ] fun v L => ∃ sl, v = .agg [vint Λ.base, vstr Λ.snap, sl, vint Λ.acc, vint Λ.cur].toArray ∧ L = [lgR g x Λ, toldR sl Λ.ents] := by
 refine Fn.intro (vs := [vptr g]) Tryz.func35 rfl rfl ?_
 intro F W
 have hI := h.i
 refine G.seq (G.region ?_)
 refine G.op (OpSpec.allocA ze_82) (by (repeat' constructor)) rfl ?nx1
 rintro v L' ⟨b2, rfl, rfl⟩
 refine G.nil (G.then_n (G.seq (G.region (G.q (Quiet.move rfl) rfl (G.q (Quiet.move rfl) rfl ?_)))))
 refine G.op (OpSpec.call Tryz.func81 rfl rfl (vs := [_]) rfl (lbase_spec g x Λ)) (by (repeat' constructor)) rfl ?nx5
 rintro v L' ⟨rfl, rfl⟩
 refine G.op (OpSpec.call Tryz.func16 rfl rfl (vs := [_, _]) rfl (lentries_spec g x Λ Λ.base hI)) (by (repeat' constructor)) rfl ?nx7
 rintro v L' (⟨h9, -, -⟩ | ⟨-, es, hes, hek, ae, ce, rfl, rfl⟩); · omega
 obtain ⟨hB, hG⟩ := behind_B h hes
 rw [behind_all h (Int.le_refl _)] at hB
 have hel : es.length ≤ 1048576 := by have h8 := congrArg List.length hB; rw [List.length_map] at h8; have := h.few; omega
 refine G.q (Quiet.move rfl) rfl (G.q (Quiet.extract rfl rfl) rfl (G.q (Quiet.extract rfl rfl) rfl (G.q (Quiet.assign rfl) rfl (G.q (Quiet.assign rfl) rfl (G.nil (G.then_n (G.seq ?_)))))))
 refine G.draw [14] [[0, 1, 2, 3, 4, 5, 6, 7, 8, 9, 10, 11, 12, 13, 14]] mixed (by kernel_rfl) ?_
 refine Phases.go [lgR g x Λ] (by (repeat' constructor)) ?_
 refine D.qw [1, 3, 8, 12, 13, 14] rfl (by kernel_rfl) (Quiet.move rfl) ?_
 refine D.m rfl (by kernel_rfl) (OpSpec.call Tryz.func81 rfl rfl (vs := [_]) rfl (lbase_spec g x Λ)) (by (repeat' constructor)) ?nx12
 refine D.qw [3, 8, 12, 13, 14] rfl (by kernel_rfl) (Quiet.move rfl) ?_
 refine D.m rfl (by kernel_rfl) (OpSpec.call Tryz.func82 rfl rfl (vs := [_]) rfl (lsnap_spec g x Λ)) (by (repeat' constructor)) ?nx15
 refine D.qw [13, 14] rfl (by kernel_rfl) (Quiet.move rfl) ?_
 refine D.qw [6, 7, 8, 12, 13, 14] rfl (by kernel_rfl) (Quiet.move rfl) ?_
 refine D.qw [7, 8, 12, 13, 14] rfl (by kernel_rfl) (Quiet.nilp rfl) ?_
 refine D.qw [8, 12, 13, 14] rfl (by kernel_rfl) (Quiet.fieldAddr rfl fo_79_0) ?_
 refine D.m rfl (by kernel_rfl) (OpSpec.call Tryz.func33 rfl rfl (vs := [_]) rfl (lacc_spec g x Λ)) (by (repeat' constructor)) ?nx20
 refine D.qw [10, 11, 12, 13, 14] rfl (by kernel_rfl) (Quiet.move rfl) ?_
 refine D.qw [11, 12, 13, 14] rfl (by kernel_rfl) (Quiet.nilp rfl) ?_
 refine D.qw [12, 13, 14] rfl (by kernel_rfl) (Quiet.fieldAddr rfl fo_79_0) ?_
 refine D.m rfl (by kernel_rfl) (OpSpec.call Tryz.func34 rfl rfl (vs := [_]) rfl (lcur_spec g x Λ)) (by (repeat' constructor)) ?nx25
 refine D.qw [14] rfl (by kernel_rfl) (Quiet.to (v' := .agg [vint Λ.base, vstr Λ.snap, .slice ae es.length ce, vint Λ.acc, vint Λ.cur].toArray) (Quiet.build (us := [(0, _), (1, _), (2, _), (3, _), (4, _)]) fl_82 ze_82 rfl rfl (by simp [isCell])) rfl) ?_
 refine D.h rfl (by kernel_rfl) (OpSpec.storeA rfl rfl ?c28 sz_82 ?c31 ?c29 ?c30) (by (repeat' constructor)) ?nx32
 case c28 => simp [isCell]
 case c31 => rfl
 case c29 => simp
 case c30 => exact nfz0 _ _
 rintro v L' rfl
 refine D.ph (Phases.fin (G.then_n (G.ret ?_)))
 refine G.ptCast (b := b2) (l' := [vint Λ.base, vstr Λ.snap, .slice ae es.length ce, vint Λ.acc, vint Λ.cur]) (by (repeat' constructor)) (by exact rfl) ?_
 refine G.toldFold (a := ae) (c := ce) (m := es.length) (es := es) (.slice ae es.length ce) Λ.ents (by (repeat' constructor)) rfl rfl rfl hB hel (fun e he => ⟨hek e he, hG e he⟩) ?_
 exact G.done1 rfl (.cellA rfl ag_82 (by (repeat' constructor)) (by simp) rfl) ⟨.slice ae es.length ce, rfl, rfl⟩ (by (repeat' constructor)) (by (repeat' constructor))

set_option maxRecDepth 100000 in
theorem equal9_spec (b1 c1 a1 b2 c2 a2 : Int) (s1 s2 : Bs) (l1 l2 : Value) (u1 u2 : List Bs) : Fn Tryz.prog 37 #[.agg [vint b1, vstr s1, l1, vint a1, vint c1].toArray, .agg [vint b2, vstr s2, l2, vint a2, vint c2].toArray] [toldR l1 u1, toldR l2 u2] fun v L => v = .bool (decide (u1 = u2 ∧ b1 = b2 ∧ s1 = s2 ∧ a1 = a2 ∧ c1 = c2)) ∧ L = [toldR l1 u1, toldR l2 u2] := by
 refine Fn.intro (vs := [.agg [vint b1, vstr s1, l1, vint a1, vint c1].toArray, .agg [vint b2, vstr s2, l2, vint a2, vint c2].toArray]) Tryz.func37 rfl rfl ?_
 intro F W
 refine G.seq (G.region ?_)
 refine G.op (OpSpec.box rfl) (by (repeat' constructor)) rfl ?nx1
 rintro v L' ⟨m1, rfl, rfl⟩
 refine G.op (OpSpec.box rfl) (by (repeat' constructor)) rfl ?nx3
 rintro v L' ⟨m2, rfl, rfl⟩
 refine G.q (Quiet.assign rfl) rfl (G.nil ?_)
 refine G.ptCast (b := m1) (l' := [vint b1, vstr s1, l1, vint a1, vint c1]) (by (repeat' constructor)) (by exact rfl) ?_
 refine G.ptCast (b := m2) (l' := [vint b2, vstr s2, l2, vint a2, vint c2]) (by (repeat' constructor)) (by exact rfl) ?_
 refine G.toldOpen (sl := l1) (by (repeat' constructor)) fun x1 y1 e1 hs1 hm1 hn1 hk1 => ?_
 subst hs1
 refine G.toldOpen (sl := l2) (by (repeat' constructor)) fun x2 y2 e2 hs2 hm2 hn2 hk2 => ?_
 subst hs2
 refine G.then_n (G.seq (G.region (G.q (Quiet.fieldAddr rfl fo_82_2) rfl ?_)))
 refine G.q (Quiet.load rfl ag_22 (by (repeat' constructor)) (rfl)) rfl ?_
 refine G.q (Quiet.fieldAddr rfl fo_82_2) rfl ?_
 refine G.q (Quiet.load rfl ag_22 (by (repeat' constructor)) (rfl)) rfl ?_
 refine G.op (OpSpec.call Tryz.func30 rfl rfl (vs := [_, _]) rfl (same9_spec _ _ e1 e2 (slR 38 11 (.slice x1 e1.length y1) e1.length (e1.flatMap enC)) (bigR entR e1) (slR 38 11 (.slice x2 e2.length y2) e2.length (e2.flatMap enC)) (bigR entR e2) (fun h hp => slR_rd hp) (fun e he => entL he (hk1 e he).1 (hk1 e he).2) (fun h hp => slR_rd hp) (fun e he => entL he (hk2 e he).1 (hk2 e he).2) (by omega) (by omega))) (by (repeat' constructor)) rfl ?nx10
 rintro v L' ⟨rfl, rfl⟩; rw [hm1, hm2]
 refine G.q (Quiet.assign rfl) rfl (G.nil (G.then_n (G.seq (G.region (G.q (Quiet.move rfl) rfl (G.q (Quiet.move rfl) rfl ?_))))))
 refine G.dec (t := 12) rfl (fun h2_12 => ?_) (fun h2_12 => ?_)
 ·refine G.kDT (t := 10) rfl h2_12 (G.kDT (t := 5) rfl h2_12 (G.kDT (t := 11) rfl h2_12 (G.grun (t := 12) rfl rfl rfl (G.q (Quiet.fieldAddr rfl fo_82_0) rfl (G.grun (t := 12) rfl rfl rfl ?_)))))
  refine G.q (Quiet.load rfl ag_3 (by (repeat' constructor)) (rfl)) rfl ?_
  refine G.grun (t := 12) rfl rfl rfl (G.q (Quiet.fieldAddr rfl fo_82_0) rfl (G.grun (t := 12) rfl rfl rfl ?_))
  refine G.q (Quiet.load rfl ag_3 (by (repeat' constructor)) (rfl)) rfl ?_
  refine G.grun (t := 12) rfl rfl rfl (G.q (Quiet.int rfl rfl rfl) rfl (G.q (Quiet.pickT rfl rfl) rfl (G.q (Quiet.move rfl) rfl ?_)))
  refine G.dec (t := 19) rfl (fun h2_19 => ?_) (fun h2_19 => ?_)
  ·refine G.kDT (t := 17) rfl h2_19 (G.kDT (t := 18) rfl h2_19 (G.grun (t := 19) rfl rfl rfl (G.q (Quiet.fieldAddr rfl fo_82_1) rfl (G.grun (t := 19) rfl rfl rfl ?_))))
   refine G.q (Quiet.load rfl ag_9 (by (repeat' constructor)) (rfl)) rfl ?_
   refine G.grun (t := 19) rfl rfl rfl (G.q (Quiet.fieldAddr rfl fo_82_1) rfl (G.grun (t := 19) rfl rfl rfl ?_))
   refine G.q (Quiet.load rfl ag_9 (by (repeat' constructor)) (rfl)) rfl ?_
   refine G.grun (t := 19) rfl rfl rfl (G.q (Quiet.streq rfl rfl) rfl (G.q (Quiet.pickT rfl rfl) rfl (G.q (Quiet.move rfl) rfl ?_)))
   refine G.dec (t := 26) rfl (fun h2_26 => ?_) (fun h2_26 => ?_)
   ·refine G.kDT (t := 24) rfl h2_26 (G.kDT (t := 25) rfl h2_26 (G.grun (t := 26) rfl rfl rfl (G.q (Quiet.fieldAddr rfl fo_82_3) rfl (G.grun (t := 26) rfl rfl rfl ?_))))
    refine G.q (Quiet.load rfl ag_3 (by (repeat' constructor)) (rfl)) rfl ?_
    refine G.grun (t := 26) rfl rfl rfl (G.q (Quiet.fieldAddr rfl fo_82_3) rfl (G.grun (t := 26) rfl rfl rfl ?_))
    refine G.q (Quiet.load rfl ag_3 (by (repeat' constructor)) (rfl)) rfl ?_
    refine G.grun (t := 26) rfl rfl rfl (G.q (Quiet.int rfl rfl rfl) rfl (G.q (Quiet.pickT rfl rfl) rfl (G.q (Quiet.move rfl) rfl ?_)))
    refine G.dec (t := 33) rfl (fun h2_33 => ?_) (fun h2_33 => ?_)
    ·refine G.kDT (t := 31) rfl h2_33 (G.kDT (t := 32) rfl h2_33 (G.grun (t := 33) rfl rfl rfl (G.q (Quiet.fieldAddr rfl fo_82_4) rfl (G.grun (t := 33) rfl rfl rfl ?_))))
     refine G.q (Quiet.load rfl ag_3 (by (repeat' constructor)) (rfl)) rfl ?_
     refine G.grun (t := 33) rfl rfl rfl (G.q (Quiet.fieldAddr rfl fo_82_4) rfl (G.grun (t := 33) rfl rfl rfl ?_))
     refine G.q (Quiet.load rfl ag_3 (by (repeat' constructor)) (rfl)) rfl ?_
     refine G.grun (t := 33) rfl rfl rfl (G.q (Quiet.int rfl rfl rfl) rfl (G.q (Quiet.pickT rfl rfl) rfl (G.q (Quiet.assign rfl) rfl (G.nil (G.then_n (G.ret ?_))))))
     refine G.toldFold (a := x2) (c := y2) (m := e2.length) (es := e2) (.slice x2 e2.length y2) u2 (by (repeat' constructor)) rfl rfl rfl hm2 hn2 hk2 ?_
     refine G.toldFold (a := x1) (c := y1) (m := e1.length) (es := e1) (.slice x1 e1.length y1) u1 (by (repeat' constructor)) rfl rfl rfl hm1 hn1 hk1 ?_
     exact G.done (l := [.tmp 4]) rfl rfl ⟨congrArg Value.bool (decide_eq_decide.2 ⟨fun h5 => ⟨h2_12, h2_19, h2_26, h2_33, h5⟩, fun h => h.2.2.2.2⟩), rfl⟩ (by (repeat' constructor)) (by (repeat' constructor))
    ·refine G.kDF (t := 31) rfl h2_33 (G.kDF (t := 32) rfl h2_33 (G.gskip (t := 33) rfl rfl rfl rfl (G.gskip (t := 33) rfl rfl rfl rfl (G.gskip (t := 33) rfl rfl rfl rfl (G.gskip (t := 33) rfl rfl rfl rfl (G.gskip (t := 33) rfl rfl rfl rfl (G.q (Quiet.pickF rfl rfl) rfl (G.q (Quiet.assign rfl) rfl (G.nil (G.then_n (G.ret ?_)))))))))))
     refine G.toldFold (a := x2) (c := y2) (m := e2.length) (es := e2) (.slice x2 e2.length y2) u2 (by (repeat' constructor)) rfl rfl rfl hm2 hn2 hk2 ?_
     refine G.toldFold (a := x1) (c := y1) (m := e1.length) (es := e1) (.slice x1 e1.length y1) u1 (by (repeat' constructor)) rfl rfl rfl hm1 hn1 hk1 ?_
     exact G.done (l := [.tmp 4]) rfl rfl ⟨congrArg Value.bool (decide_eq_false (fun h => h2_33 h.2.2.2.1)).symm, rfl⟩ (by (repeat' constructor)) (by (repeat' constructor))
   ·refine G.kDF (t := 24) rfl h2_26 (G.kDF (t := 25) rfl h2_26 (G.gskip (t := 26) rfl rfl rfl rfl (G.gskip (t := 26) rfl rfl rfl rfl (G.gskip (t := 26) rfl rfl rfl rfl (G.gskip (t := 26) rfl rfl rfl rfl (G.gskip (t := 26) rfl rfl rfl rfl (G.q (Quiet.pickF rfl rfl) rfl (G.q (Quiet.move rfl) rfl (G.gskip (t := 33) rfl rfl rfl rfl (G.gskip (t := 33) rfl rfl rfl rfl (G.gskip (t := 33) rfl rfl rfl rfl (G.gskip (t := 33) rfl rfl rfl rfl (G.gskip (t := 33) rfl rfl rfl rfl (G.q (Quiet.pickF rfl rfl) rfl (G.q (Quiet.assign rfl) rfl (G.nil (G.then_n (G.ret ?_))))))))))))))))))
    refine G.toldFold (a := x2) (c := y2) (m := e2.length) (es := e2) (.slice x2 e2.length y2) u2 (by (repeat' constructor)) rfl rfl rfl hm2 hn2 hk2 ?_
    refine G.toldFold (a := x1) (c := y1) (m := e1.length) (es := e1) (.slice x1 e1.length y1) u1 (by (repeat' constructor)) rfl rfl rfl hm1 hn1 hk1 ?_
    exact G.done (l := [.tmp 4]) rfl rfl ⟨congrArg Value.bool (decide_eq_false (fun h => h2_26 h.2.2.1)).symm, rfl⟩ (by (repeat' constructor)) (by (repeat' constructor))
  ·refine G.kDF (t := 17) rfl h2_19 (G.kDF (t := 18) rfl h2_19 (G.gskip (t := 19) rfl rfl rfl rfl (G.gskip (t := 19) rfl rfl rfl rfl (G.gskip (t := 19) rfl rfl rfl rfl (G.gskip (t := 19) rfl rfl rfl rfl (G.gskip (t := 19) rfl rfl rfl rfl (G.q (Quiet.pickF rfl rfl) rfl (G.q (Quiet.move rfl) rfl (G.gskip (t := 26) rfl rfl rfl rfl (G.gskip (t := 26) rfl rfl rfl rfl (G.gskip (t := 26) rfl rfl rfl rfl (G.gskip (t := 26) rfl rfl rfl rfl (G.gskip (t := 26) rfl rfl rfl rfl (G.q (Quiet.pickF rfl rfl) rfl (G.q (Quiet.move rfl) rfl (G.gskip (t := 33) rfl rfl rfl rfl (G.gskip (t := 33) rfl rfl rfl rfl (G.gskip (t := 33) rfl rfl rfl rfl (G.gskip (t := 33) rfl rfl rfl rfl (G.gskip (t := 33) rfl rfl rfl rfl (G.q (Quiet.pickF rfl rfl) rfl (G.q (Quiet.assign rfl) rfl (G.nil (G.then_n (G.ret ?_)))))))))))))))))))))))))
   refine G.toldFold (a := x2) (c := y2) (m := e2.length) (es := e2) (.slice x2 e2.length y2) u2 (by (repeat' constructor)) rfl rfl rfl hm2 hn2 hk2 ?_
   refine G.toldFold (a := x1) (c := y1) (m := e1.length) (es := e1) (.slice x1 e1.length y1) u1 (by (repeat' constructor)) rfl rfl rfl hm1 hn1 hk1 ?_
   exact G.done (l := [.tmp 4]) rfl rfl ⟨congrArg Value.bool (decide_eq_false (fun h => h2_19 h.2.1)).symm, rfl⟩ (by (repeat' constructor)) (by (repeat' constructor))
 ·refine G.kDF (t := 10) rfl h2_12 (G.kDF (t := 5) rfl h2_12 (G.kDF (t := 11) rfl h2_12 (G.gskip (t := 12) rfl rfl rfl rfl (G.gskip (t := 12) rfl rfl rfl rfl (G.gskip (t := 12) rfl rfl rfl rfl (G.gskip (t := 12) rfl rfl rfl rfl (G.gskip (t := 12) rfl rfl rfl rfl (G.q (Quiet.pickF rfl rfl) rfl (G.q (Quiet.move rfl) rfl (G.gskip (t := 19) rfl rfl rfl rfl (G.gskip (t := 19) rfl rfl rfl rfl (G.gskip (t := 19) rfl rfl rfl rfl (G.gskip (t := 19) rfl rfl rfl rfl (G.gskip (t := 19) rfl rfl rfl rfl (G.q (Quiet.pickF rfl rfl) rfl (G.q (Quiet.move rfl) rfl (G.gskip (t := 26) rfl rfl rfl rfl (G.gskip (t := 26) rfl rfl rfl rfl (G.gskip (t := 26) rfl rfl rfl rfl (G.gskip (t := 26) rfl rfl rfl rfl (G.gskip (t := 26) rfl rfl rfl rfl (G.q (Quiet.pickF rfl rfl) rfl (G.q (Quiet.move rfl) rfl (G.gskip (t := 33) rfl rfl rfl rfl (G.gskip (t := 33) rfl rfl rfl rfl (G.gskip (t := 33) rfl rfl rfl rfl (G.gskip (t := 33) rfl rfl rfl rfl (G.gskip (t := 33) rfl rfl rfl rfl (G.q (Quiet.pickF rfl rfl) rfl (G.q (Quiet.assign rfl) rfl (G.nil (G.then_n (G.ret ?_)))))))))))))))))))))))))))))))))
  refine G.toldFold (a := x2) (c := y2) (m := e2.length) (es := e2) (.slice x2 e2.length y2) u2 (by (repeat' constructor)) rfl rfl rfl hm2 hn2 hk2 ?_
  refine G.toldFold (a := x1) (c := y1) (m := e1.length) (es := e1) (.slice x1 e1.length y1) u1 (by (repeat' constructor)) rfl rfl rfl hm1 hn1 hk1 ?_
  exact G.done (l := [.tmp 4]) rfl rfl ⟨congrArg Value.bool (decide_eq_false (fun h => h2_12 h.1)).symm, rfl⟩ (by (repeat' constructor)) (by (repeat' constructor))

end Go.Proofs.YtidjhgbdokcphaaGreat

/- Own work, by program: pick, text, does; LedgerEpochs: walked. -/

namespace Go.Proofs.YtidjhgbdokcphaaGreat
open Go
set_option maxRecDepth 100000 in
theorem pick9_spec  (c n : Int) (hc : -9223372036854775808 ≤ c ∧ c ≤ 9223372036854775807) (hn : 0 < n) : Fn Tryz.prog 26 #[vint c, vint n] [] fun v L => v = vint (pickZ c n) ∧ L = [] := by
 refine Fn.intro (vs := [vint c, vint n]) Tryz.func26 rfl rfl ?_
 intro F W
 refine G.seq (G.region (G.q (Quiet.assign rfl) rfl (G.nil (G.then_n (G.seq (G.seq (G.region (G.q (Quiet.move rfl) rfl (G.q (Quiet.int rfl rfl rfl) rfl (G.nil (G.then_n ?_)))))))))))
 refine G.condD rfl (fun h6 => ?_) (fun h6 => ?_)
 ·refine G.region (G.q (Quiet.move rfl) rfl ?_)
  refine G.q (Quiet.add rfl rfl (by omega)) rfl ?_
  refine G.q (Quiet.neg rfl (by omega)) rfl ?_
  refine G.q (Quiet.assign rfl) rfl (G.nil (G.then_n (G.seq (G.region (G.q (Quiet.move rfl) rfl (G.q (Quiet.move rfl) rfl ?_))))))
  refine G.q (Quiet.remE rfl rfl (by omega) (by omega)) rfl ?_
  refine G.q (Quiet.assign rfl) rfl (G.nil (G.then_n (G.ret ?_)))
  have e : pickZ c n = (-(c + 1)) % n := by unfold pickZ; rw [if_pos h6]
  rw [e]
  exact G.done (l := [.tmp 4]) rfl rfl ⟨rfl, rfl⟩ (by (repeat' constructor)) (by (repeat' constructor))
 ·refine G.skip (G.then_n (G.seq (G.region (G.q (Quiet.move rfl) rfl (G.q (Quiet.move rfl) rfl ?_)))))
  refine G.q (Quiet.remE rfl rfl (by omega) (by omega)) rfl ?_
  refine G.q (Quiet.assign rfl) rfl (G.nil (G.then_n (G.ret ?_)))
  have e : pickZ c n = (c) % n := by unfold pickZ; rw [if_neg h6]
  rw [e]
  exact G.done (l := [.tmp 4]) rfl rfl ⟨rfl, rfl⟩ (by (repeat' constructor)) (by (repeat' constructor))

set_option maxRecDepth 100000 in
theorem text9_spec (o : Op9) (k : Int) (ht : o.text.length ≤ 1048576) : Fn Tryz.prog 79 #[.agg (op9K o k).toArray] [] fun v L => v = vstr (textZ o) ∧ L = [] := by
 refine Fn.intro (vs := [.agg (op9K o k).toArray]) Tryz.func79 rfl rfl ?_
 intro F W
 refine G.seq (G.region ?_)
 refine G.op (OpSpec.box rfl) (by (repeat' constructor)) rfl ?nx1
 rintro v L' ⟨b1, rfl, rfl⟩
 refine G.q (Quiet.assign rfl) rfl (G.nil ?_)
 refine G.ptCast (b := b1) (l' := op9K o k) (by (repeat' constructor)) (by exact rfl) ?_
 refine G.then_n (G.seq (G.region (G.q (Quiet.fieldAddr rfl fo_73_5) rfl ?_)))
 refine G.q (Quiet.load rfl ag_9 (by (repeat' constructor)) (rfl)) rfl ?_
 refine G.q (Quiet.assign rfl) rfl (G.nil (G.then_n (G.seq (G.region (G.q (Quiet.fieldAddr rfl fo_73_2) rfl ?_)))))
 refine G.q (Quiet.load rfl ag_3 (by (repeat' constructor)) (rfl)) rfl ?_
 refine G.q (Quiet.min2 rfl rfl) rfl (G.q (Quiet.assign rfl) rfl (G.nil (G.then_n (G.seq (G.block ?_)))))
 refine G.loopK (ι := Nat × Bs) (fun q E => (3, vstr q.2) :: E) (fun q => []) (fun q => textF q.1 q.2 (min o.size 66000) = textF 66001 o.text (min o.size 66000) ∧ q.2.length ≤ 2097152 ∧ (min o.size 66000) - q.2.length ≤ q.1) (fun q => q.1) (66001, o.text) (ts := [2, 4]) (.cons rfl (.cons rfl (.nil))) (⟨rfl, by dsimp only; omega, by dsimp only; omega⟩) ⟨rfl, rfl, rfl, trivial⟩ (by (repeat' constructor)) ?_
 rintro ⟨f, s⟩ ⟨hf, hsl, hfu⟩
 dsimp only
 dsimp only at hf hsl hfu
 refine G.seq (G.seq (G.region (G.q (Quiet.move rfl) rfl (G.q (Quiet.strne rfl rfl) rfl (G.q (Quiet.move rfl) rfl ?_)))))
 refine G.ndec (t := 12) rfl (fun h3_12 => ?_) (fun h3_12 => ?_)
 ·refine G.kNT (t := 11) rfl h3_12 (G.grun (t := 12) rfl rfl rfl (G.q (Quiet.move rfl) rfl (G.grun (t := 12) rfl rfl rfl (G.q (Quiet.strlen rfl Tryz.underlying9 rfl) rfl (G.grun (t := 12) rfl rfl rfl (G.q (Quiet.move rfl) rfl (G.grun (t := 12) rfl rfl rfl (G.q (Quiet.int rfl rfl rfl) rfl (G.q (Quiet.pickT rfl rfl) rfl (G.nil (G.then_n ?_)))))))))))
  refine G.condD rfl (fun h17 => ?_) (fun h17 => ?_)
  ·have hs0 : 0 < s.length := List.length_pos_iff.2 h3_12
   obtain ⟨f1, rfl⟩ : ∃ f1, f = f1 + 1 := ⟨f - 1, by omega⟩
   refine G.skip (G.then_n (G.block (G.region (G.q (Quiet.move rfl) rfl (G.q (Quiet.move rfl) rfl ?_)))))
   refine G.q (Quiet.concat rfl rfl (by omega)) rfl ?_
   refine G.q (Quiet.assign rfl) rfl (G.nil (G.blk_n (G.then_n ?_)))
   exact G.roundK ((f1, s ++ s)) (⟨by dsimp only; rw [← textF_go ⟨h3_12, h17⟩]; exact hf, by dsimp only; rw [List.length_append]; omega, by dsimp only; rw [List.length_append]; omega⟩) (by dsimp only; omega) ⟨rfl, rfl, rfl, trivial⟩ (by (repeat' constructor)) (by ((repeat (apply Have.cons; (repeat (first | exact Pick.here | apply Pick.there)))); apply Have.base; repeat' constructor))
  ·refine G.exit (G.then_e (G.then_e (G.blk_e (G.then_n (G.seq (G.seq ?_))))))
   have hT : textF 66001 o.text (min o.size 66000) = s := by rw [← hf]; exact textF_stop (fun g => h17 g.2)
   refine G.region (G.q (Quiet.move rfl) rfl (G.q (Quiet.strlen rfl Tryz.underlying9 rfl) rfl (G.q (Quiet.move rfl) rfl (G.q (Quiet.int rfl rfl rfl) rfl (G.q (Quiet.move rfl) rfl ?_)))))
   refine G.dec (t := 25) rfl (fun h5_25 => ?_) (fun h5_25 => ?_)
   ·refine G.kDT (t := 24) rfl h5_25 (G.grun (t := 25) rfl rfl rfl (G.q (Quiet.move rfl) rfl (G.grun (t := 25) rfl rfl rfl (G.q (Quiet.int rfl rfl rfl) rfl (G.q (Quiet.pickT rfl rfl) rfl (G.nil (G.then_n ?_)))))))
    refine G.condD rfl (fun h28 => ?_) (fun h28 => ?_)
    ·refine G.region (G.q (Quiet.move rfl) rfl (G.q (Quiet.move rfl) rfl ?_))
     refine G.q (Quiet.to (v' := vstr (s.take (min o.size 66000).toNat)) (Quiet.strTo rfl rfl Tryz.underlying9 (by omega)) rfl) rfl ?_
     refine G.q (Quiet.assign rfl) rfl (G.nil (G.then_n (G.seq (G.region (G.q (Quiet.move rfl) rfl (G.q (Quiet.assign rfl) rfl (G.nil (G.then_n (G.ret ?_)))))))))
     have hr : textZ o = s.take (min o.size 66000).toNat := by unfold textZ cutT; rw [hT, if_pos ⟨h5_25, h28⟩]
     rw [hr]
     exact G.done (l := [.tmp 2]) rfl rfl ⟨rfl, rfl⟩ (by (repeat' constructor)) (by (repeat' constructor))
    ·refine G.skip (G.then_n (G.seq (G.region (G.q (Quiet.move rfl) rfl (G.q (Quiet.assign rfl) rfl (G.nil (G.then_n (G.ret ?_))))))))
     have hr : textZ o = s := by unfold textZ cutT; rw [hT, if_neg (fun g => h28 g.2)]
     rw [hr]
     exact G.done (l := [.tmp 2]) rfl rfl ⟨rfl, rfl⟩ (by (repeat' constructor)) (by (repeat' constructor))
   ·refine G.kDF (t := 24) rfl h5_25 (G.gskip (t := 25) rfl rfl rfl rfl (G.gskip (t := 25) rfl rfl rfl rfl (G.q (Quiet.pickF rfl rfl) rfl (G.nil (G.then_n (G.condF rfl (G.skip (G.then_n (G.seq (G.region (G.q (Quiet.move rfl) rfl (G.q (Quiet.assign rfl) rfl (G.nil (G.then_n (G.ret ?_)))))))))))))))
    have hr : textZ o = s := by unfold textZ cutT; rw [hT, if_neg (fun g => h5_25 g.1)]
    rw [hr]
    exact G.done (l := [.tmp 2]) rfl rfl ⟨rfl, rfl⟩ (by (repeat' constructor)) (by (repeat' constructor))
 ·refine G.kNF (t := 11) rfl h3_12 (G.gskip (t := 12) rfl rfl rfl rfl (G.gskip (t := 12) rfl rfl rfl rfl (G.gskip (t := 12) rfl rfl rfl rfl (G.gskip (t := 12) rfl rfl rfl rfl (G.q (Quiet.pickF rfl rfl) rfl (G.nil (G.then_n (G.condF rfl (G.exit (G.then_e (G.then_e (G.blk_e (G.then_n (G.seq (G.seq ?_)))))))))))))))
  have hT : textF 66001 o.text (min o.size 66000) = s := by rw [← hf]; exact textF_stop (fun g => g.1 h3_12)
  refine G.region (G.q (Quiet.move rfl) rfl (G.q (Quiet.strlen rfl Tryz.underlying9 rfl) rfl (G.q (Quiet.move rfl) rfl (G.q (Quiet.int rfl rfl rfl) rfl (G.q (Quiet.move rfl) rfl ?_)))))
  refine G.dec (t := 25) rfl (fun h5_25 => ?_) (fun h5_25 => ?_)
  ·refine G.kDT (t := 24) rfl h5_25 (G.grun (t := 25) rfl rfl rfl (G.q (Quiet.move rfl) rfl (G.grun (t := 25) rfl rfl rfl (G.q (Quiet.int rfl rfl rfl) rfl (G.q (Quiet.pickT rfl rfl) rfl (G.nil (G.then_n ?_)))))))
   refine G.condD rfl (fun h28 => ?_) (fun h28 => ?_)
   ·refine G.region (G.q (Quiet.move rfl) rfl (G.q (Quiet.move rfl) rfl ?_))
    refine G.q (Quiet.to (v' := vstr (s.take (min o.size 66000).toNat)) (Quiet.strTo rfl rfl Tryz.underlying9 (by omega)) rfl) rfl ?_
    refine G.q (Quiet.assign rfl) rfl (G.nil (G.then_n (G.seq (G.region (G.q (Quiet.move rfl) rfl (G.q (Quiet.assign rfl) rfl (G.nil (G.then_n (G.ret ?_)))))))))
    have hr : textZ o = s.take (min o.size 66000).toNat := by unfold textZ cutT; rw [hT, if_pos ⟨h5_25, h28⟩]
    rw [hr]
    exact G.done (l := [.tmp 2]) rfl rfl ⟨rfl, rfl⟩ (by (repeat' constructor)) (by (repeat' constructor))
   ·refine G.skip (G.then_n (G.seq (G.region (G.q (Quiet.move rfl) rfl (G.q (Quiet.assign rfl) rfl (G.nil (G.then_n (G.ret ?_))))))))
    have hr : textZ o = s := by unfold textZ cutT; rw [hT, if_neg (fun g => h28 g.2)]
    rw [hr]
    exact G.done (l := [.tmp 2]) rfl rfl ⟨rfl, rfl⟩ (by (repeat' constructor)) (by (repeat' constructor))
  ·refine G.kDF (t := 24) rfl h5_25 (G.gskip (t := 25) rfl rfl rfl rfl (G.gskip (t := 25) rfl rfl rfl rfl (G.q (Quiet.pickF rfl rfl) rfl (G.nil (G.then_n (G.condF rfl (G.skip (G.then_n (G.seq (G.region (G.q (Quiet.move rfl) rfl (G.q (Quiet.assign rfl) rfl (G.nil (G.then_n (G.ret ?_)))))))))))))))
   have hr : textZ o = s := by unfold textZ cutT; rw [hT, if_neg (fun g => h5_25 g.1)]
   rw [hr]
   exact G.done (l := [.tmp 2]) rfl rfl ⟨rfl, rfl⟩ (by (repeat' constructor)) (by (repeat' constructor))

set_option maxRecDepth 100000 in
theorem does9_spec (g x d : Nat) (δ : Dk) (ω : Wl) (Λ : Lg) (o : Op9) (k : Int) (p : HP) (N : Int) (h : LLv ⟨δ, ω, Λ⟩ N) (hN : N ≤ 1000000000000) (ho : Op9A p o) : Fn Tryz.prog 32 #[vptr g, .agg (op9K o k).toArray] [lgR g x Λ, wlR x d ω, dkR d δ, p] fun v L => v = vint (lgDoes ⟨δ, ω, Λ⟩ o k).2 ∧ L = [lgR g x (lgDoes ⟨δ, ω, Λ⟩ o k).1.Λ, wlR x d (lgDoes ⟨δ, ω, Λ⟩ o k).1.ω, dkR d (lgDoes ⟨δ, ω, Λ⟩ o k).1.δ, p] := by
 refine Fn.intro (vs := [vptr g, .agg (op9K o k).toArray]) Tryz.func32 rfl rfl ?_
 intro F W
 have hI : WlI δ ω := h.lv.i hN
 have hLI : LgI Λ := h.lw.w.i
 have hup : Λ.zxs.Pairwise (· < ·) := (List.pairwise_cons.1 h.lw.w.rows.up).2
 have hsn : Λ.snap.length ≤ 65536 := h.lw.w.snap
 have hacts : δ.acts ≤ N := h.lv.well.acts
 have hI1 : WlI (lgSync ⟨δ, ω, Λ⟩).1.δ (lgSync ⟨δ, ω, Λ⟩).1.ω := by rw [sync_end ω Λ h.lw.live, (endL_err _ _ _).2.1, (endL_err _ _ _).2.2]; exact sync_I hI (by omega)
 refine G.seq (G.region ?_)
 refine G.op (OpSpec.box rfl) (by (repeat' constructor)) rfl ?nx1
 rintro v L' ⟨b3, rfl, rfl⟩
 refine G.q (Quiet.assign rfl) rfl (G.nil ?_)
 refine G.ptCast (b := b3) (l' := op9K o k) (by (repeat' constructor)) (by exact rfl) ?_
 refine G.then_n (G.seq (G.seq (G.region (G.q (Quiet.fieldAddr rfl fo_73_0) rfl ?_))))
 refine G.q (Quiet.load rfl ag_3 (by (repeat' constructor)) (rfl)) rfl ?_
 refine G.nil (G.then_n (G.block (G.seq (G.region (G.q (Quiet.int rfl rfl rfl) rfl (G.q (Quiet.assign rfl) rfl (G.nil (G.then_n ?_))))))))
 refine G.condD rfl (fun h7 => ?_) (fun h7 => ?_)
 ·refine G.seq (G.region (G.q (Quiet.move rfl) rfl (G.q (Quiet.fieldAddr rfl fo_73_3) rfl ?_)))
  refine G.q (Quiet.loadAs (vs := enC o.e) rfl ag_38 (by (repeat' constructor)) (by simp [op9K, op9C, enC, ptC]) rfl) rfl ?_
  refine G.op (OpSpec.call Tryz.func13 rfl rfl (vs := [_, _]) rfl (lappend_spec g x d δ ω Λ o.e p ho.e hI hLI)) (by (repeat' constructor)) rfl ?nx10
  rintro v L' ⟨rfl, rfl⟩
  refine G.q (Quiet.assign rfl) rfl (G.nil (G.then_n (G.ret (G.blk_r (G.then_r ?_)))))
  have hr : lgDoes ⟨δ, ω, Λ⟩ o k = lgAppend ⟨δ, ω, Λ⟩ o.e := by unfold lgDoes; rw [if_pos h7]
  rw [hr]
  exact G.done (l := [.tmp 4]) rfl rfl ⟨rfl, rfl⟩ (by (repeat' constructor)) (by (repeat' constructor))
 ·refine G.seq (G.region (G.q (Quiet.int rfl rfl rfl) rfl (G.q (Quiet.assign rfl) rfl (G.nil (G.then_n ?_)))))
  refine G.condD rfl (fun h13 => ?_) (fun h13 => ?_)
  ·refine G.seq (G.region (G.q (Quiet.move rfl) rfl ?_))
   refine G.op (OpSpec.call Tryz.func28 rfl rfl (vs := [_]) rfl (lsync_spec g x d δ ω Λ hI)) (by (repeat' constructor)) rfl ?nx14
   rintro v L' ⟨rfl, rfl⟩
   refine G.q (Quiet.assign rfl) rfl (G.nil (G.then_n (G.ret (G.blk_r (G.then_r ?_)))))
   have hr : lgDoes ⟨δ, ω, Λ⟩ o k = lgSync ⟨δ, ω, Λ⟩ := by unfold lgDoes; rw [if_neg h7, if_pos h13]
   rw [hr]
   exact G.done (l := [.tmp 4]) rfl rfl ⟨rfl, rfl⟩ (by (repeat' constructor)) (by (repeat' constructor))
  ·refine G.seq (G.region (G.q (Quiet.int rfl rfl rfl) rfl (G.q (Quiet.assign rfl) rfl (G.nil (G.then_n ?_)))))
   refine G.condD rfl (fun h17 => ?_) (fun h17 => ?_)
   ·refine G.seq (G.region (G.q (Quiet.move rfl) rfl (G.q (Quiet.fieldAddr rfl fo_73_1) rfl ?_)))
    refine G.q (Quiet.load rfl ag_3 (by (repeat' constructor)) (rfl)) rfl ?_
    refine G.op (OpSpec.call Tryz.func39 rfl rfl (vs := [_, _]) rfl (laccept_spec g x d δ ω Λ o.n hI)) (by (repeat' constructor)) rfl ?nx20
    rintro v L' ⟨rfl, rfl⟩
    refine G.q (Quiet.assign rfl) rfl (G.nil (G.then_n (G.ret (G.blk_r (G.then_r ?_)))))
    have hr : lgDoes ⟨δ, ω, Λ⟩ o k = lgAccept ⟨δ, ω, Λ⟩ o.n := by unfold lgDoes; rw [if_neg h7, if_neg h13, if_pos h17]
    rw [hr]
    exact G.done (l := [.tmp 4]) rfl rfl ⟨rfl, rfl⟩ (by (repeat' constructor)) (by (repeat' constructor))
   ·refine G.seq (G.region (G.q (Quiet.int rfl rfl rfl) rfl (G.q (Quiet.assign rfl) rfl (G.nil (G.then_n ?_)))))
    refine G.condD rfl (fun h23 => ?_) (fun h23 => ?_)
    ·refine G.seq (G.region (G.q (Quiet.move rfl) rfl (G.q (Quiet.fieldAddr rfl fo_73_1) rfl ?_)))
     refine G.q (Quiet.load rfl ag_3 (by (repeat' constructor)) (rfl)) rfl ?_
     refine G.op (OpSpec.call Tryz.func43 rfl rfl (vs := [_, _]) rfl (ladopt_spec g x d δ ω Λ o.n hI hI1)) (by (repeat' constructor)) rfl ?nx26
     rintro v L' ⟨rfl, rfl⟩
     refine G.q (Quiet.assign rfl) rfl (G.nil (G.then_n (G.ret (G.blk_r (G.then_r ?_)))))
     have hr : lgDoes ⟨δ, ω, Λ⟩ o k = lgAdopt ⟨δ, ω, Λ⟩ o.n := by unfold lgDoes; rw [if_neg h7, if_neg h13, if_neg h17, if_pos h23]
     rw [hr]
     exact G.done (l := [.tmp 4]) rfl rfl ⟨rfl, rfl⟩ (by (repeat' constructor)) (by (repeat' constructor))
    ·refine G.seq (G.region (G.q (Quiet.int rfl rfl rfl) rfl (G.q (Quiet.assign rfl) rfl (G.nil (G.then_n ?_)))))
     refine G.condD rfl (fun h29 => ?_) (fun h29 => ?_)
     ·refine G.seq (G.region (G.q (Quiet.move rfl) rfl (G.q (Quiet.fieldAddr rfl fo_73_1) rfl ?_)))
      refine G.q (Quiet.load rfl ag_3 (by (repeat' constructor)) (rfl)) rfl ?_
      refine G.op (OpSpec.call Tryz.func27 rfl rfl (vs := [_, _]) rfl (lcut_spec g x d δ ω Λ o.n hI hLI hup hsn)) (by (repeat' constructor)) rfl ?nx32
      rintro v L' ⟨rfl, rfl⟩
      refine G.q (Quiet.assign rfl) rfl (G.nil (G.then_n (G.ret (G.blk_r (G.then_r ?_)))))
      have hr : lgDoes ⟨δ, ω, Λ⟩ o k = lgCut ⟨δ, ω, Λ⟩ o.n := by unfold lgDoes; rw [if_neg h7, if_neg h13, if_neg h17, if_neg h23, if_pos h29]
      rw [hr]
      exact G.done (l := [.tmp 4]) rfl rfl ⟨rfl, rfl⟩ (by (repeat' constructor)) (by (repeat' constructor))
     ·refine G.seq (G.region (G.q (Quiet.int rfl rfl rfl) rfl (G.q (Quiet.assign rfl) rfl (G.nil (G.then_n ?_)))))
      refine G.condD rfl (fun h35 => ?_) (fun h35 => ?_)
      ·refine G.seq ?_
       refine G.draw [7] [[0, 1, 2, 3, 4, 5, 6, 7], [8]] mixed (by kernel_rfl) ?_
       refine Phases.go [ptc b3 _ _] (by (repeat' constructor)) ?_
       refine D.qw [7] rfl (by kernel_rfl) (Quiet.move rfl) ?_
       refine D.qw [2, 7] rfl (by kernel_rfl) (Quiet.fieldAddr rfl fo_73_1) ?_
       refine D.qw [7] rfl (by kernel_rfl) (Quiet.load rfl ag_3 (by (repeat' constructor)) (rfl)) ?_
       refine D.qw [4, 7] rfl (by kernel_rfl) (Quiet.loadAs (vs := op9K o k) rfl ag_73 (by (repeat' constructor)) (by simp [op9K, op9C, enC, ptC]) rfl) ?_
       refine D.m rfl (by kernel_rfl) (OpSpec.call Tryz.func79 rfl rfl (vs := [_]) rfl (text9_spec o k ho.text)) (by (repeat' constructor)) ?nx39
       refine D.qw [6, 7] rfl (by kernel_rfl) (Quiet.fieldAddr rfl fo_73_4) ?_
       refine D.qw [7] rfl (by kernel_rfl) (Quiet.load rfl ag_22 (by (repeat' constructor)) (rfl)) ?_
       refine D.h rfl (by kernel_rfl) (OpSpec.call Tryz.func78 rfl rfl (vs := [_, _, _, _]) rfl (linstall_spec g x d δ ω Λ o.n (textZ o) o.lv o.l p hI ho.n ho.l (by have := ho.len; omega) ho.x)) (by (repeat' constructor)) ?nx43
       rintro v L' ⟨rfl, rfl⟩
       refine D.ph ?_
       refine Phases.go [] (by (repeat' constructor)) ?_
       refine D.qw [] rfl (by kernel_rfl) (Quiet.assign rfl) ?_
       refine D.ph (Phases.fin (G.then_n (G.ret (G.blk_r (G.then_r ?_)))))
       have hr : lgDoes ⟨δ, ω, Λ⟩ o k = lgInstall ⟨δ, ω, Λ⟩ o.n (textZ o) o.l := by unfold lgDoes; rw [if_neg h7, if_neg h13, if_neg h17, if_neg h23, if_neg h29, if_pos h35]
       rw [hr]
       exact G.done (l := [.tmp 4]) rfl rfl ⟨rfl, rfl⟩ (by (repeat' constructor)) (by (repeat' constructor))
      ·refine G.skip (G.blk_n (G.then_n (G.seq ?_)))
       refine G.draw [5] [[0, 1, 2, 3, 4, 5], [6]] mixed (by kernel_rfl) ?_
       refine Phases.go [ptc b3 _ _] (by (repeat' constructor)) ?_
       refine D.qw [5] rfl (by kernel_rfl) (Quiet.move rfl) ?_
       refine D.qw [2, 5] rfl (by kernel_rfl) (Quiet.fieldAddr rfl fo_73_1) ?_
       refine D.qw [5] rfl (by kernel_rfl) (Quiet.load rfl ag_3 (by (repeat' constructor)) (rfl)) ?_
       refine D.qw [4, 5] rfl (by kernel_rfl) (Quiet.loadAs (vs := op9K o k) rfl ag_73 (by (repeat' constructor)) (by simp [op9K, op9C, enC, ptC]) rfl) ?_
       refine D.m rfl (by kernel_rfl) (OpSpec.call Tryz.func79 rfl rfl (vs := [_]) rfl (text9_spec o k ho.text)) (by (repeat' constructor)) ?nx49
       refine D.h rfl (by kernel_rfl) (OpSpec.call Tryz.func80 rfl rfl (vs := [_, _, _]) rfl (lcompact_spec g x d δ ω Λ o.n (textZ o) hI hLI hup ho.n)) (by (repeat' constructor)) ?nx51
       rintro v L' ⟨rfl, rfl⟩
       refine D.ph ?_
       refine Phases.go [] (by (repeat' constructor)) ?_
       refine D.qw [] rfl (by kernel_rfl) (Quiet.assign rfl) ?_
       refine D.ph (Phases.fin (G.then_n (G.ret ?_)))
       have hr : lgDoes ⟨δ, ω, Λ⟩ o k = lgCompact ⟨δ, ω, Λ⟩ o.n (textZ o) := by unfold lgDoes; rw [if_neg h7, if_neg h13, if_neg h17, if_neg h23, if_neg h29, if_neg h35]
       rw [hr]
       exact G.done (l := [.tmp 4]) rfl rfl ⟨rfl, rfl⟩ (by (repeat' constructor)) (by (repeat' constructor))

end Go.Proofs.YtidjhgbdokcphaaGreat

