/- Own work: the calls of a log on a disk that may die: what they leave. -/
import Derived.Test.YtepncdidkjjllaaL4J
namespace Go.Proofs.Ytepncdidkjjllaa
open Go

theorem Dur.re {δ δ0 : Dk} {area : Int} {L : Bs} (h : Dur δ δ0 area L) : Dur δ δ area L := ⟨rfl, fun _ _ => rfl, h.marks, h.here, h.olds⟩
theorem lv_arm {δ : Dk} {ω : Wl} {N : Int} (h : Lv δ ω N) {n : Int} (hn : 0 ≤ n) : (δ.arm n).2 = 0 ∧ Lv (δ.arm n).1 ω N := by
  have e : δ.arm n = ({ δ with left := n }, 0) := by unfold Dk.arm; rw [if_neg (by rw [h.dead]; decide), if_neg (by omega)]
  rw [e]
  exact ⟨rfl, h.dead, h.well, h.kp.calm rfl, (h.dur.of (δ' := { δ with left := n }) rfl (.inl rfl)).re⟩
theorem dur_clean {δ : Dk} {ω : Wl} (h : Kp δ ω) (ho : δ.old = []) : Dur δ δ ω.area (laidZ (ω.recs.take ω.synced.toNat)) :=
  ⟨rfl, fun _ _ => rfl, fun k _ => by rw [ho]; rfl, h.area.less (laid_pre _ _), fun i _ o g => by rw [ho] at g; cases g⟩
theorem next_dead {δ : Dk} {m : Mk} (hd : δ.dead = false) (hn : 2 ≤ δ.now.length) (hm : alook δ.old (m.count % 2) = none) (h : (nextZ δ m).2 ≠ 0) :
    (nextZ δ m).1.now = δ.now.set (m.count % 2).toNat m.sec ∧ ∀ k : Int, alook (nextZ δ m).1.old k = if k = m.count % 2 then some (δ.now.getD (m.count % 2).toNat []) else alook δ.old k := by
  have hh : δ.has (m.count % 2) = true := by simp [Dk.has]; omega
  have e : δ.write (m.count % 2) m.sec = (δ.put (m.count % 2) m.sec).act := by unfold Dk.write; rw [if_neg (by rw [hd]; decide), if_neg (by rw [hh]; simp [sec_len4])]
  have hold : ∀ k : Int, alook (δ.put (m.count % 2) m.sec).old k = if k = m.count % 2 then some (δ.now.getD (m.count % 2).toNat []) else alook δ.old k := by
    intro k
    rw [put_old]
    by_cases hk : k = m.count % 2
    · rw [if_pos hk, if_pos ⟨hm, hk⟩]
    · rw [if_neg hk, if_neg (fun g => hk g.2)]
  unfold nextZ at h ⊢
  rw [e] at h ⊢
  by_cases h1 : (δ.put (m.count % 2) m.sec).act.2 ≠ 0
  · rw [if_pos h1]; exact ⟨rfl, hold⟩
  · rw [if_neg h1] at h ⊢
    by_cases h2 : (δ.put (m.count % 2) m.sec).act.1.sync.2 ≠ 0
    · rw [if_pos h2]
      refine ⟨(sync_keeps _).1, fun k => ?_⟩
      have : (δ.put (m.count % 2) m.sec).act.1.sync.1.old = (δ.put (m.count % 2) m.sec).act.1.old := by
        unfold Dk.sync at h2 ⊢
        split
        · rfl
        · rename_i h3
          rw [if_neg h3] at h2
          split
          · rename_i h4; rw [if_pos h4] at h2; exact absurd rfl h2
          · rfl
      dsimp only
      rw [this]; exact hold k
    · rw [if_neg h2] at h; exact absurd rfl h
def Wl.sealed (ω : Wl) (area : Int) (l : List Bs) : Wl := { ω with recs := l, synced := l.length, area := area, count := ω.count + 1 }
theorem sealed_now (ω : Wl) (area : Int) (l : List Bs) : (ω.sealed area l).now = ω.mark area l ω.a ω.b := by
  unfold Wl.now Wl.sealed Wl.mark
  dsimp only
  rw [Int.toNat_natCast, List.take_length]
theorem seal_live {δ : Dk} {ω : Wl} {area : Int} {l : List Bs} (h : (dbt (sealZ δ ω area l)).2.2 ≠ 2) : (dbt (sealZ δ ω area l)).2 = (ω.sealed area l, 0) := by
  have h0 : (sealZ δ ω area l).2.2 = 0 := by
    rcases seal_err δ ω area l with h1 | h1
    · exact h1
    · rw [(dbt_err _).1] at h; exact absurd h1 h
  rw [dbt_of h0]
  unfold sealZ at h0 ⊢
  split
  · rename_i h1; rw [if_pos h1] at h0; cases h0
  · rename_i h1; rw [if_neg h1] at h0
    split
    · rename_i h2; rw [if_pos h2] at h0; cases h0
    · rfl
theorem seal_dead {δ δ1 : Dk} {ω : Wl} {N : Int} {area : Int} {l : List Bs} (h : Lv δ ω N) (hD : Dur δ1 δ ω.area (laidZ (ω.recs.take ω.synced.toNat))) (hd1 : δ1.dead = false) (hac : δ1.acts ≤ N + 1900000) (har : 0 ≤ area ∧ area ≤ 1) (hA : Area δ1 area (laidZ l)) (hl : ((laidZ l).length : Int) ≤ 64 * halfZ δ) (hL : ∀ s ∈ l, s.length ≤ 4000) (hc : ω.count ≠ 4294967295)
    (he : (dbt (sealZ δ1 ω area l)).2.2 = 2) (hok : (dbt (sealZ δ1 ω area l)).1.Ok) (how : List Int) :
    (Lv ((dbt (sealZ δ1 ω area l)).1.crash how) ω.syn (N + 2000000) ∧ openZ ((dbt (sealZ δ1 ω area l)).1.crash how) = some ω.syn) ∨ (Lv ((dbt (sealZ δ1 ω area l)).1.crash how) (ω.sealed area l) (N + 2000000) ∧ openZ ((dbt (sealZ δ1 ω area l)).1.crash how) = some (ω.sealed area l)) := by
  obtain ⟨b1, b2⟩ := dbt_err (sealZ δ1 ω area l)
  rw [b1] at he
  rw [b2] at hok ⊢
  have sk := sync_keeps δ1
  have nk := nextZ_keeps δ1.sync.1 (ω.mark area l ω.a ω.b)
  have hsz : 2 ≤ δ.now.length ∧ δ.now.length ≤ 32768 := h.well.size
  have hl0 := hD.len
  have hcnt := h.kp.cnt
  have hct := h.well.count
  unfold sealZ at he hok ⊢
  by_cases h1 : δ1.sync.2 ≠ 0
  · rw [if_pos h1] at hok ⊢
    exact .inl (crash_old h (hD.of sk.1 (sync_old δ1)) hok (by omega) how)
  · rw [if_neg h1] at he hok ⊢
    have h1' : δ1.sync.2 = 0 := by omega
    obtain ⟨-, q2, q3⟩ := calm_sync hd1 h1'
    by_cases h2 : (nextZ δ1.sync.1 (ω.mark area l ω.a ω.b)).2 ≠ 0
    · rw [if_pos h2] at hok ⊢
      obtain ⟨n1, n2⟩ := next_dead (m := ω.mark area l ω.a ω.b) q2 (by rw [sk.1]; omega) (by rw [q3]; rfl) h2
      have hDs : Dur δ1.sync.1 δ ω.area (laidZ (ω.recs.take ω.synced.toNat)) := hD.of sk.1 (.inr q3)
      have hA2 : Area δ1.sync.1 area (laidZ l) := by
        intro i hi
        have hh : halfZ δ1.sync.1 = halfZ δ1 := halfZ_of (by rw [sk.1])
        rw [hh] at hi ⊢
        rw [sk.1]; exact hA i hi
      refine crash_mark (δ1 := δ1.sync.1) (ω1 := ω.sealed area l) h hDs ⟨hDs.len, hDs.mark, hDs.marks, hA2, fun i _ o g => by rw [q3] at g; cases g⟩ hok (by show (nextZ δ1.sync.1 (ω.mark area l ω.a ω.b)).1.acts ≤ _; omega) ?_ ?_ rfl (by show ω.count + 1 ≤ _; omega) h.well.doubt rfl har h.kp.a h.kp.b hL hl how
      · rw [sealed_now]; exact n1
      · exact n2
    · rw [if_neg h2] at he; cases he
def Wl.marked (ω : Wl) (a b : Int) : Wl := { ω.syn with a := a, b := b, count := ω.count + 1 }
theorem marked_now {ω : Wl} (a b : Int) (h : 0 ≤ ω.synced ∧ ω.synced ≤ ω.recs.length) : (ω.marked a b).now = ω.mark ω.area (ω.recs.take ω.synced.toNat) a b := by
  have e := syn_recs h
  unfold Wl.now Wl.mark Wl.marked
  show (⟨ω.count + 1, ω.area, ((laidZ (ω.syn.recs.take ω.syn.synced.toNat)).length : Int), ω.synced, a, b⟩ : Mk) = ⟨ω.count + 1, ω.area, ((laidZ (ω.recs.take ω.synced.toNat)).length : Int), ((ω.recs.take ω.synced.toNat).length : Int), a, b⟩
  rw [e.1, show ((ω.recs.take ω.synced.toNat).length : Int) = ω.synced from e.2]
theorem setm_dead {δ : Dk} {ω : Wl} {N a b : Int} (h : Lv δ ω N) (ha : 0 ≤ a ∧ a ≤ 9223372036854775807) (hb : 0 ≤ b ∧ b ≤ 9223372036854775807) (hc : ω.count ≠ 4294967295) (he : (nextZ δ (ω.mark ω.area (ω.recs.take ω.synced.toNat) a b)).2 ≠ 0)
    (hok : (nextZ δ (ω.mark ω.area (ω.recs.take ω.synced.toNat) a b)).1.Ok) (how : List Int) :
    (Lv ((nextZ δ (ω.mark ω.area (ω.recs.take ω.synced.toNat) a b)).1.crash how) ω.syn (N + 2000000) ∧ openZ ((nextZ δ (ω.mark ω.area (ω.recs.take ω.synced.toNat) a b)).1.crash how) = some ω.syn) ∨
    (Lv ((nextZ δ (ω.mark ω.area (ω.recs.take ω.synced.toNat) a b)).1.crash how) (ω.marked a b) (N + 2000000) ∧ openZ ((nextZ δ (ω.mark ω.area (ω.recs.take ω.synced.toNat) a b)).1.crash how) = some (ω.marked a b)) := by
  have nk := nextZ_keeps δ (ω.mark ω.area (ω.recs.take ω.synced.toNat) a b)
  have hsz : 2 ≤ δ.now.length ∧ δ.now.length ≤ 32768 := h.well.size
  have hac : δ.acts ≤ N := h.well.acts
  have hct := h.well.count
  have hfit : ((laidZ ω.recs).length : Int) ≤ 64 * halfZ δ := h.well.fits
  have htl := laid_take_le ω.recs ω.synced.toNat
  have hms : alook δ.old ((ω.count + 1) % 2) = none := by
    have := h.dur.marks ((ω.count + 1) % 2).toNat (by omega)
    rw [show (((ω.count + 1) % 2).toNat : Int) = (ω.count + 1) % 2 by omega] at this
    exact this
  obtain ⟨n1, n2⟩ := next_dead (m := ω.mark ω.area (ω.recs.take ω.synced.toNat) a b) h.dead hsz.1 hms he
  refine crash_mark (δ1 := δ) (ω1 := ω.marked a b) h h.dur h.dur hok (by omega) ?_ n2 rfl (by show ω.count + 1 ≤ _; omega) rfl (syn_recs h.well.synced).2.symm h.well.area ha hb (fun s hs => h.kp.long s (List.mem_of_mem_take hs)) ?_ how
  · rw [marked_now a b h.well.synced]; exact n1
  · show ((laidZ (ω.recs.take ω.synced.toNat)).length : Int) ≤ _; omega
/-- What a call leaves: alive, or behind any crash. -/
structure Res (δ : Dk) (ω : Wl) (N : Int) (r : Dk × Wl × Int) (B : Sta × Bool) (k : Int) : Prop where
  live : r.2.2 ≠ 2 → Lv r.1 r.2.1 (N + 2000000)
  same : r.2.2 = 0 → B.2 = true → k ≠ 5 → sameZ r.2.1 B.1 = true
  dead : r.2.2 = 2 → r.1.Ok → ∀ how, ∃ ω', Lv (r.1.crash how) ω' (N + 2000000) ∧ openZ (r.1.crash how) = some ω' ∧ (sameZ ω' (toldZ ω false, ω.a, ω.b) = true ∨ (B.2 = true ∧ sameZ ω' B.1 = true))
theorem Lv.more {δ : Dk} {ω : Wl} {N M : Int} (h : Lv δ ω N) (hN : N ≤ M) : Lv δ ω M := ⟨h.dead, h.well.more hN, h.kp, h.dur⟩
theorem same_syn {ω : Wl} (hd : ω.doubt = false) (h : 0 ≤ ω.synced ∧ ω.synced ≤ ω.recs.length) : sameZ ω.syn (toldZ ω false, ω.a, ω.b) = true := by
  have e := (syn_recs h).2
  have e1 : toldZ ω false = ω.syn.recs := by unfold toldZ tl Wl.syn; rw [hd]; rfl
  have e2 : tl ω.syn = ω.syn.recs := rfl
  have e3 : ω.syn.synced = (ω.syn.recs.length : Int) := e.symm
  unfold sameZ
  rw [e1, e2]
  simp only [decide_true, Bool.true_and]
  rw [decide_eq_true e3]
  simp [Wl.syn]
theorem Res.of {δ : Dk} {ω : Wl} {N : Int} (h : Lv δ ω N) {e : Int} {B : Sta × Bool} {k : Int} (he : e ≠ 2) (hs : e = 0 → B.2 = true → k ≠ 5 → sameZ ω B.1 = true) : Res δ ω N (δ, ω, e) B k :=
  ⟨fun _ => h.more (by omega), hs, fun g => absurd g he⟩
/-- Alive, as on a disk that is not armed. -/
theorem live_of {δ δ' : Dk} {ω ω' : Wl} {N : Int} (hd : δ'.dead = false) (hw : Well δ'.calm ω' (N + 2000000)) (hk : Kp δ'.calm ω') (hD : δ'.old = [] ∨ (Dur δ' δ ω.area (laidZ (ω.recs.take ω.synced.toNat)) ∧ ω'.area = ω.area ∧ ω'.recs.take ω'.synced.toNat = ω.recs.take ω.synced.toNat)) : Lv δ' ω' (N + 2000000) := by
  have hk2 : Kp δ' ω' := hk.calm rfl
  refine ⟨hd, hw, hk2, ?_⟩
  rcases hD with h | ⟨h, e1, e2⟩
  · exact dur_clean hk2 h
  · rw [e1, e2]; exact h.re
theorem seal_res {δ δ1 : Dk} {ω : Wl} {N : Int} {area : Int} {l : List Bs} {B : Sta} {k : Int} (h : Lv δ ω N) (hD : Dur δ1 δ ω.area (laidZ (ω.recs.take ω.synced.toNat))) (hd1 : δ1.dead = false) (hac : δ1.acts ≤ N + 1900000) (har : 0 ≤ area ∧ area ≤ 1) (hA : Area δ1 area (laidZ l)) (hl : ((laidZ l).length : Int) ≤ 64 * halfZ δ) (hL : ∀ s ∈ l, s.length ≤ 4000) (hc : ω.count ≠ 4294967295)
    (hB : B = (l, ω.a, ω.b)) : Res δ ω N (dbt (sealZ δ1 ω area l)) (B, true) k := by
  subst hB
  have hsame : sameZ (ω.sealed area l) (l, ω.a, ω.b) = true := by
    unfold sameZ tl Wl.sealed
    simp [h.well.doubt]
  have hlen : δ1.now.length = δ.now.length := hD.len
  refine ⟨fun g => ?_, fun g _ _ => ?_, fun g hok how => ?_⟩
  · obtain ⟨q1, q2, q3, q4⟩ := calm_dseal hd1 g
    have hs := seal_live g
    have w := (well_seal (δ1 := δ1.calm) h.well hc har hl ⟨hd1, rfl⟩ hlen hac).2.1
    have kq := (kp_seal (δ := δ.calm) (δ1 := δ1.calm) (h.kp.calm rfl) h.well hc har hl ⟨hd1, rfl⟩ hlen hac (fun k hk => hD.mark k hk) hA hL).kp
    rw [q1] at w kq
    rw [hs] at kq ⊢
    exact live_of (δ := δ) (ω := ω) q2 w kq (.inl q3)
  · rw [seal_live (by rw [g]; decide)]; exact hsame
  · rcases seal_dead h hD hd1 hac har hA hl hL hc g hok how with ⟨q1, q2⟩ | ⟨q1, q2⟩
    · exact ⟨_, q1, q2, .inl (same_syn h.well.doubt h.well.synced)⟩
    · exact ⟨_, q1, q2, .inr ⟨rfl, hsame⟩⟩
theorem lay_live {δ : Dk} {ω : Wl} {N : Int} {a2 : Int} {all : Bs} {frm : Nat} (h : Lv δ ω N) (ha : 0 ≤ a2 ∧ a2 ≤ 1) (hl : (all.length : Int) ≤ 64 * halfZ δ) (hp : a2 = ω.area → laidZ (ω.recs.take ω.synced.toNat) <+: all) : Dur (layZ δ a2 all frm).1 δ ω.area (laidZ (ω.recs.take ω.synced.toNat)) :=
  Dur.lay _ _ h.dur h.well.area ha h.well.size.1 hl hp
theorem append_res {δ : Dk} {ω : Wl} {N : Int} (h : Lv δ ω N) (s : Bs) {B : Sta} : Res δ ω N (appendZ δ ω s) (B, false) 1 := by
  have hw := h.well
  have hdb := hw.doubt
  have hm := kp_append (h.kp.calm (δ' := δ.calm) rfl) hw s
  have hwl := (well_append hw s).1
  by_cases h1 : s.length > 4000
  · have e : appendZ δ ω s = (δ, ω, 33) := by unfold appendZ; rw [if_neg (by rw [hdb]; decide), if_pos h1]
    rw [e]; exact Res.of h (by decide) (fun g => absurd g (by decide))
  by_cases h2 : ¬ ((laidZ ω.recs).length : Int) + s.length + 6 ≤ 64 * halfZ δ
  · have e : appendZ δ ω s = (δ, ω, 30) := by unfold appendZ; rw [if_neg (by rw [hdb]; decide), if_neg h1, if_pos h2]
    rw [e]; exact Res.of h (by decide) (fun g => absurd g (by decide))
  have hlen : (laidZ ω.recs ++ recZ s).length = (laidZ ω.recs).length + s.length + 6 := by rw [List.length_append, recZ_len]; omega
  have hsz : 2 ≤ δ.now.length ∧ δ.now.length ≤ 32768 := hw.size
  have hac : δ.acts ≤ N := hw.acts
  have hh := half_le hsz
  have hDl : Dur (layZ δ ω.area (laidZ ω.recs ++ recZ s) (laidZ ω.recs).length).1 δ ω.area (laidZ (ω.recs.take ω.synced.toNat)) := lay_live h hw.area (by omega) (fun _ => (laid_pre _ _).trans (List.prefix_append _ _))
  have ak := layZ_keeps δ ω.area (laidZ ω.recs ++ recZ s) (laidZ ω.recs).length
  by_cases h3 : (layZ δ ω.area (laidZ ω.recs ++ recZ s) (laidZ ω.recs).length).2 = 0
  · have e : appendZ δ ω s = ((layZ δ ω.area (laidZ ω.recs ++ recZ s) (laidZ ω.recs).length).1, { ω with recs := ω.recs ++ [s] }, 0) := by
      unfold appendZ; rw [if_neg (by rw [hdb]; decide), if_neg h1, if_neg h2, if_neg (by rw [h3]; decide)]
    obtain ⟨q1, q2⟩ := calm_layZ h.dead h3
    have e2 : appendZ δ.calm ω s = ((layZ δ ω.area (laidZ ω.recs ++ recZ s) (laidZ ω.recs).length).1.calm, { ω with recs := ω.recs ++ [s] }, 0) := by
      unfold appendZ; rw [show halfZ δ.calm = halfZ δ from rfl, if_neg (by rw [hdb]; decide), if_neg h1, if_neg h2, q1, if_neg (show ¬ (0 : Int) ≠ 0 by decide)]
    rw [e2] at hm hwl
    rw [e]
    refine ⟨fun _ => live_of (δ := δ) (ω := ω) q2 hwl hm.kp (.inr ⟨hDl, rfl, ?_⟩), fun _ g => (by cases g), fun g => (by cases g)⟩
    show (ω.recs ++ [s]).take ω.synced.toNat = _
    exact List.take_append_of_le_length (by have := hw.synced; omega)
  · have h4 : (layZ δ ω.area (laidZ ω.recs ++ recZ s) (laidZ ω.recs).length).2 = 2 := by rcases layZ_err δ ω.area (laidZ ω.recs ++ recZ s) (laidZ ω.recs).length with g | g; exact absurd g h3; exact g
    have e : appendZ δ ω s = ((layZ δ ω.area (laidZ ω.recs ++ recZ s) (laidZ ω.recs).length).1, { ω with doubt := true }, 2) := by
      unfold appendZ; rw [if_neg (by rw [hdb]; decide), if_neg h1, if_neg h2, if_pos h3, h4]; rfl
    rw [e]
    refine ⟨fun g => absurd rfl g, fun g => (by cases g), fun _ hok how => ?_⟩
    obtain ⟨q1, q2⟩ := crash_old (M := N + 2000000) h hDl hok (by show (layZ δ ω.area (laidZ ω.recs ++ recZ s) (laidZ ω.recs).length).1.acts ≤ _; omega) how
    exact ⟨_, q1, q2, .inl (same_syn hdb hw.synced)⟩
theorem sync_res {δ : Dk} {ω : Wl} {N : Int} (h : Lv δ ω N) {k : Int} : Res δ ω N (syncZ δ ω) ((toldZ ω true, ω.a, ω.b), true) k := by
  have hdb := h.well.doubt
  have et : toldZ ω true = ω.recs := by unfold toldZ tl; rw [hdb]; rfl
  unfold syncZ
  rw [if_neg (by rw [hdb]; decide)]
  split
  · rename_i hs
    exact Res.of h (by decide) (fun _ _ _ => sameZ_self hs)
  · split
    · exact Res.of h (by decide) (fun g => absurd g (by decide))
    · rename_i hc
      exact seal_res h h.dur h.dead (by have : δ.acts ≤ N := h.well.acts; omega) h.well.area h.kp.area h.well.fits h.kp.long hc (by rw [et])
theorem cut_res {δ : Dk} {ω : Wl} {N : Int} (h : Lv δ ω N) (n : Int) {k : Int} : Res δ ω N (cutZ δ ω n) (if n < 0 ∨ n > (tl ω).length then ((toldZ ω false, ω.a, ω.b), false) else (((tl ω).take n.toNat, ω.a, ω.b), true)) k := by
  have hdb := h.well.doubt
  have et : tl ω = ω.recs := by unfold tl; rw [hdb]; rfl
  rw [et]
  unfold cutZ
  rw [if_neg (by rw [hdb]; decide)]
  split
  · exact Res.of h (by decide) (fun g => absurd g (by decide))
  · split
    · exact Res.of h (by decide) (fun g => absurd g (by decide))
    · rename_i hc
      have h1 := laid_take_le ω.recs n.toNat
      have h2 : ((laidZ ω.recs).length : Int) ≤ 64 * halfZ δ := h.well.fits
      exact seal_res h h.dur h.dead (by have : δ.acts ≤ N := h.well.acts; omega) h.well.area (h.kp.area.less (laid_pre _ _)) (by omega) (fun s hs => h.kp.long s (List.mem_of_mem_take hs)) hc rfl
theorem renew_res {δ : Dk} {ω : Wl} {N : Int} (h : Lv δ ω N) (l : List Bs) {k : Int} : Res δ ω N (renewZ δ ω l) ((l, ω.a, ω.b), true) k := by
  have hdb := h.well.doubt
  unfold renewZ
  rw [if_neg (by rw [hdb]; decide)]
  split
  · exact Res.of h (by decide) (fun g => absurd g (by decide))
  · split
    · exact Res.of h (by decide) (fun g => absurd g (by decide))
    · split
      · exact Res.of h (by decide) (fun g => absurd g (by decide))
      · rename_i h1 h2 h3
        have hl : ((laidZ l).length : Int) ≤ 64 * halfZ δ := by omega
        have ha : 0 ≤ 1 - ω.area ∧ 1 - ω.area ≤ 1 := by have := h.well.area; omega
        have hsz : 2 ≤ δ.now.length ∧ δ.now.length ≤ 32768 := h.well.size
        have hac : δ.acts ≤ N := h.well.acts
        have hh := half_le hsz
        have ak := layZ_keeps δ (1 - ω.area) (laidZ l) 0
        have hDl : Dur (layZ δ (1 - ω.area) (laidZ l) 0).1 δ ω.area (laidZ (ω.recs.take ω.synced.toNat)) := lay_live h ha hl (fun g => by have := h.well.area; omega)
        split
        · rename_i h4
          have h5 : (layZ δ (1 - ω.area) (laidZ l) 0).2 = 2 := by rcases layZ_err δ (1 - ω.area) (laidZ l) 0 with g | g; exact absurd g h4; exact g
          rw [h5]
          refine ⟨fun g => absurd rfl g, fun g => (by cases g), fun _ hok how => ?_⟩
          obtain ⟨q1, q2⟩ := crash_old (M := N + 2000000) h hDl hok (by show (layZ δ (1 - ω.area) (laidZ l) 0).1.acts ≤ _; omega) how
          exact ⟨_, q1, q2, .inl (same_syn hdb h.well.synced)⟩
        · rename_i h4
          have h5 : (layZ δ (1 - ω.area) (laidZ l) 0).2 = 0 := by omega
          obtain ⟨q1, q2⟩ := calm_layZ h.dead h5
          have hAf : Area (layZ δ (1 - ω.area) (laidZ l) 0).1 (1 - ω.area) (laidZ l) := by
            have g := area_fresh (δ := δ.calm) ⟨h.dead, rfl⟩ ha hsz.1 hl
            rw [q1] at g; exact g
          refine seal_res h hDl q2 (by omega) ha hAf hl (fun s hs => ?_) (by omega) rfl
          have h1' : l.any (fun s => decide (s.length > 4000)) = false := by simpa using h1
          have := List.any_eq_false.1 h1' s hs
          simpa using this
theorem setm_res {δ : Dk} {ω : Wl} {N : Int} (h : Lv δ ω N) {a b : Int} (ha : a ≤ 9223372036854775807) (hb : b ≤ 9223372036854775807) : Res δ ω N (setmZ δ ω a b) ((toldZ ω false, a, b), decide (a ≥ 0) && decide (b ≥ 0)) 5 := by
  have hdb := h.well.doubt
  have hw := kept_setm h.well a b
  have hk := kp_setm (h.kp.calm (δ' := δ.calm) rfl) h.well ha hb
  unfold setmZ at hw hk ⊢
  rw [if_neg (by rw [hdb]; decide)] at hw hk ⊢
  by_cases h1 : a < 0 ∨ b < 0
  · rw [if_pos h1]
    exact Res.of h (by decide) (fun g => absurd g (by decide))
  rw [if_neg h1] at hw hk ⊢
  by_cases h2 : ω.count = 4294967295
  · rw [if_pos h2]; exact Res.of h (by decide) (fun g => absurd g (by decide))
  rw [if_neg h2] at hw hk ⊢
  by_cases h3 : (nextZ δ (ω.mark ω.area (ω.recs.take ω.synced.toNat) a b)).2 = 0
  · obtain ⟨q1, q2, q3⟩ := calm_next h.dead h3
    rw [q1, if_neg (show ¬ (0 : Int) ≠ 0 by decide)] at hw hk
    rw [if_neg (by rw [h3]; decide)]
    exact ⟨fun _ => live_of (δ := δ) (ω := ω) q2 hw.well hk.kp (.inl q3), fun _ _ g => absurd rfl g, fun g => (by cases g)⟩
  · have h4 : (nextZ δ (ω.mark ω.area (ω.recs.take ω.synced.toNat) a b)).2 = 2 := by rcases (nextZ_keeps δ (ω.mark ω.area (ω.recs.take ω.synced.toNat) a b)).2.2 with g | g; exact absurd g h3; exact g
    rw [if_pos h3, h4]
    refine ⟨fun g => absurd rfl g, fun g => (by cases g), fun _ hok how => ?_⟩
    rcases setm_dead h ⟨by omega, ha⟩ ⟨by omega, hb⟩ h2 h3 hok how with ⟨q1, q2⟩ | ⟨q1, q2⟩
    · exact ⟨_, q1, q2, .inl (same_syn hdb h.well.synced)⟩
    · refine ⟨_, q1, q2, .inr ⟨by simp; omega, ?_⟩⟩
      have e1 : toldZ ω false = ω.syn.recs := by unfold toldZ tl Wl.syn; rw [hdb]; rfl
      have e2 := (syn_recs h.well.synced).2
      have e3 : (ω.marked a b).synced = ((ω.marked a b).recs.length : Int) := e2.symm
      unfold sameZ
      rw [e1, decide_eq_true e3]
      simp [Wl.marked, tl, Wl.syn]
/-- All calls. -/
theorem does_res {δ : Dk} {ω : Wl} {N : Int} (h : Lv δ ω N) (k : Int) {n f : Int} (hn : n ≤ 9223372036854775807) (hf : f ≤ 9223372036854775807) (l : List Int) : Res δ ω N (doesZ δ ω k n f l) (behindZ ω k n f l) k := by
  unfold doesZ behindZ
  by_cases h1 : k = 1
  · subst h1
    rw [if_pos rfl, if_neg (by decide), if_neg (by decide), if_neg (by decide), if_neg (by decide)]
    exact append_res h _
  rw [if_neg h1]
  by_cases h2 : k = 2
  · rw [if_pos h2, if_pos h2]; exact sync_res h
  rw [if_neg h2, if_neg h2]
  by_cases h3 : k = 3
  · rw [if_pos h3, if_pos h3]; exact cut_res h n
  rw [if_neg h3, if_neg h3]
  by_cases h4 : k = 4
  · rw [if_pos h4, if_pos h4]; exact renew_res h _
  rw [if_neg h4, if_neg h4]
  by_cases h5 : k = 5
  · subst h5; rw [if_pos rfl, if_pos rfl]; exact setm_res h hn hf
  rw [if_neg h5, if_neg h5]
  exact Res.of h (by decide) (fun _ g => by cases g)
theorem Lv.i {δ : Dk} {ω : Wl} {N : Int} (h : Lv δ ω N) (hN : N ≤ 1000000000000) : WlI δ ω := by
  have g := h.well.i hN
  exact ⟨g.size, g.acts, g.area, g.count, g.synced, g.fits⟩
theorem lv_new {n : Int} (h : 16 ≤ n ∧ n ≤ 32768) : Lv (formatZ (Dk.new n)).1 newW 3 := by
  obtain ⟨-, hW, -⟩ := format_well h
  have hK := kp_new h
  have ho : (formatZ (Dk.new n)).1.old = [] := by
    have hl : (Dk.new n).now.length = n.toNat := by simp [Dk.new]
    obtain ⟨a1, a2, a3⟩ := al_write (new_al n) (n := 0) (s := zs) ⟨by omega, by omega⟩ rfl
    have l1 : ((Dk.new n).write 0 zs).1.now.length = n.toNat := by rw [a3, List.length_set, hl]
    obtain ⟨b1, b2, b3⟩ := al_write a2 (n := 1) (s := mark1.sec) ⟨by omega, by omega⟩ (sec_len4 _)
    obtain ⟨c1, c2, c3⟩ := al_sync b2
    have e : formatZ (Dk.new n) = ((fmtZ (Dk.new n) 3).1, some newW) := by
      unfold formatZ
      rw [if_neg (by show ¬ ((Dk.new n).write 0 zs).2 ≠ 0; rw [a1]; decide), if_neg (by show ¬ (((Dk.new n).write 0 zs).1.write 1 mark1.sec).2 ≠ 0; rw [b1]; decide), if_neg (by show ¬ ((((Dk.new n).write 0 zs).1.write 1 mark1.sec).1.sync).2 ≠ 0; rw [c1]; decide)]
    rw [e]
    exact (calm_sync b2.dead c1).2.2
  have hc : (formatZ (Dk.new n)).1.calm = (formatZ (Dk.new n)).1 := by
    have hl := hW.al.left
    generalize (formatZ (Dk.new n)).1 = σ at hl
    obtain ⟨q1, q2, q3, l, q5⟩ := σ
    have : l = 0 := hl
    subst this; rfl
  exact ⟨hW.al.dead, by rw [hc]; exact hW, hK, dur_clean hK ho⟩
/-- At the end: a crash of a disk that lives leaves what was synced. -/
theorem lv_end {δ : Dk} {ω : Wl} {N : Int} (h : Lv δ ω N) (hok : δ.Ok) (how : List Int) : ∃ ω', Lv (δ.crash how) ω' N ∧ openZ (δ.crash how) = some ω' ∧ sameZ ω' (toldZ ω false, ω.a, ω.b) = true := by
  obtain ⟨q1, q2⟩ := crash_old h h.dur hok (M := N) h.well.acts how
  exact ⟨_, q1, q2, same_syn h.well.doubt h.well.synced⟩
theorem last_cases (e : Int) (b : Bool) (k : Int) : e ≠ 0 ∨ (e = 0 ∧ b = false) ∨ (e = 0 ∧ b = true ∧ k ≠ 5) ∨ (e = 0 ∧ b = true ∧ k = 5) := by
  by_cases he : e = 0
  · cases b
    · exact .inr (.inl ⟨he, rfl⟩)
    · by_cases hk : k = 5
      · exact .inr (.inr (.inr ⟨he, rfl, hk⟩))
      · exact .inr (.inr (.inl ⟨he, rfl, hk⟩))
  · exact .inl he
theorem behind_len (ω : Wl) (k n f : Int) (l : List Int) : (behindZ ω k n f l).1.1.length ≤ (tl ω).length + (laidZ (manyZ l)).length := by
  have h1 := toldZ_le ω true
  have h2 := toldZ_le ω false
  have h3 := laidZ_many (manyZ l)
  unfold behindZ
  split
  · dsimp only; omega
  · split
    · split
      · dsimp only; omega
      · dsimp only; rw [List.length_take]; omega
    · split
      · dsimp only; omega
      · split
        · dsimp only; omega
        · dsimp only; omega
end Go.Proofs.Ytepncdidkjjllaa
