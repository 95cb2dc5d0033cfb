/- Own work: a log on a disk that is armed: what dies, and what a crash leaves. -/
import Derived.Test.YtepncdidkjjllaaL4I
import Derived.Test.YtepncdidkjjllaaTorn
namespace Go.Proofs.Ytepncdidkjjllaa
open Go

def Dk.calm (δ : Dk) : Dk := { δ with left := 0 }
theorem calm_act {δ : Dk} (hd : δ.dead = false) (h : δ.act.2 = 0) : δ.calm.act = (δ.act.1.calm, 0) ∧ δ.act.1.dead = false := by
  simp only [Dk.act, actE] at h ⊢
  by_cases h1 : δ.left = 0
  · simp [Dk.calm, actD, actL, h1, hd]
  · by_cases h2 : δ.left - 1 > 0
    · have h3 : 1 < δ.left := by omega
      simp [Dk.calm, actD, actL, h1, hd, h3]
    · rw [if_neg h1, if_neg h2] at h; cases h
theorem write_eq {δ : Dk} (hd : δ.dead = false) (n : Int) (s : Bs) : δ.write n s = if δ.has n = false ∨ s.length ≠ 64 then (δ, 20) else (δ.put n s).act := by
  unfold Dk.write; rw [if_neg (by rw [hd]; decide)]
theorem sync_eq {δ : Dk} (hd : δ.dead = false) : δ.sync = if δ.act.2 = 0 then ({ δ.act.1 with old := [] }, 0) else (δ.act.1, δ.act.2) := by
  unfold Dk.sync; rw [if_neg (by rw [hd]; decide)]
theorem calm_write {δ : Dk} (hd : δ.dead = false) {n : Int} {s : Bs} (h : (δ.write n s).2 = 0) : δ.calm.write n s = ((δ.write n s).1.calm, 0) ∧ (δ.write n s).1.dead = false := by
  have hc : δ.calm.dead = false := hd
  rw [write_eq hc, write_eq hd]
  rw [write_eq hd] at h
  by_cases h1 : δ.has n = false ∨ s.length ≠ 64
  · rw [if_pos h1] at h; cases h
  · rw [if_neg h1] at h
    rw [if_neg h1, if_neg (show ¬ (δ.calm.has n = false ∨ s.length ≠ 64) from h1)]
    exact calm_act (δ := δ.put n s) hd h
theorem calm_sync {δ : Dk} (hd : δ.dead = false) (h : δ.sync.2 = 0) : δ.calm.sync = (δ.sync.1.calm, 0) ∧ δ.sync.1.dead = false ∧ δ.sync.1.old = [] := by
  have hc : δ.calm.dead = false := hd
  rw [sync_eq hc, sync_eq hd]
  rw [sync_eq hd] at h
  by_cases h1 : δ.act.2 = 0
  · obtain ⟨q1, q2⟩ := calm_act hd h1
    rw [if_pos h1, q1]
    exact ⟨rfl, q2, rfl⟩
  · rw [if_neg h1] at h; exact absurd h h1
theorem calm_lay : ∀ (f : Nat) (δ : Dk) (area : Int) (all : Bs) (i : Nat), δ.dead = false → (layF f δ area all i).2 = 0 → layF f δ.calm area all i = ((layF f δ area all i).1.calm, 0) ∧ (layF f δ area all i).1.dead = false := by
  intro f
  induction f with
  | zero => intro δ area all i hd _; exact ⟨rfl, hd⟩
  | succ f ih =>
    intro δ area all i hd h
    simp only [layF] at h ⊢
    rw [show halfZ δ.calm = halfZ δ from rfl]
    by_cases h1 : i * 64 < all.length
    · rw [if_pos h1] at h ⊢
      rw [if_pos h1]
      by_cases h2 : (δ.write (2 + area * halfZ δ + i) (laySec all i)).2 = 0
      · rw [if_neg (by rw [h2]; decide)] at h
        obtain ⟨q1, q2⟩ := calm_write hd h2
        rw [q1, if_neg (show ¬ (0 : Int) ≠ 0 by decide), if_neg (show ¬ (δ.write (2 + area * halfZ δ + i) (laySec all i)).2 ≠ 0 by rw [h2]; decide)]
        exact ih _ _ _ _ q2 h
      · rw [if_pos h2] at h; cases h
    · rw [if_neg h1] at h ⊢
      rw [if_neg h1]
      exact ⟨rfl, hd⟩
theorem calm_layZ {δ : Dk} {area : Int} {all : Bs} {frm : Nat} (hd : δ.dead = false) (h : (layZ δ area all frm).2 = 0) : layZ δ.calm area all frm = ((layZ δ area all frm).1.calm, 0) ∧ (layZ δ area all frm).1.dead = false := calm_lay _ _ _ _ _ hd h
theorem calm_next {δ : Dk} {m : Mk} (hd : δ.dead = false) (h : (nextZ δ m).2 = 0) : nextZ δ.calm m = ((nextZ δ m).1.calm, 0) ∧ (nextZ δ m).1.dead = false ∧ (nextZ δ m).1.old = [] := by
  unfold nextZ at h ⊢
  by_cases h1 : (δ.write (m.count % 2) m.sec).2 = 0
  · obtain ⟨q1, q2⟩ := calm_write hd h1
    rw [if_neg (by rw [h1]; decide)] at h
    rw [q1, if_neg (show ¬ (0 : Int) ≠ 0 by decide), if_neg (show ¬ (δ.write (m.count % 2) m.sec).2 ≠ 0 by rw [h1]; decide)]
    by_cases h2 : (δ.write (m.count % 2) m.sec).1.sync.2 = 0
    · obtain ⟨r1, r2, r3⟩ := calm_sync q2 h2
      dsimp only
      rw [r1, if_neg (show ¬ (0 : Int) ≠ 0 by decide), if_neg (show ¬ (δ.write (m.count % 2) m.sec).1.sync.2 ≠ 0 by rw [h2]; decide)]
      exact ⟨rfl, r2, r3⟩
    · rw [if_pos h2] at h; cases h
  · rw [if_pos h1] at h; cases h
theorem calm_seal {δ : Dk} {ω : Wl} {area : Int} {l : List Bs} (hd : δ.dead = false) (h : (sealZ δ ω area l).2.2 = 0) : sealZ δ.calm ω area l = ((sealZ δ ω area l).1.calm, (sealZ δ ω area l).2) ∧ (sealZ δ ω area l).1.dead = false ∧ (sealZ δ ω area l).1.old = [] := by
  unfold sealZ at h ⊢
  by_cases h1 : δ.sync.2 = 0
  · obtain ⟨q1, q2, -⟩ := calm_sync hd h1
    rw [if_neg (by rw [h1]; decide)] at h
    rw [q1, if_neg (show ¬ (0 : Int) ≠ 0 by decide), if_neg (show ¬ δ.sync.2 ≠ 0 by rw [h1]; decide)]
    dsimp only
    by_cases h2 : (nextZ δ.sync.1 (ω.mark area l ω.a ω.b)).2 = 0
    · obtain ⟨r1, r2, r3⟩ := calm_next q2 h2
      rw [r1, if_neg (show ¬ (0 : Int) ≠ 0 by decide), if_neg (show ¬ (nextZ δ.sync.1 (ω.mark area l ω.a ω.b)).2 ≠ 0 by rw [h2]; decide)]
      exact ⟨rfl, r2, r3⟩
    · rw [if_pos h2] at h; cases h
  · rw [if_pos h1] at h; cases h
theorem seal_err (δ : Dk) (ω : Wl) (area : Int) (l : List Bs) : (sealZ δ ω area l).2.2 = 0 ∨ (sealZ δ ω area l).2.2 = 2 := by
  unfold sealZ; split
  · exact .inr rfl
  · split
    · exact .inr rfl
    · exact .inl rfl
theorem dbt_of {r : Dk × Wl × Int} (h : r.2.2 = 0) : dbt r = r := by unfold dbt; rw [if_neg (by rw [h]; decide)]
theorem dbt_err (r : Dk × Wl × Int) : (dbt r).2.2 = r.2.2 ∧ (dbt r).1 = r.1 := by unfold dbt; split <;> exact ⟨rfl, rfl⟩
theorem calm_dseal {δ : Dk} {ω : Wl} {area : Int} {l : List Bs} (hd : δ.dead = false) (h : (dbt (sealZ δ ω area l)).2.2 ≠ 2) : dbt (sealZ δ.calm ω area l) = ((dbt (sealZ δ ω area l)).1.calm, (dbt (sealZ δ ω area l)).2) ∧ (dbt (sealZ δ ω area l)).1.dead = false ∧ (dbt (sealZ δ ω area l)).1.old = [] ∧ (sealZ δ ω area l).2.2 = 0 := by
  have h0 : (sealZ δ ω area l).2.2 = 0 := by
    rcases seal_err δ ω area l with h1 | h1
    · exact h1
    · rw [(dbt_err _).1] at h; exact absurd h1 h
  obtain ⟨q1, q2, q3⟩ := calm_seal hd h0
  rw [dbt_of h0, q1]
  exact ⟨dbt_of h0, q2, q3, h0⟩
/-- A disk against an earlier one: the marks are the same and durable, and so is what an area holds. -/
structure Dur (δ δ0 : Dk) (area : Int) (L : Bs) : Prop where
  len : δ.now.length = δ0.now.length
  mark : ∀ k : Nat, k < 2 → δ.now.getD k [] = δ0.now.getD k []
  marks : ∀ k : Nat, k < 2 → alook δ.old (k : Int) = none
  here : Area δ area L
  olds : ∀ i : Nat, (i : Int) < halfZ δ → ∀ o, alook δ.old (2 + area * halfZ δ + (i : Int)) = some o → chunk L i <+: o
theorem alook_aset {β : Type} {m : List (Int × β)} {n k : Int} {v : β} (hn : alook m n = none) : alook (aset m n v) k = if k = n then some v else alook m k := by
  rw [aset_none hn]
  by_cases hk : k = n
  · subst hk; rw [alook_append_none hn, if_pos rfl]; simp [alook]
  · rw [alook_append_other hk, if_neg hk]
theorem put_old {δ : Dk} {n k : Int} {s : Bs} : alook (δ.put n s).old k = if alook δ.old n = none ∧ k = n then some (δ.now.getD n.toNat []) else alook δ.old k := by
  unfold Dk.put
  dsimp only
  rcases h : alook δ.old n with _ | o
  · rw [if_neg (by simp), alook_aset h]
    by_cases hk : k = n
    · rw [if_pos hk, if_pos ⟨rfl, hk⟩]
    · rw [if_neg hk, if_neg (fun g => hk g.2)]
  · rw [if_pos (by simp), if_neg (fun g => by cases g.1)]
theorem write_put (δ : Dk) (n : Int) (s : Bs) : ((δ.write n s).1.now = δ.now ∧ (δ.write n s).1.old = δ.old) ∨ ((δ.write n s).1.now = δ.now.set n.toNat s ∧ (δ.write n s).1.old = (δ.put n s).old) := by
  unfold Dk.write
  split
  · exact .inl ⟨rfl, rfl⟩
  · split
    · exact .inl ⟨rfl, rfl⟩
    · exact .inr ⟨rfl, rfl⟩
theorem sync_old (δ : Dk) : δ.sync.1.old = δ.old ∨ δ.sync.1.old = [] := by
  unfold Dk.sync
  split
  · exact .inl rfl
  · split
    · exact .inr rfl
    · exact .inl rfl
theorem Dur.of {δ δ' δ0 : Dk} {area : Int} {L : Bs} (h : Dur δ δ0 area L) (h1 : δ'.now = δ.now) (h2 : δ'.old = δ.old ∨ δ'.old = []) : Dur δ' δ0 area L := by
  have hh : halfZ δ' = halfZ δ := halfZ_of (by rw [h1])
  refine ⟨by rw [h1]; exact h.len, fun k hk => by rw [h1]; exact h.mark k hk, fun k hk => ?_, fun i hi => ?_, fun i hi o ho => ?_⟩
  · rcases h2 with h2 | h2 <;> rw [h2]
    · exact h.marks k hk
    · rfl
  · rw [h1, hh]; rw [hh] at hi; exact h.here i hi
  · rw [hh] at hi ho
    rcases h2 with h2 | h2 <;> rw [h2] at ho
    · exact h.olds i hi o ho
    · cases ho
theorem Dur.write {δ δ0 : Dk} {area : Int} {L : Bs} (h : Dur δ δ0 area L) (ha : 0 ≤ area) {n : Int} {s : Bs} (hn : 2 ≤ n ∧ n < δ.now.length) (hs : ∀ i : Nat, (i : Int) < halfZ δ → n = 2 + area * halfZ δ + i → chunk L i <+: s) : Dur (δ.write n s).1 δ0 area L := by
  rcases write_put δ n s with ⟨h1, h2⟩ | ⟨h1, h2⟩
  · exact h.of h1 (.inl h2)
  have hlen : (δ.write n s).1.now.length = δ.now.length := by rw [h1, List.length_set]
  have hh := halfZ_of hlen
  have hp := half_pos (δ := δ) (by omega)
  have hm : 0 ≤ area * halfZ δ := Int.mul_nonneg ha hp
  refine ⟨by rw [hlen]; exact h.len, fun k hk => ?_, fun k hk => ?_, fun i hi => ?_, fun i hi o ho => ?_⟩
  · rw [h1, set_at (by omega), if_neg (by omega)]; exact h.mark k hk
  · rw [h2, put_old, if_neg (by omega)]; exact h.marks k hk
  · rw [hh] at hi ⊢
    rw [h1, set_at (by omega)]
    split
    · exact hs i hi (by omega)
    · exact h.here i hi
  · rw [hh] at hi ho
    rw [h2, put_old] at ho
    by_cases hc : alook δ.old n = none ∧ 2 + area * halfZ δ + (i : Int) = n
    · rw [if_pos hc] at ho
      have := h.here i hi
      rw [hc.2, show δ.now.getD n.toNat [] = o by simpa using ho] at this
      exact this
    · rw [if_neg hc] at ho; exact h.olds i hi o ho
theorem Dur.lay : ∀ (f : Nat) {δ δ0 : Dk} {area a2 : Int} {L all : Bs} (i : Nat), Dur δ δ0 area L → 0 ≤ area ∧ area ≤ 1 → 0 ≤ a2 ∧ a2 ≤ 1 → 2 ≤ δ.now.length → (all.length : Int) ≤ 64 * halfZ δ → (a2 = area → L <+: all) → Dur (layF f δ a2 all i).1 δ0 area L := by
  intro f
  induction f with
  | zero => intro δ δ0 area a2 L all i h _ _ _ _ _; exact h
  | succ f ih =>
    intro δ δ0 area a2 L all i h ha ha2 hn hl hp
    simp only [layF]
    split
    · rename_i hi
      have hr := lay_in ha2 hn hl hi
      have hlen : (δ.write (2 + a2 * halfZ δ + i) (laySec all i)).1.now.length = δ.now.length := (write_keeps _ _ _).1
      have hw : Dur (δ.write (2 + a2 * halfZ δ + i) (laySec all i)).1 δ0 area L := by
        refine h.write ha.1 hr fun j hj e => ?_
        have hii : (i : Int) < halfZ δ := by omega
        have h0 := half_pos (δ := δ) hn
        have hj2 : j = i ∧ a2 = area := by
          generalize halfZ δ = k at *
          rcases (by omega : a2 = 0 ∨ a2 = 1) with rfl | rfl <;> rcases (by omega : area = 0 ∨ area = 1) with rfl | rfl <;> omega
        rw [hj2.1]
        exact (chunk_pre (hp hj2.2) i).trans (chunk_lay _ _)
      split
      · exact hw
      · exact ih (i + 1) hw ha ha2 (by rw [hlen]; exact hn) (by rw [halfZ_of hlen]; exact hl) hp
    · exact h
theorem pre_torn {P A B : Bs} {b : Nat} (h1 : P <+: A) (h2 : P <+: B) (hb : b ≤ A.length) : P <+: A.take b ++ B.drop b := by
  obtain ⟨r, rfl⟩ := h1
  obtain ⟨t, rfl⟩ := h2
  rcases Nat.le_total P.length b with h | h
  · rw [List.take_append, List.take_of_length_le h, List.append_assoc]; exact List.prefix_append _ _
  · rw [List.take_append_of_le_length h, List.drop_append_of_le_length h, ← List.append_assoc, List.take_append_drop]; exact List.prefix_append _ _
theorem torn_get {A B : Bs} {b : Nat} (ha : A.length = 64) (hb : b ≤ 64) (j : Nat) : (A.take b ++ B.drop b)[j]? = if j < b then A[j]? else B[j]? := by
  split
  · rename_i h
    rw [List.getElem?_append_left (by rw [List.length_take]; omega), List.getElem?_take_of_lt h]
  · rename_i h
    rw [List.getElem?_append_right (by rw [List.length_take]; omega), List.length_take, List.getElem?_drop]
    congr 1; omega
theorem sub_get (s : Bs) (j : Nat) : (sub s 2 6)[j]? = if j < 4 then s[2 + j]? else none := by
  unfold sub
  rw [List.getElem?_drop, List.getElem?_take]
  by_cases h : j < 4
  · rw [if_pos (by omega), if_pos h]
  · rw [if_neg (by omega), if_neg h]
theorem tail_torn {c : Int} {X T : Bs} {m : Mk} (hX : TailC c X) (hm : m.count = c + 1) (h : Torn T m.sec X) : T = m.sec ∨ TailC c T := by
  obtain ⟨b, hb, rfl⟩ := h
  have hml := sec_len4 m
  have hms := sec_sub m
  have hmd := sec_drop m
  obtain ⟨hxl, hx⟩ := hX
  have hl : (m.sec.take b ++ X.drop b).length = 64 := by rw [List.length_append, List.length_take, List.length_drop]; omega
  have get := torn_get (B := X) hml hb
  rcases Nat.lt_or_ge 60 b with h6 | h6
  · have hs : sub (m.sec.take b ++ X.drop b) 2 6 = beB (c + 1) 4 := by
      rw [← hm, ← hms]
      apply List.ext_getElem?
      intro j
      rw [sub_get, sub_get]
      split
      · rw [get, if_pos (by omega)]
      · rfl
    by_cases he : (m.sec.take b ++ X.drop b).drop 60 = beB (c + 1) 4
    · left
      have h1 := List.take_append_drop 60 (m.sec.take b ++ X.drop b)
      have h2 := List.take_append_drop 60 m.sec
      rw [he] at h1
      rw [hmd, hm] at h2
      refine h1.symm.trans (Eq.trans ?_ h2)
      congr 1
      rw [List.take_append_of_le_length (by rw [List.length_take]; omega), List.take_take, Nat.min_eq_left (by omega)]
    · exact .inr ⟨hl, .inr ⟨hs, he⟩⟩
  · right
    have hd : (m.sec.take b ++ X.drop b).drop 60 = X.drop 60 := by
      apply List.ext_getElem?
      intro j
      rw [List.getElem?_drop, List.getElem?_drop, get, if_neg (by omega)]
    refine ⟨hl, ?_⟩
    rw [hd]
    rcases hx with h1 | ⟨h1, h2⟩
    · exact .inl h1
    · refine .inr ⟨?_, h2⟩
      apply List.ext_getElem?
      intro j
      rw [sub_get]
      have e1 : (beB (c + 1) 4)[j]? = (sub X 2 6)[j]? := by rw [h1]
      have e2 : (beB (c + 1) 4)[j]? = (sub m.sec 2 6)[j]? := by rw [hms, hm]
      rw [sub_get] at e1 e2
      by_cases hj : j < 4
      · rw [if_pos hj] at e1 e2 ⊢
        rw [get]
        split
        · exact e2.symm
        · exact e1.symm
      · rw [if_neg hj] at e1 ⊢
        exact e1.symm
def Wl.syn (ω : Wl) : Wl := ⟨ω.recs.take ω.synced.toNat, ω.synced, ω.area, ω.count, ω.a, ω.b, false⟩
/-- A log that is well on a disk that may be armed. -/
structure Lv (δ : Dk) (ω : Wl) (N : Int) : Prop where
  dead : δ.dead = false
  well : Well δ.calm ω N
  kp : Kp δ ω
  dur : Dur δ δ ω.area (laidZ (ω.recs.take ω.synced.toNat))
theorem Kp.calm {δ δ' : Dk} {ω : Wl} (h : Kp δ ω) (e : δ'.now = δ.now) : Kp δ' ω := by
  obtain ⟨h1, h2, h3, h4, h5, h6, h7⟩ := h
  have hh : halfZ δ' = halfZ δ := halfZ_of (by rw [e])
  refine ⟨h1, h2, h3, h4, ?_, ?_, fun i hi => ?_⟩
  · unfold mkAt; rw [e]; exact h5
  · unfold mkAt; rw [e]; exact h6
  · rw [e, hh]; rw [hh] at hi; exact h7 i hi
theorem syn_recs {ω : Wl} (h : 0 ≤ ω.synced ∧ ω.synced ≤ ω.recs.length) : ω.syn.recs.take ω.syn.synced.toNat = ω.recs.take ω.synced.toNat ∧ (ω.syn.recs.length : Int) = ω.synced := by
  unfold Wl.syn
  dsimp only
  refine ⟨by rw [List.take_take, Nat.min_self], by rw [List.length_take]; omega⟩
/-- A disk behind a crash, with marks that are right. -/
theorem back {σ : Dk} {ω : Wl} {N : Int} (hd : Al σ) (ho : σ.old = []) (hdb : ω.doubt = false) (hfull : ω.synced = ω.recs.length) (size : 2 ≤ σ.now.length ∧ σ.now.length ≤ 32768) (acts : σ.acts ≤ N) (area : 0 ≤ ω.area ∧ ω.area ≤ 1) (count : 1 ≤ ω.count ∧ ω.count ≤ 4294967295)
    (ha : 0 ≤ ω.a ∧ ω.a ≤ 9223372036854775807) (hb : 0 ≤ ω.b ∧ ω.b ≤ 9223372036854775807) (hl : ∀ s ∈ ω.recs, s.length ≤ 4000) (fits : ((laidZ ω.recs).length : Int) ≤ 64 * halfZ σ)
    (this : mkAt σ ω.count = ω.now.sec) (other : TailC ω.count (mkAt σ (ω.count + 1))) (hA : Area σ ω.area (laidZ ω.recs)) (hok : σ.Ok) : Lv σ ω N ∧ openZ σ = some ω := by
  have hk : Kp σ ω := ⟨count.1, ha, hb, hl, this, other, hA⟩
  have hw : Well σ ω N := ⟨hd, hdb, size, acts, area, ⟨by omega, count.2⟩, ⟨by omega, by omega⟩, fits⟩
  have hc : σ.calm = σ := by
    obtain ⟨n, o, a, l, d⟩ := σ
    have : l = 0 := hd.left
    subst this; rfl
  refine ⟨⟨hd.dead, by rw [hc]; exact hw, hk, ⟨rfl, fun _ _ => rfl, fun k _ => by rw [ho]; rfl, hA.less (laid_pre _ _), fun i _ o h => by rw [ho] at h; cases h⟩⟩, ?_⟩
  rw [opened hk hw hok]
  obtain ⟨r, sy, ar, ct, x, y, db⟩ := ω
  dsimp only at hfull hdb ⊢
  subst hdb
  rw [hfull, Int.toNat_natCast, List.take_length]
theorem crash_al (δ : Dk) (how : List Int) : Al (δ.crash how) ∧ (δ.crash how).old = [] ∧ (δ.crash how).acts = δ.acts ∧ (δ.crash how).now.length = δ.now.length := by
  have h := δ.crashTo_same how δ.pend.length
  refine ⟨⟨rfl, rfl⟩, rfl, h.2.1, ?_⟩
  exact h.2.2.2.2
theorem crash_same {δ : Dk} (hok : δ.Ok) (how : List Int) {n : Int} (hn : 0 ≤ n ∧ n < δ.now.length) (h : alook δ.old n = none) : (δ.crash how).now.getD n.toNat [] = δ.now.getD n.toNat [] := by
  obtain ⟨b, hb, e⟩ := Dk.crash_torn hok how hn
  have h1 : δ.orig n = tx δ.now n := by unfold Dk.orig; rw [h]; rfl
  rw [h1, List.take_append_drop] at e
  exact e
theorem crash_area {δ δ0 : Dk} {area : Int} {L : Bs} (h : Dur δ δ0 area L) (hok : δ.Ok) (hn : 2 ≤ δ.now.length) (ha : 0 ≤ area ∧ area ≤ 1) (how : List Int) : Area (δ.crash how) area L := by
  have hlen := (crash_al δ how).2.2.2
  intro i hi
  rw [halfZ_of hlen] at hi ⊢
  have hix := area_idx hn ha hi
  obtain ⟨b, hb, e⟩ := Dk.crash_torn hok how hix
  have h1 := h.here i hi
  show chunk L i <+: tx (δ.crash how).now _
  rw [e]
  refine pre_torn h1 ?_ (by rw [hok.txlen hix]; exact hb)
  unfold Dk.orig
  rcases ho : alook δ.old (2 + area * halfZ δ + (i : Int)) with _ | o
  · exact h1
  · exact h.olds i hi o ho
/-- Dead ahead of a mark: behind the crash the log is the old one. -/
theorem crash_old {δ δ' : Dk} {ω : Wl} {N M : Int} (h : Lv δ ω N) (hD : Dur δ' δ ω.area (laidZ (ω.recs.take ω.synced.toNat))) (hok : δ'.Ok) (hM : δ'.acts ≤ M) (how : List Int) : Lv (δ'.crash how) ω.syn M ∧ openZ (δ'.crash how) = some ω.syn := by
  have hw := h.well
  obtain ⟨c1, c2, c3, c4⟩ := crash_al δ' how
  have hsy := syn_recs hw.synced
  have hsz : 2 ≤ δ.now.length ∧ δ.now.length ≤ 32768 := hw.size
  have hl1 : (δ'.crash how).now.length = δ.now.length := c4.trans hD.len
  have hfit : ((laidZ ω.recs).length : Int) ≤ 64 * halfZ δ := hw.fits
  have htl := laid_take_le ω.recs ω.synced.toNat
  have hmk : ∀ c : Int, mkAt (δ'.crash how) c = mkAt δ c := by
    intro c
    unfold mkAt
    have e : ((c % 2).toNat : Int) = c % 2 := by omega
    have := hD.marks (c % 2).toNat (by omega)
    rw [e] at this
    rw [crash_same hok how ⟨by omega, by have := hD.len; omega⟩ this]
    exact hD.mark _ (by omega)
  refine back c1 c2 rfl hsy.2.symm (by rw [hl1]; exact hsz) (by rw [c3]; exact hM) hw.area ⟨h.kp.cnt, hw.count.2⟩ h.kp.a h.kp.b (fun s hs => h.kp.long s (List.mem_of_mem_take hs)) ?_ ?_ ?_ ?_ (hok.crashed how)
  · rw [halfZ_of hl1]; show ((laidZ (ω.recs.take ω.synced.toNat)).length : Int) ≤ _; omega
  · rw [hmk]
    show mkAt δ ω.count = Mk.sec ⟨ω.count, ω.area, (laidZ (ω.syn.recs.take ω.syn.synced.toNat)).length, ω.synced, ω.a, ω.b⟩
    rw [hsy.1]; exact h.kp.this
  · show TailC ω.count (mkAt (δ'.crash how) (ω.count + 1))
    rw [hmk]; exact h.kp.other
  · exact crash_area hD hok (by have := hD.len; omega) hw.area how
/-- Dead at a mark: behind the crash the log is the old one or the new one. -/
theorem crash_mark {δ δ1 δ' : Dk} {ω ω1 : Wl} {N M : Int} (h : Lv δ ω N) (hD : Dur δ1 δ ω.area (laidZ (ω.recs.take ω.synced.toNat))) (hD1 : Dur δ1 δ ω1.area (laidZ ω1.recs)) (hok : δ'.Ok) (hM : δ'.acts ≤ M)
    (hnow : δ'.now = δ1.now.set ((ω.count + 1) % 2).toNat ω1.now.sec) (hold : ∀ k : Int, alook δ'.old k = if k = (ω.count + 1) % 2 then some (δ1.now.getD ((ω.count + 1) % 2).toNat []) else alook δ1.old k)
    (hc : ω1.count = ω.count + 1) (hc2 : ω1.count ≤ 4294967295) (hdb : ω1.doubt = false) (hfull : ω1.synced = ω1.recs.length) (har : 0 ≤ ω1.area ∧ ω1.area ≤ 1) (ha : 0 ≤ ω1.a ∧ ω1.a ≤ 9223372036854775807) (hb : 0 ≤ ω1.b ∧ ω1.b ≤ 9223372036854775807) (hl : ∀ s ∈ ω1.recs, s.length ≤ 4000) (fits : ((laidZ ω1.recs).length : Int) ≤ 64 * halfZ δ) (how : List Int) :
    (Lv (δ'.crash how) ω.syn M ∧ openZ (δ'.crash how) = some ω.syn) ∨ (Lv (δ'.crash how) ω1 M ∧ openZ (δ'.crash how) = some ω1) := by
  have hw := h.well
  obtain ⟨c1, c2, c3, c4⟩ := crash_al δ' how
  have hsy := syn_recs hw.synced
  have hsz : 2 ≤ δ.now.length ∧ δ.now.length ≤ 32768 := hw.size
  have hlen : δ'.now.length = δ1.now.length := by rw [hnow, List.length_set]
  have hl0 := hD.len
  have hl1 : (δ'.crash how).now.length = δ.now.length := by rw [c4, hlen, hl0]
  have hfit : ((laidZ ω.recs).length : Int) ≤ 64 * halfZ δ := hw.fits
  have htl := laid_take_le ω.recs ω.synced.toNat
  have hcnt := h.kp.cnt
  -- what is not the new mark's sector
  have area2 : ∀ {area : Int} {L : Bs}, 0 ≤ area ∧ area ≤ 1 → Dur δ1 δ area L → Area (δ'.crash how) area L := by
    intro area L hra hd i hi
    have hh : halfZ (δ'.crash how) = halfZ δ1 := by rw [halfZ_of (c4.trans hlen)]
    rw [hh] at hi ⊢
    have hix := area_idx (δ := δ1) (by omega) hra hi
    have h0 := half_pos (δ := δ1) (by omega)
    have hmm : 0 ≤ area * halfZ δ1 := Int.mul_nonneg hra.1 h0
    obtain ⟨b, hb', e⟩ := Dk.crash_torn hok how (n := 2 + area * halfZ δ1 + (i : Int)) ⟨by omega, by rw [hlen]; omega⟩
    have h1 : chunk L i <+: tx δ'.now (2 + area * halfZ δ1 + (i : Int)) := by
      unfold tx; rw [hnow, set_at (by omega), if_neg (by omega)]; exact hd.here i hi
    show chunk L i <+: tx (δ'.crash how).now _
    rw [e]
    refine pre_torn h1 ?_ (by rw [hok.txlen ⟨by omega, by rw [hlen]; omega⟩]; exact hb')
    unfold Dk.orig
    rw [hold, if_neg (by omega)]
    rcases ho : alook δ1.old (2 + area * halfZ δ1 + (i : Int)) with _ | o
    · exact h1
    · exact hd.olds i hi o ho
  have hcur : mkAt (δ'.crash how) ω.count = mkAt δ ω.count := by
    unfold mkAt
    have e : ((ω.count % 2).toNat : Int) = ω.count % 2 := by omega
    have := hD.marks (ω.count % 2).toNat (by omega)
    rw [e] at this
    rw [crash_same hok how ⟨by omega, by omega⟩ (by rw [hold, if_neg (by omega)]; exact this), hnow, set_at (by omega), if_neg (by omega)]
    exact hD.mark _ (by omega)
  have htorn : Torn (mkAt (δ'.crash how) (ω.count + 1)) ω1.now.sec (mkAt δ (ω.count + 1)) := by
    obtain ⟨b, hb', e⟩ := Dk.crash_torn hok how (n := (ω.count + 1) % 2) ⟨by omega, by omega⟩
    refine ⟨b, hb', ?_⟩
    unfold mkAt
    show tx (δ'.crash how).now _ = _
    rw [e]
    congr 1
    · unfold tx; rw [hnow, set_at (by omega), if_pos rfl]
    · unfold Dk.orig
      rw [hold, if_pos rfl]
      dsimp only [Option.getD_some]
      rw [hD.mark _ (by omega)]
  rcases tail_torn h.kp.other (show ω1.now.count = ω.count + 1 from hc) htorn with ht | ht
  · right
    refine back c1 c2 hdb hfull (by rw [hl1]; exact hsz) (by rw [c3]; exact hM) har ⟨by omega, hc2⟩ ha hb hl (by rw [halfZ_of hl1]; exact fits) (by rw [hc]; exact ht) ?_ (area2 har hD1) (hok.crashed how)
    have e : mkAt (δ'.crash how) (ω1.count + 1) = mkAt (δ'.crash how) ω.count := by unfold mkAt; congr 2; omega
    rw [e, hcur, h.kp.this, hc]
    exact ⟨sec_len4 _, .inl (by rw [sec_drop]; show beB ω.count 4 = _; congr 1; omega)⟩
  · left
    refine back c1 c2 rfl hsy.2.symm (by rw [hl1]; exact hsz) (by rw [c3]; exact hM) hw.area ⟨hcnt, hw.count.2⟩ h.kp.a h.kp.b (fun s hs => h.kp.long s (List.mem_of_mem_take hs)) ?_ ?_ ht (area2 hw.area hD) (hok.crashed how)
    · rw [halfZ_of hl1]; show ((laidZ (ω.recs.take ω.synced.toNat)).length : Int) ≤ _; omega
    · show mkAt (δ'.crash how) ω.count = Mk.sec ⟨ω.count, ω.area, (laidZ (ω.syn.recs.take ω.syn.synced.toNat)).length, ω.synced, ω.a, ω.b⟩
      rw [hcur, hsy.1]; exact h.kp.this
end Go.Proofs.Ytepncdidkjjllaa
