/- Own work: marks that are found, bytes that are parted, a log that is opened: plain data. -/
import Derived.Test.YtepncdidkjjllaaWal1
namespace Go.Proofs.Ytepncdidkjjllaa
open Go

def sub (s : Bs) (i j : Nat) : Bs := (s.take j).drop i
def parseZ (s : Bs) : Mk := ⟨smallZ (sub s 2 6), smallZ (sub s 6 7), smallZ (sub s 7 11), smallZ (sub s 11 15), smallZ (sub s 15 23), smallZ (sub s 23 31)⟩
def mk0 : Mk := ⟨0, 0, 0, 0, 0, 0⟩
def badMk (δ : Dk) (n : Int) (s : Bs) (m : Mk) : Prop := m.count < 1 ∨ m.count % 2 ≠ n ∨ m.area > 1 ∨ m.len > 64 * halfZ δ ∨ m.a < 0 ∨ m.b < 0 ∨ s ≠ m.sec
instance (δ : Dk) (n : Int) (s : Bs) (m : Mk) : Decidable (badMk δ n s m) := inferInstanceAs (Decidable (_ ∨ _))
def foundZ (δ : Dk) (n : Int) : Option Mk := if (δ.read n).2 ≠ 0 then none else if badMk δ n (δ.read n).1 (parseZ (δ.read n).1) then none else some (parseZ (δ.read n).1)
def markV (o : Option Mk) : Value := .tuple #[.agg (mkC (o.getD mk0)).toArray, .bool o.isSome]
theorem read_len {δ : Dk} (h : δ.Ok) {n : Int} (he : (δ.read n).2 = 0) : (δ.read n).1.length = 64 := by
  unfold Dk.read at he ⊢
  split
  · rename_i hd; rw [if_pos hd] at he; cases he
  · rename_i hd
    rw [if_neg hd] at he
    split
    · rename_i hh; rw [if_pos hh] at he; cases he
    · rename_i hh
      have hh' : δ.has n = true := by simpa using hh
      obtain ⟨h0, h1, h2⟩ := has_lt hh'
      have e : δ.now.getD n.toNat [] = δ.now[n.toNat] := by simp [h2]
      rw [e]; exact h.sec _ (List.getElem_mem _)
theorem getD_mem64' {l : List (List UInt8)} (h : ∀ s ∈ l, s.length = 64) {i : Nat} (hi : i < l.length) : (l.getD i []).length = 64 := by
  have : l.getD i [] = l[i] := by simp [hi]
  rw [this]; exact h _ (List.getElem_mem _)
def partF : Nat → Bs → List Bs → Int → Option (List Bs)
  | 0, _, _, _ => none
  | f + 1, s, out, num =>
    if s = [] then (if (out.length : Int) = num then some out else none)
    else if (out.length : Int) = num ∨ s.length < 6 then none
    else if smallZ (s.take 2) > 4000 ∨ smallZ (s.take 2) + 6 > s.length then none
    else if s.take ((smallZ (s.take 2)).toNat + 6) ≠ recZ (sub s 2 ((smallZ (s.take 2)).toNat + 2)) then none
    else partF f (s.drop ((smallZ (s.take 2)).toNat + 6)) (out ++ [sub s 2 ((smallZ (s.take 2)).toNat + 2)]) num
def partZ (s : Bs) (num : Int) : Option (List Bs) := partF (s.length + 1) s [] num
theorem beZ_nonneg : ∀ (s : Bs) (n : Int), 0 ≤ n → 0 ≤ beZ s n := by
  intro s
  induction s with
  | nil => intro n h; exact h
  | cons c s ih => intro n h; exact ih _ (by omega)
theorem beZ_lt : ∀ (s : Bs) (n : Int), 0 ≤ n → beZ s n < (n + 1) * 256 ^ s.length := by
  intro s
  induction s with
  | nil => intro n h; simp [beZ]; omega
  | cons c s ih =>
    intro n h
    have hc : c.toNat < 256 := c.toNat_lt
    have h1 := ih (n * 256 + c.toNat) (by omega)
    simp only [beZ, List.length_cons]
    refine Int.lt_of_lt_of_le h1 ?_
    rw [Int.pow_succ, Int.mul_comm (256 ^ s.length) 256, ← Int.mul_assoc]
    exact Int.mul_le_mul_of_nonneg_right (by omega) (Int.le_of_lt (Int.pow_pos (by decide)))
theorem smallZ_nonneg {s : Bs} (h : s.length ≤ 7) : 0 ≤ smallZ s ∧ smallZ s < 256 ^ s.length ∧ smallZ s = beZ s 0 := by
  have h0 := beZ_nonneg s 0 (by omega)
  have h1 := beZ_lt s 0 (by omega)
  have h2 : ∀ k, k ≤ 7 → (256 : Int) ^ k ≤ 72057594037927936 := by decide
  have h2 := h2 _ h
  have e : smallZ s = beZ s 0 := i64w (by omega)
  rw [e]; omega
theorem sub_len {s : Bs} {i j : Nat} (h : j ≤ s.length) : (sub s i j).length = j - i := by simp [sub]; omega
structure Wl where
  recs : List Bs
  synced : Int
  area : Int
  count : Int
  a : Int
  b : Int
  doubt : Bool
/-- The bytes of an area: whole sectors. -/
def areaZ (δ : Dk) (area : Int) (n : Nat) : Bs := (List.range n).flatMap fun i : Nat => δ.now.getD (2 + area * halfZ δ + (i : Int)).toNat []
def bestZ (δ : Dk) : Option Mk :=
  match foundZ δ 0, foundZ δ 1 with
  | some m, some k => some (if k.count > m.count then k else m)
  | some m, none => some m
  | none, o => o
def bytesZ (δ : Dk) (m : Mk) : Bs := (areaZ δ m.area ((m.len.toNat + 63) / 64)).take m.len.toNat
def openZ (δ : Dk) : Option Wl :=
  match bestZ δ with
  | none => none
  | some m => match partZ (bytesZ δ m) m.num with
    | none => none
    | some l => some ⟨l, l.length, m.area, m.count, m.a, m.b, false⟩
def wlR (x d : Nat) (ω : Wl) : HP := fun h => ∃ v : Value × Value, sep [ptc x [vptr d, v.1, vint ω.synced, v.2, vint ω.area, vint ω.count, vint ω.a, vint ω.b, .bool ω.doubt] 118, strR v.1 ω.recs, bytR v.2 (laidZ ω.recs)] h
structure MkI (δ : Dk) (m : Mk) : Prop where
  count : 1 ≤ m.count ∧ m.count ≤ 4294967295
  area : 0 ≤ m.area ∧ m.area ≤ 1
  len : 0 ≤ m.len ∧ m.len ≤ 64 * halfZ δ
  num : 0 ≤ m.num ∧ m.num ≤ 4294967295
  a : 0 ≤ m.a ∧ m.a ≤ 9223372036854775807
  b : 0 ≤ m.b ∧ m.b ≤ 9223372036854775807
theorem small4 {s : Bs} {i j : Nat} (h : j ≤ s.length) (hk : j - i = 4) : 0 ≤ smallZ (sub s i j) ∧ smallZ (sub s i j) ≤ 4294967295 := by
  have hl := sub_len (i := i) h
  obtain ⟨h1, h2, -⟩ := smallZ_nonneg (s := sub s i j) (by omega)
  rw [hl, hk] at h2
  have e : (256 : Int) ^ 4 = 4294967296 := rfl
  omega
theorem smallZ_i64 (s : Bs) : -9223372036854775808 ≤ smallZ s ∧ smallZ s ≤ 9223372036854775807 := by unfold smallZ; rw [wrap64]; omega
theorem foundZ_some {δ : Dk} (hok : δ.Ok) {n : Int} {m : Mk} (h : foundZ δ n = some m) : MkI δ m ∧ m.count % 2 = n ∧ (δ.read n).1 = m.sec ∧ (δ.read n).2 = 0 := by
  unfold foundZ at h
  by_cases h0 : (δ.read n).2 ≠ 0
  · rw [if_pos h0] at h; cases h
  · rw [if_neg h0] at h
    have h0' : (δ.read n).2 = 0 := by simpa using h0
    by_cases hb : badMk δ n (δ.read n).1 (parseZ (δ.read n).1)
    · rw [if_pos hb] at h; cases h
    · rw [if_neg hb] at h
      have hl := read_len hok h0'
      generalize (δ.read n).1 = s at *
      have h := Option.some.inj h
      unfold badMk at hb
      simp only [not_or] at hb
      obtain ⟨b1, b2, b3, b4, b5, b6, b7⟩ := hb
      have q1 := small4 (s := s) (i := 2) (j := 6) (by omega) rfl
      have q3 := small4 (s := s) (i := 7) (j := 11) (by omega) rfl
      have q4 := small4 (s := s) (i := 11) (j := 15) (by omega) rfl
      have q2 := (smallZ_nonneg (s := sub s 6 7) (by rw [sub_len (by omega)]; decide)).1
      have q5 := smallZ_i64 (sub s 15 23)
      have q6 := smallZ_i64 (sub s 23 31)
      subst h
      simp only [parseZ] at *
      have c1 : smallZ (sub s 6 7) ≤ 1 := by omega
      have c2 : smallZ (sub s 7 11) ≤ 64 * halfZ δ := by omega
      have c3 : 1 ≤ smallZ (sub s 2 6) := by omega
      have c4 : 0 ≤ smallZ (sub s 15 23) := by omega
      have c5 : 0 ≤ smallZ (sub s 23 31) := by omega
      have c6 : smallZ (sub s 2 6) % 2 = n := by omega
      exact ⟨⟨⟨c3, q1.2⟩, ⟨q2, c1⟩, ⟨q3.1, c2⟩, q4, ⟨c4, q5.2⟩, ⟨c5, q6.2⟩⟩, c6, by simpa using b7, h0'⟩
theorem bestZ_some {δ : Dk} (hok : δ.Ok) {m : Mk} (h : bestZ δ = some m) : MkI δ m := by
  unfold bestZ at h
  rcases h0 : foundZ δ 0 with _ | m0 <;> rcases h1 : foundZ δ 1 with _ | m1 <;> rw [h0, h1] at h
  · cases h
  · cases h; exact (foundZ_some hok h1).1
  · cases h; exact (foundZ_some hok h0).1
  · simp only [Option.some.injEq] at h
    split at h
    · subst h; exact (foundZ_some hok h1).1
    · subst h; exact (foundZ_some hok h0).1
theorem areaZ_succ (δ : Dk) (area : Int) (i : Nat) : areaZ δ area (i + 1) = areaZ δ area i ++ δ.now.getD (2 + area * halfZ δ + (i : Int)).toNat [] := by
  unfold areaZ; rw [List.range_succ, List.flatMap_append]; simp
theorem area_idx {δ : Dk} (hn : 2 ≤ δ.now.length) {area : Int} (ha : 0 ≤ area ∧ area ≤ 1) {i : Nat} (hi : (i : Int) < halfZ δ) : 0 ≤ 2 + area * halfZ δ + i ∧ 2 + area * halfZ δ + i < δ.now.length := by
  unfold halfZ at *
  rcases (by omega : area = 0 ∨ area = 1) with rfl | rfl <;> omega
theorem areaZ_len {δ : Dk} (hok : δ.Ok) (hn : 2 ≤ δ.now.length) {area : Int} (ha : 0 ≤ area ∧ area ≤ 1) : ∀ i : Nat, (i : Int) ≤ halfZ δ → (areaZ δ area i).length = 64 * i := by
  intro i
  induction i with
  | zero => intro _; rfl
  | succ i ih =>
    intro hi
    have h1 := area_idx hn ha (i := i) (by omega)
    rw [areaZ_succ, List.length_append, ih (by omega), getD_mem64' hok.sec (by omega)]; omega
theorem area_read {δ : Dk} (hd : δ.dead = false) (hn : 2 ≤ δ.now.length) {area : Int} (ha : 0 ≤ area ∧ area ≤ 1) {i : Nat} (hi : (i : Int) < halfZ δ) : δ.read (2 + area * halfZ δ + i) = (δ.now.getD (2 + area * halfZ δ + (i : Int)).toNat [], 0) := by
  have h1 := area_idx hn ha hi
  have h2 : δ.has (2 + area * halfZ δ + i) = true := by simp only [Dk.has, Bool.and_eq_true, decide_eq_true_eq]; exact h1
  unfold Dk.read
  rw [hd, h2]; rfl
def secs (m : Mk) : Nat := (m.len.toNat + 63) / 64
def openB (δ : Dk) (m : Mk) : Option Wl := match partZ (bytesZ δ m) m.num with
  | none => none
  | some l => some ⟨l, l.length, m.area, m.count, m.a, m.b, false⟩
theorem openZ_none {δ : Dk} (h : bestZ δ = none) : openZ δ = none := by unfold openZ; rw [h]
theorem openZ_some {δ : Dk} {m : Mk} (h : bestZ δ = some m) : openZ δ = openB δ m := by unfold openZ; rw [h]; rfl
theorem bytesZ_len {δ : Dk} (hok : δ.Ok) (hn : 2 ≤ δ.now.length) {m : Mk} (hm : MkI δ m) : (areaZ δ m.area (secs m)).length = 64 * secs m ∧ m.len.toNat ≤ 64 * secs m ∧ (bytesZ δ m).length = m.len.toNat ∧ (secs m : Int) ≤ halfZ δ := by
  have h1 := hm.len
  have hs : (secs m : Int) ≤ halfZ δ := by unfold secs; omega
  have h2 := areaZ_len hok hn hm.area (secs m) hs
  have h3 : m.len.toNat ≤ 64 * secs m := by unfold secs; omega
  refine ⟨h2, h3, ?_, hs⟩
  show ((areaZ δ m.area (secs m)).take m.len.toNat).length = _
  rw [List.length_take, h2]; omega
/-- Bytes that are parted are those of records. -/
theorem partF_laid : ∀ (f : Nat) (s : Bs) (out : List Bs) (num : Int) (l : List Bs), partF f s out num = some l → laidZ l = laidZ out ++ s ∧ (l.length : Int) = num := by
  intro f
  induction f with
  | zero => intro s out num l h; cases h
  | succ f ih =>
    intro s out num l h
    simp only [partF] at h
    by_cases h0 : s = []
    · subst h0
      simp only [if_true] at h
      split at h
      · rename_i hq; cases h; exact ⟨by simp, hq⟩
      · cases h
    · rw [if_neg h0] at h
      by_cases h1 : (out.length : Int) = num ∨ s.length < 6
      · rw [if_pos h1] at h; cases h
      · rw [if_neg h1] at h
        by_cases h2 : smallZ (s.take 2) > 4000 ∨ smallZ (s.take 2) + 6 > s.length
        · rw [if_pos h2] at h; cases h
        · rw [if_neg h2] at h
          by_cases h3 : s.take ((smallZ (s.take 2)).toNat + 6) ≠ recZ (sub s 2 ((smallZ (s.take 2)).toNat + 2))
          · rw [if_pos h3] at h; cases h
          · rw [if_neg h3] at h
            have h3 := Decidable.not_not.1 h3
            obtain ⟨q1, q2⟩ := ih _ _ _ _ h
            refine ⟨?_, q2⟩
            rw [q1, laidZ_append]
            have e : laidZ [sub s 2 ((smallZ (s.take 2)).toNat + 2)] = recZ (sub s 2 ((smallZ (s.take 2)).toNat + 2)) := by simp [laidZ]
            rw [e, ← h3, List.append_assoc, List.take_append_drop]
theorem partZ_laid {s : Bs} {num : Int} {l : List Bs} (h : partZ s num = some l) : laidZ l = s ∧ (l.length : Int) = num := by
  have := partF_laid _ _ _ _ _ h
  simpa [laidZ] using this
section
variable {W : World} {n : Nat} {ds : List Deferred} {E : Env} {L R : List HP} {X : Act → World → Prop}
theorem G.wlOpen {x d : Nat} {ω : Wl} (hL : Pick (wlR x d ω) L R) (h : ∀ vr vb, G W n ds E (ptc x [vptr d, vr, vint ω.synced, vb, vint ω.area, vint ω.count, vint ω.a, vint ω.b, .bool ω.doubt] 118 :: strR vr ω.recs :: bytR vb (laidZ ω.recs) :: R) X) : G W n ds E L X :=
  G.focus hL (G.open (q := fun v : Value × Value => [ptc x [vptr d, v.1, vint ω.synced, v.2, vint ω.area, vint ω.count, vint ω.a, vint ω.b, .bool ω.doubt] 118, strR v.1 ω.recs, bytR v.2 (laidZ ω.recs)]) (φ := fun _ => True) (fun h hp => by obtain ⟨v, hv⟩ := hp; exact ⟨v, trivial, hv⟩) fun v _ => h v.1 v.2)
theorem G.wlFold {x d m k : Nat} {ω : Wl} {vr vb : Value} {l ys zs : List Value} (hL : Picks [ptc x l 118, slR 9 1 vr m ys, slR 5 1 vb k zs] L R) (h0 : l = [vptr d, vr, vint ω.synced, vb, vint ω.area, vint ω.count, vint ω.a, vint ω.b, .bool ω.doubt])
    (h1 : m = ω.recs.length) (h2 : ys = strs ω.recs) (h3 : k = (laidZ ω.recs).length) (h4 : zs = bysL (laidZ ω.recs)) (h : G W n ds E (wlR x d ω :: R) X) : G W n ds E L X := by
  subst h0; subst h1; subst h2; subst h3; subst h4
  exact G.fold hL (fun _ hp => ⟨(vr, vb), hp⟩) h
end
end Go.Proofs.Ytepncdidkjjllaa
