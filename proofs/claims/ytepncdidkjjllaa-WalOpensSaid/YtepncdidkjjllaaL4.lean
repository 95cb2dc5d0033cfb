/- Own work: the helpers of law 04, as plain data. -/
import Derived.Test.YtepncdidkjjllaaWalFormat
namespace Go.Proofs.Ytepncdidkjjllaa
open Go

def bytTo (f : Int) (k : Nat) : Bs := (List.range k).map fun (i : Nat) => byteZ (f + (i : Int) * 3)
def bytZ (n f : Int) : Bs := bytTo f (pickZ n 4002).toNat
theorem bytTo_len (f : Int) (k : Nat) : (bytTo f k).length = k := by simp [bytTo]
theorem bytZ_len (n f : Int) : (bytZ n f).length ≤ 4001 := by
  have := pickZ_range n (n := 4002) (by decide)
  rw [bytZ, bytTo_len]; omega
theorem bytTo_succ (f : Int) (i : Nat) : bytTo f (i + 1) = bytTo f i ++ [byteZ (f + (i : Int) * 3)] := by
  simp [bytTo, List.range_succ]
def bytC (f : Int) (k i : Nat) : List Value := bysL (bytTo f i) ++ List.replicate (k - i) (.int .u8 0)
theorem bytC_0 (f : Int) (k : Nat) : bytC f k 0 = List.replicate k (.int .u8 0) := by simp [bytC, bytTo, bysL]
theorem bytC_k (f : Int) (k : Nat) : bytC f k k = bysL (bytTo f k) := by simp [bytC]
theorem bytC_len {f : Int} {k i : Nat} (h : i ≤ k) : (bytC f k i).length = k := by simp [bytC, bysL_len, bytTo_len]; omega
theorem bytC_set {f : Int} {k i : Nat} (h : i < k) : (bytC f k i).set i (vbyte (byteZ (f + (i : Int) * 3))) = bytC f k (i + 1) := by
  have e : bysL (bytTo f i) = bysL (bytTo f i) := rfl
  have hl : (bysL (bytTo f i)).length = i := by rw [bysL_len, bytTo_len]
  unfold bytC
  rw [List.set_append_right _ _ (by omega), hl, Nat.sub_self, bytTo_succ, bysL_append, show k - i = (k - (i + 1)) + 1 by omega, List.replicate_succ]
  simp [bysL]
theorem byt_wrap (f : Int) (i : Nat) : IntKind.u8.wrap (IntKind.i64.wrap (f + IntKind.i64.wrap ((i : Int) * 3))) = IntKind.u8.wrap (f + (i : Int) * 3) := by
  have e : ∀ x : Int, IntKind.u8.wrap x = x % 256 := fun x => rfl
  rw [e, e, wrap64, wrap64]; omega
def manyTo (l : List Int) (k : Nat) : List Bs := (l.take k).map fun n => bytZ n (n.tdiv 7)
def manyZ (l : List Int) : List Bs := manyTo l 20
theorem manyTo_succ {l : List Int} {i : Nat} (h : i < l.length) : manyTo l (i + 1) = manyTo l i ++ [bytZ l[i] (l[i].tdiv 7)] := by
  unfold manyTo
  rw [List.take_succ_eq_append_getElem h, List.map_append]; rfl
theorem manyTo_len {l : List Int} {i : Nat} (h : i ≤ l.length) : (manyTo l i).length = i := by simp [manyTo]; omega
theorem manyTo_end {l : List Int} {i : Nat} (h : i = 20 ∨ i = l.length ∧ l.length ≤ 20) : manyTo l i = manyZ l := by
  rcases h with rfl | ⟨rfl, h⟩
  · rfl
  · unfold manyZ manyTo; rw [List.take_of_length_le (Nat.le_refl _), List.take_of_length_le h]
theorem manyZ_len (l : List Int) : (manyZ l).length ≤ 20 := by simp [manyZ, manyTo]; omega
theorem laidZ_le {l : List Bs} {k : Nat} (h : ∀ s ∈ l, s.length ≤ k) : (laidZ l).length ≤ l.length * (k + 6) := by
  induction l with
  | nil => simp [laidZ]
  | cons x l ih =>
    have e : laidZ (x :: l) = recZ x ++ laidZ l := by simp [laidZ]
    have h1 := ih fun s hs => h s (List.mem_cons_of_mem _ hs)
    have h2 := h x List.mem_cons_self
    rw [e, List.length_append, recZ_len, List.length_cons, Nat.add_mul]; omega
theorem manyZ_laid (l : List Int) : (laidZ (manyZ l)).length ≤ 80140 := by
  have h1 : ∀ s ∈ manyZ l, s.length ≤ 4001 := by
    intro s hs; obtain ⟨n, -, rfl⟩ := List.mem_map.1 hs; exact bytZ_len _ _
  have h2 := laidZ_le h1
  have h3 := manyZ_len l
  omega
theorem take_sameB {a b : List Bs} {i : Nat} (h1 : i < a.length) (h2 : i < b.length) (h : a.take i = b.take i) (he : a[i] = b[i]) : a.take (i + 1) = b.take (i + 1) := by
  rw [List.take_succ_eq_append_getElem h1, List.take_succ_eq_append_getElem h2, h, he]
theorem tdiv7 {a : Int} (h : -9223372036854775808 ≤ a ∧ a ≤ 9223372036854775807) : -9223372036854775808 ≤ a.tdiv 7 ∧ a.tdiv 7 ≤ 9223372036854775807 := by
  rcases Int.lt_or_le a 0 with h0 | h0
  · have e : a.tdiv 7 = -((-a).tdiv 7) := by rw [Int.neg_tdiv, Int.neg_neg]
    rw [e, Int.tdiv_eq_ediv_of_nonneg (by omega)]; omega
  · rw [Int.tdiv_eq_ediv_of_nonneg h0]; omega
end Go.Proofs.Ytepncdidkjjllaa
