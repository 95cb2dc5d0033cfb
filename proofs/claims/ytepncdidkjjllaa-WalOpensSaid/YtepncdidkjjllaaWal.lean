/- Own work: numbers as bytes, sums, records and marks, as plain data. -/
import Derived.Test.YtepncdidkjjllaaFacts
import Derived.Test.YtepncdidkjjllaaSlBits
import Derived.Test.YtepncdidkjjllaaSlCalls
import Derived.Test.YtepncdidkjjllaaDk
namespace Go.Proofs.Ytepncdidkjjllaa
open Go

abbrev Bs := List UInt8
def byteZ (x : Int) : UInt8 := UInt8.ofNat (x % 256).toNat
/-- The lowest k bytes of a number, the highest first. -/
def beB (n : Int) : Nat → Bs
  | 0 => []
  | k + 1 => beB (n / 256) k ++ [byteZ n]
theorem beB_len (k : Nat) : ∀ n, (beB n k).length = k := by
  induction k with
  | zero => intro n; rfl
  | succ k ih => intro n; simp [beB, ih]
theorem beB_at (k : Nat) : ∀ (n : Int) (i : Nat), i < k → (beB n k)[k - 1 - i]? = some (byteZ (n / 256 ^ i)) := by
  induction k with
  | zero => intro n i h; omega
  | succ k ih =>
    intro n i h
    simp only [beB]
    cases i with
    | zero =>
      rw [List.getElem?_append_right (by rw [beB_len]; omega), beB_len]
      simp
    | succ i =>
      have := ih (n / 256) i (by omega)
      rw [List.getElem?_append_left (by rw [beB_len]; omega), show k + 1 - 1 - (i + 1) = k - 1 - i by omega, this, Int.ediv_ediv_of_nonneg (by omega)]
      congr 3
      rw [Int.pow_succ]; exact Int.mul_comm _ _
def bysL (s : Bs) : List Value := s.map vbyte
theorem vbyteZ (x : Int) : vbyte (byteZ x) = .int .u8 (IntKind.u8.wrap x) := by
  show Value.int .u8 _ = Value.int .u8 (x % 256)
  congr 1
  simp [byteZ]; omega
/-- A row whose last i cells of k have been laid. -/
def fillB (l : List Value) (off : Nat) (n : Int) (k i : Nat) : List Value := l.take (off + (k - i)) ++ bysL ((beB n k).drop (k - i)) ++ l.drop (off + k)
theorem fillB_0 (l : List Value) (off : Nat) (n : Int) (k : Nat) : fillB l off n k 0 = l := by
  simp [fillB, bysL, List.drop_eq_nil_of_le, beB_len]
theorem fillB_k (l : List Value) (off : Nat) (n : Int) (k : Nat) : fillB l off n k k = spl l off (bysL (beB n k)) := by
  simp [fillB, spl, bysL, beB_len]
theorem fillB_step {l : List Value} {off : Nat} {n : Int} {k i : Nat} (hi : i < k) (hl : off + k ≤ l.length) : (fillB l off n k i).set (off + (k - 1 - i)) (vbyte (byteZ (n / 256 ^ i))) = fillB l off n k (i + 1) := by
  have h1 := beB_at k n i hi
  have hlen : (beB n k).length = k := beB_len k n
  unfold fillB
  have e1 : l.take (off + (k - i)) = l.take (off + (k - 1 - i)) ++ [l[off + (k - 1 - i)]'(by omega)] := by
    rw [show off + (k - i) = off + (k - 1 - i) + 1 by omega, List.take_succ_eq_append_getElem (by omega)]
  have e2 : (beB n k).drop (k - (i + 1)) = byteZ (n / 256 ^ i) :: (beB n k).drop (k - i) := by
    have : k - (i + 1) = k - 1 - i := by omega
    rw [this, List.drop_eq_getElem_cons (by omega)]
    have h3 : (beB n k)[k - 1 - i]'(by omega) = byteZ (n / 256 ^ i) := by
      rw [List.getElem?_eq_getElem (by omega)] at h1; exact Option.some.inj h1
    rw [h3, show k - 1 - i + 1 = k - i by omega]
  rw [e1, e2, show off + (k - (i + 1)) = off + (k - 1 - i) by omega]
  rw [List.append_assoc, List.append_assoc, List.append_assoc, List.set_append_right _ _ (by simp; omega)]
  have : (l.take (off + (k - 1 - i))).length = off + (k - 1 - i) := by rw [List.length_take]; omega
  rw [this, Nat.sub_self]
  simp [bysL]
theorem fillB_len {l : List Value} {off : Nat} {n : Int} {k i : Nat} (hi : i ≤ k) (hl : off + k ≤ l.length) : (fillB l off n k i).length = l.length := by
  simp [fillB, bysL, beB_len]; omega
theorem pow256 (i : Nat) : (2 : Int) ^ (8 * i) = 256 ^ i := by rw [Int.pow_mul]; rfl
theorem shr_at {n : Int} {i : Nat} (hi : i ≤ 7) : IntKind.u8.wrap (n.fdiv (2 ^ min (8 * (i : Int)).toNat IntKind.i64.bits)) = IntKind.u8.wrap (n / 256 ^ i) := by
  have e : min (8 * (i : Int)).toNat IntKind.i64.bits = 8 * i := by
    have : IntKind.i64.bits = 64 := rfl
    omega
  rw [e, pow256, Int.fdiv_eq_ediv_of_nonneg _ (Int.le_of_lt (Int.pow_pos (by decide)))]
/-- A small number of bytes. -/
def smallZ (s : Bs) : Int := IntKind.i64.wrap (beZ s 0)
theorem beZ_append (s t : Bs) : ∀ n, beZ (s ++ t) n = beZ t (beZ s n) := by
  induction s with
  | nil => intro n; rfl
  | cons c s ih => intro n; simp [beZ, ih]
theorem small_next {s : Bs} {i : Nat} (hi : i < s.length) : IntKind.i64.wrap (BitVec.ofInt IntKind.i64.bits (IntKind.i64.wrap (IntKind.i64.wrap (beZ (s.take i) 0) * 2 ^ min (8 : Int).toNat IntKind.i64.bits)) ||| BitVec.ofInt IntKind.i64.bits (IntKind.i64.wrap (s[i].toNat : Int))).toNat = IntKind.i64.wrap (beZ (s.take (i + 1)) 0) := by
  rw [List.take_succ_eq_append_getElem hi, beZ_append]
  have e : IntKind.i64.wrap (IntKind.i64.wrap (beZ (s.take i) 0) * 2 ^ min (8 : Int).toNat IntKind.i64.bits) = IntKind.i64.wrap (beZ (s.take i) 0 * 256) := by
    have : (2 : Int) ^ min (8 : Int).toNat IntKind.i64.bits = 256 := rfl
    rw [this, wrap64, wrap64, wrap64]; omega
  rw [e]
  exact small_step _ _
/-! ### The sum -/
def sumStep (h : Int) (c : UInt8) : Int := IntKind.u32.wrap (IntKind.u32.wrap (BitVec.ofInt 32 h ^^^ BitVec.ofInt 32 (IntKind.u32.wrap c.toNat)).toNat * 16777619)
def sumZ (s : Bs) : Int := s.foldl sumStep 2166136261
theorem sumZ_next {s : Bs} {i : Nat} (hi : i < s.length) : sumZ (s.take (i + 1)) = sumStep (sumZ (s.take i)) s[i] := by
  rw [List.take_succ_eq_append_getElem hi, sumZ, List.foldl_append]; rfl
theorem u32wrap (x : Int) : IntKind.u32.wrap x = x % 4294967296 := rfl
theorem sumZ_range (s : Bs) : 0 ≤ sumZ s ∧ sumZ s < 4294967296 := by
  rcases List.eq_nil_or_concat s with rfl | ⟨t, c, rfl⟩
  · exact ⟨by decide, by decide⟩
  · rw [sumZ, List.concat_eq_append, List.foldl_append]
    simp only [List.foldl_cons, List.foldl_nil]
    rw [sumStep, u32wrap]; omega
/-! ### Records, marks -/
def headZ (s : Bs) : Bs := beB s.length 2 ++ s
def recZ (s : Bs) : Bs := headZ s ++ beB (sumZ (headZ s)) 4
theorem recZ_len (s : Bs) : (recZ s).length = s.length + 6 := by simp [recZ, headZ, beB_len]; omega
def laidZ (l : List Bs) : Bs := l.flatMap recZ
theorem laidZ_append (l m : List Bs) : laidZ (l ++ m) = laidZ l ++ laidZ m := by simp [laidZ]
abbrev bytR (v : Value) (s : Bs) : HP := slR 5 1 v s.length (bysL s)
theorem bysL_append (s t : Bs) : bysL (s ++ t) = bysL s ++ bysL t := by simp [bysL]
theorem bysL_len (s : Bs) : (bysL s).length = s.length := by simp [bysL]
theorem bysL_cell (s : Bs) : ∀ y ∈ bysL s, isCell y = true := by
  intro y hy; obtain ⟨c, -, rfl⟩ := List.mem_map.1 hy; rfl
theorem recZ_mem {l : List Bs} {s : Bs} (h : s ∈ l) : s.length + 6 ≤ (laidZ l).length := by
  induction l with
  | nil => simp at h
  | cons x l ih =>
    have e : laidZ (x :: l) = recZ x ++ laidZ l := by simp [laidZ]
    rw [e, List.length_append, recZ_len]
    rcases List.mem_cons.1 h with rfl | h
    · omega
    · have := ih h; omega
theorem laidZ_many (l : List Bs) : l.length ≤ (laidZ l).length := by
  induction l with
  | nil => simp
  | cons x l ih =>
    have e : laidZ (x :: l) = recZ x ++ laidZ l := by simp [laidZ]
    rw [e, List.length_append, recZ_len, List.length_cons]; omega
theorem laidZ_take_len (l : List Bs) (i : Nat) : (laidZ (l.take i)).length ≤ (laidZ l).length := by
  have e : laidZ l = laidZ (l.take i) ++ laidZ (l.drop i) := by rw [← laidZ_append, List.take_append_drop]
  rw [e, List.length_append]; omega
theorem laidZ_succ {l : List Bs} {i : Nat} (hi : i < l.length) : laidZ (l.take (i + 1)) = laidZ (l.take i) ++ recZ l[i] := by
  rw [List.take_succ_eq_append_getElem hi, laidZ_append]; simp [laidZ]
theorem spl_zero {p q : Bs} {k off : Nat} {z : Value} (ho : off = p.length) (hq : q.length ≤ k) : spl (bysL p ++ List.replicate k z) off (bysL q) = bysL (p ++ q) ++ List.replicate (k - q.length) z := by
  subst ho
  rw [← bysL_len p, bysL_append]
  simp [spl, List.drop_append, bysL_len]
structure Mk where
  count : Int
  area : Int
  len : Int
  num : Int
  a : Int
  b : Int
def mkC (m : Mk) : List Value := [vint m.count, vint m.area, vint m.len, vint m.num, vint m.a, vint m.b]
def Mk.sec (m : Mk) : Bs := [87, 77] ++ beB m.count 4 ++ beB m.area 1 ++ beB m.len 4 ++ beB m.num 4 ++ beB m.a 8 ++ beB m.b 8 ++ List.replicate 29 0 ++ beB m.count 4
def Mk.part (m : Mk) : Nat → Bs
  | 0 => [87, 77]
  | 1 => beB m.count 4
  | 2 => beB m.area 1
  | 3 => beB m.len 4
  | 4 => beB m.num 4
  | 5 => beB m.a 8
  | _ => beB m.b 8
def Mk.pre (m : Mk) (j : Nat) : Bs := (List.range (j + 1)).flatMap m.part
theorem Mk.pre_succ (m : Mk) (j : Nat) : m.pre (j + 1) = m.pre j ++ m.part (j + 1) := by
  unfold Mk.pre; rw [List.range_succ, List.flatMap_append]; simp
theorem Mk.pre_len (m : Mk) : (m.pre 0).length = 2 ∧ (m.pre 1).length = 6 ∧ (m.pre 2).length = 7 ∧ (m.pre 3).length = 11 ∧ (m.pre 4).length = 15 ∧ (m.pre 5).length = 23 ∧ (m.pre 6).length = 31 := by
  simp [Mk.pre, List.range_succ, Mk.part, beB_len]
abbrev zB : Value := .int .u8 0
def Mk.at (m : Mk) (j k : Nat) : List Value := bysL (m.pre j) ++ List.replicate k zB
theorem Mk.at_step (m : Mk) {j k off : Nat} {q : Bs} (ho : off = (m.pre j).length) (hq : q = m.part (j + 1)) (hl : q.length ≤ k) : spl (m.at j k) off (bysL q) = m.at (j + 1) (k - q.length) := by
  unfold Mk.at; rw [spl_zero ho hl, m.pre_succ, hq]
theorem Mk.at_end (m : Mk) : spl (m.at 6 33) 60 (bysL (beB m.count 4)) = bysL m.sec := by
  have e : m.at 6 33 = bysL (m.pre 6 ++ List.replicate 29 0) ++ List.replicate 4 zB := by
    unfold Mk.at
    rw [bysL_append, List.append_assoc]
    rfl
  rw [e, spl_zero (by rw [List.length_append, m.pre_len.2.2.2.2.2.2, List.length_replicate]) (by simp [beB_len]), beB_len]
  unfold Mk.sec
  generalize List.replicate 29 (0 : UInt8) = z29
  simp [Mk.pre, List.range_succ, Mk.part]
theorem Mk.sec_len (m : Mk) : m.sec.length = 64 := by simp [Mk.sec, beB_len]
def halfZ (δ : Dk) : Int := ((δ.now.length : Int) - 2) / 2
end Go.Proofs.Ytepncdidkjjllaa
