/- Own work: what the helpers of law 03 compute, in plain words. -/
import Derived.Test.YtepncdidkjjllaaDisk2
namespace Go.Proofs.Ytepncdidkjjllaa
open Go

def pickZ (c n : Int) : Int := (if c < 0 then -(c + 1) else c) % n
theorem u8wrap (x : Int) : IntKind.u8.wrap x = x % 256 := rfl
def fillV (n : Int) (i : Int) : Int := IntKind.u8.wrap (IntKind.i64.wrap (n + IntKind.i64.wrap (i * n.tmod 5)))
theorem fillV_range (n i : Int) : 0 ≤ fillV n i ∧ fillV n i < 256 := by rw [fillV, u8wrap]; omega
def fill (n : Int) : List UInt8 := (List.range 64).map fun i : Nat => UInt8.ofNat (fillV n i).toNat
theorem fill_len (n : Int) : (fill n).length = 64 := by simp [fill]
theorem vbyte_of {x : Int} (h : 0 ≤ x ∧ x < 256) : vbyte (UInt8.ofNat x.toNat) = .int .u8 x := by
  show Value.int .u8 _ = _
  congr 1
  simp; omega
theorem fill_at (n : Int) {i : Nat} (h : i < 64) : (bys (fill n))[i]'(by simp [fill_len, h]) = .int .u8 (fillV n i) := by
  simp only [fill, List.getElem_map, List.getElem_range]
  exact vbyte_of (fillV_range _ _)
theorem fill_step (n : Int) {i : Nat} (h : i < 64) : ((bys (fill n)).take i ++ (List.replicate 64 (Value.int .u8 0)).drop i).set i (.int .u8 (fillV n i)) = (bys (fill n)).take (i + 1) ++ (List.replicate 64 (Value.int .u8 0)).drop (i + 1) := by
  rw [← fill_at n h]
  exact set_take_drop (by simp [fill_len, h]) (by simp [fill_len])
section
variable {P : Program} {E : Env} {L R : List HP} {ty : TypeId}
theorem Quiet.streqT {t t' : TypeId} {x y : Operand} {a b : List UInt8} (hab : a = b) (hx : ev E x = some (vstr a)) (hy : ev E y = some (vstr b)) : Quiet P ⟨none, .binOp .eql t x y t', ty, "", #[], none⟩ E L (.bool true) := by
  have q := Quiet.streq (P := P) (L := L) (ty := ty) (t := t) (t' := t') hx hy
  rw [show (true : Bool) = decide (a = b) by simp [hab]]
  exact q
end
def aw1 (x : List UInt8) : Dk := ⟨(List.replicate 16 zs).set 3 x, [(3, zs)], 1, 0, false⟩
def aw2 (x : List UInt8) : Dk := ⟨(List.replicate 16 zs).set 3 x, [], 2, 0, false⟩
def aw3 (x y : List UInt8) : Dk := ⟨((List.replicate 16 zs).set 3 x).set 3 y, [(3, x)], 3, 0, false⟩
def aw4 (x y : List UInt8) : Dk := ⟨(((List.replicate 16 zs).set 3 x).set 3 y).set 1 y, [(3, x), (1, zs)], 4, 0, false⟩
theorem aw_1 {x : List UInt8} (h : x.length = 64) : (Dk.new 16).write 3 x = (aw1 x, 0) := by
  simp [Dk.new, Dk.write, Dk.has, h, Dk.put, Dk.act, actE, actL, actD, alook, aset, aw1]
theorem aw_2 {x : List UInt8} : (aw1 x).sync = (aw2 x, 0) := by simp [aw1, aw2, Dk.sync, Dk.act, actE, actL, actD]
theorem aw_3 {x y : List UInt8} (h : y.length = 64) : (aw2 x).write 3 y = (aw3 x y, 0) := by
  simp [aw2, Dk.write, Dk.has, h, Dk.put, Dk.act, actE, actL, actD, alook, aset, aw3]
theorem aw_4 {x y : List UInt8} (h : y.length = 64) : (aw3 x y).write 1 y = (aw4 x y, 0) := by
  simp [aw3, Dk.write, Dk.has, h, Dk.put, Dk.act, actE, actL, actD, alook, aset, aw4]
theorem sort31 : sortI [3, 1] = [1, 3] := by simp [sortI, List.mergeSort, List.MergeSort.Internal.splitInTwo, List.merge]
theorem aw_pend (x y : List UInt8) : (aw4 x y).pend = [1, 3] := by
  show sortI [3, 1] = _
  exact sort31
def aw5 (x y : List UInt8) : Dk := ⟨(((List.replicate 16 zs).set 1 y).set 3 (y.take 4 ++ x.drop 4)), [], 4, 0, false⟩
theorem aw_c {x y : List UInt8} : (aw4 x y).crash [1, 14] = aw5 x y := by
  have h2 : (aw4 x y).pend.length = 2 := by rw [aw_pend]; rfl
  have h3 : (aw4 x y).crashTo [1, 14] 2 = ((aw4 x y).crash1 1 1).crash1 14 3 := by
    show ((aw4 x y).crash1 (fateOf [1, 14] 0) ((aw4 x y).pend.getD 0 0)).crash1 (fateOf [1, 14] 1) ((aw4 x y).pend.getD 1 0) = _
    rw [aw_pend]; rfl
  rw [Dk.crash, h2, h3]
  simp [Dk.crash1, aw4, aw5, alook]
theorem aw_5 {x y : List UInt8} : (aw5 x y).read 3 = (y.take 4 ++ x.drop 4, 0) := by
  simp [aw5, Dk.read, Dk.has]
theorem aw_6 {x y : List UInt8} : (aw5 x y).read 1 = (y, 0) := by
  simp [aw5, Dk.read, Dk.has]
theorem aw_pt {b : Nat} {h : Hp} (hp : ptc b [vint 1, vint 14] 3 h) : rdS 1 h (.slice (some ⟨b, 0, none⟩) 2 2) 2 (ints [1, 14]) := slR_rd (slR_pt hp rfl)
end Go.Proofs.Ytepncdidkjjllaa
