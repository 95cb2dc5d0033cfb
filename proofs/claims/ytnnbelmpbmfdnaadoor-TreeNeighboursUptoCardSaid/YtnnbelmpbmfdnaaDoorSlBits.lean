/- Own work: shifts and bits; a slice and nil; numbers out of bytes. -/
import Derived.Test.YtnnbelmpbmfdnaaDoorSlMore
namespace Go.Proofs.YtnnbelmpbmfdnaaDoor
open Go

section
variable {P : Program} {E : Env} {L R : List HP} {ty : TypeId} {w : World}
theorem Quiet.shl {t t' : TypeId} {x y : Operand} {k yk : IntKind} {a b : Int} (hx : ev E x = some (.int k a)) (hy : ev E y = some (.int yk b)) (hb : 0 ≤ b) :
    Quiet P ⟨none, .binOp .shl t x y t', ty, "", #[], none⟩ E L (.int k (k.wrap (a * 2 ^ min b.toNat k.bits))) := by
  intro ρ w ha _
  have hb' : ¬ b < 0 := by omega
  simp [execOp, ha x _ hx, ha y _ hy, eqGuard, binOp, Op.shift, Bind.bind, Sem.bind, Pure.pure, Sem.run, hb']
theorem Quiet.shr {t t' : TypeId} {x y : Operand} {k yk : IntKind} {a b : Int} (hx : ev E x = some (.int k a)) (hy : ev E y = some (.int yk b)) (hb : 0 ≤ b) :
    Quiet P ⟨none, .binOp .shr t x y t', ty, "", #[], none⟩ E L (.int k (a.fdiv (2 ^ min b.toNat k.bits))) := by
  intro ρ w ha _
  have hb' : ¬ b < 0 := by omega
  simp [execOp, ha x _ hx, ha y _ hy, eqGuard, binOp, Op.shift, Bind.bind, Sem.bind, Pure.pure, Sem.run, hb']
theorem Quiet.or {t t' : TypeId} {x y : Operand} {k : IntKind} {a b : Int} (hx : ev E x = some (.int k a)) (hy : ev E y = some (.int k b)) :
    Quiet P ⟨none, .binOp .or t x y t', ty, "", #[], none⟩ E L (.int k (k.wrap (BitVec.ofInt k.bits a ||| BitVec.ofInt k.bits b).toNat)) := by
  intro ρ w ha _
  simp [execOp, ha x _ hx, ha y _ hy, eqGuard, binOp, Op.intBits, Bind.bind, Sem.bind, Pure.pure, Sem.run]
theorem Quiet.xor {t t' : TypeId} {x y : Operand} {k : IntKind} {a b : Int} (hx : ev E x = some (.int k a)) (hy : ev E y = some (.int k b)) :
    Quiet P ⟨none, .binOp .xor t x y t', ty, "", #[], none⟩ E L (.int k (k.wrap (BitVec.ofInt k.bits a ^^^ BitVec.ofInt k.bits b).toNat)) := by
  intro ρ w ha _
  simp [execOp, ha x _ hx, ha y _ hy, eqGuard, binOp, Op.intBits, Bind.bind, Sem.bind, Pure.pure, Sem.run]
theorem Quiet.and {t t' : TypeId} {x y : Operand} {k : IntKind} {a b : Int} (hx : ev E x = some (.int k a)) (hy : ev E y = some (.int k b)) :
    Quiet P ⟨none, .binOp .and t x y t', ty, "", #[], none⟩ E L (.int k (k.wrap (BitVec.ofInt k.bits a &&& BitVec.ofInt k.bits b).toNat)) := by
  intro ρ w ha _
  simp [execOp, ha x _ hx, ha y _ hy, eqGuard, binOp, Op.intBits, Bind.bind, Sem.bind, Pure.pure, Sem.run]
theorem run_equal_slice {t e : TypeId} {a : Option Addr} {n c : Nat} (ht : P.underlying t = some (.slice e)) : (Op.equal t (.slice a n c) (.slice none 0 0)).run P w = .ok a.isNone w := by
  unfold Op.equal
  rw [show Op.maxDepth = 9999 + 1 from rfl]
  generalize 9999 = d
  unfold Op.equalIn
  rw [run_bind (run_underlying ht)]; cases a <;> rfl
theorem Quiet.sleq {t t' e : TypeId} {x y : Operand} {a : Option Addr} {n c : Nat} (hx : ev E x = some (.slice a n c)) (hy : ev E y = some (.slice none 0 0)) (ht : P.underlying t = some (.slice e)) : Quiet P ⟨none, .binOp .eql t x y t', ty, "", #[], none⟩ E L (.bool a.isNone) :=
  fun _ _ ha _ => run_eql (ha x _ hx) (ha y _ hy) rfl rfl (run_equal_slice ht)
theorem Quiet.slne {t t' e : TypeId} {x y : Operand} {a : Option Addr} {n c : Nat} (hx : ev E x = some (.slice a n c)) (hy : ev E y = some (.slice none 0 0)) (ht : P.underlying t = some (.slice e)) : Quiet P ⟨none, .binOp .neq t x y t', ty, "", #[], none⟩ E L (.bool (!a.isNone)) :=
  fun _ _ ha _ => run_neq (ha x _ hx) (ha y _ hy) rfl rfl (run_equal_slice ht)
end
theorem bv_shl_or (n : Int) {c : Int} (hc : 0 ≤ c ∧ c < 256) : ((BitVec.ofInt 64 (n * 256) ||| BitVec.ofInt 64 c).toNat : Int) = (n * 256 + c) % 18446744073709551616 := by
  have h0 : BitVec.ofInt 64 (n * 256) &&& BitVec.ofInt 64 c = 0#64 := by
    have e1 : BitVec.ofInt 64 (n * 256) = BitVec.ofInt 64 n <<< 8 := by
      apply BitVec.eq_of_toNat_eq
      rw [BitVec.toNat_shiftLeft, BitVec.toNat_ofInt, BitVec.toNat_ofInt, Nat.shiftLeft_eq]
      have e : ((2 ^ 64 : Nat) : Int) = 18446744073709551616 := rfl
      have e' : (2 ^ 64 : Nat) = 18446744073709551616 := rfl
      have e8 : (2 ^ 8 : Nat) = 256 := rfl
      rw [e, e', e8]
      omega
    have e2 : BitVec.ofInt 64 c = BitVec.setWidth 64 (BitVec.ofInt 8 c) := by
      apply BitVec.eq_of_toNat_eq
      simp only [BitVec.toNat_ofInt, BitVec.toNat_setWidth]
      omega
    rw [e1, e2]
    apply BitVec.eq_of_getLsbD_eq
    intro i hi
    simp only [BitVec.getLsbD_and, BitVec.getLsbD_shiftLeft, BitVec.getLsbD_setWidth, BitVec.getLsbD_zero]
    by_cases h8 : i < 8
    · simp [h8]
    · have : (BitVec.ofInt 8 c).getLsbD i = false := BitVec.getLsbD_of_ge _ _ (by omega)
      simp [this]
  rw [← BitVec.add_eq_or_of_and_eq_zero _ _ h0, BitVec.toNat_add, BitVec.toNat_ofInt, BitVec.toNat_ofInt]
  omega
/-- The number that bytes are, the highest first. -/
def beZ : List UInt8 → Int → Int
  | [], n => n
  | c :: s, n => beZ s (n * 256 + c.toNat)
theorem wrap64 (x : Int) : IntKind.i64.wrap x = (x + 9223372036854775808) % 18446744073709551616 - 9223372036854775808 := by rw [IntKind.wrap_i64]
theorem small_step (n : Int) (c : UInt8) : IntKind.i64.wrap (BitVec.ofInt 64 (IntKind.i64.wrap (n * 256)) ||| BitVec.ofInt 64 (IntKind.i64.wrap c.toNat)).toNat = IntKind.i64.wrap (n * 256 + c.toNat) := by
  have hc : c.toNat < 256 := c.toNat_lt
  have e1 : IntKind.i64.wrap (c.toNat : Int) = c.toNat := i64w (by omega)
  have e2 : BitVec.ofInt 64 (IntKind.i64.wrap (n * 256)) = BitVec.ofInt 64 (n * 256) := by
    apply BitVec.eq_of_toNat_eq
    rw [BitVec.toNat_ofInt, BitVec.toNat_ofInt, wrap64]; omega
  rw [e1, e2, bv_shl_or n (by omega), wrap64, wrap64]
  omega
end Go.Proofs.YtnnbelmpbmfdnaaDoor
