/- Own work: the scripts of law 03 in plain words. -/
import Derived.Test.YtepncdidkjjllaaL3B
namespace Go.Proofs.Ytepncdidkjjllaa
open Go

structure OpZ where
  kind : Int
  n : Int
  f : Int
  short : Bool
  other : Bool
  how : List Int
/-- An Op's six cells. -/
def opC (hv : Value) (o : OpZ) : List Value := [vint o.kind, vint o.n, vint o.f, .bool o.short, .bool o.other, hv]
def OpZ.text (o : OpZ) : List UInt8 := if o.short then (fill o.f).drop 1 else fill o.f
def Dk.step (δ : Dk) (o : OpZ) : Dk :=
  if o.kind = 1 then (δ.write o.n o.text).1 else if o.kind = 2 then δ.sync.1 else if o.kind = 3 then δ else if o.kind = 4 then (δ.arm o.f).1 else if o.kind = 5 then δ.crash o.how else δ
def Rk.step (ρ : Rk) (o : OpZ) : Rk :=
  if o.kind = 1 then (ρ.write o.n o.text).1 else if o.kind = 2 then ρ.sync.1 else if o.kind = 3 then ρ else if o.kind = 4 then (ρ.arm o.f).1 else if o.kind = 5 then ρ.crash o.how else ρ
def stepB (δ : Dk) (ρ : Rk) (o : OpZ) : Bool :=
  if o.kind = 1 then decide ((δ.write o.n o.text).2 = (ρ.write o.n o.text).2) else if o.kind = 2 then decide (δ.sync.2 = ρ.sync.2)
  else if o.kind = 3 then decide ((δ.read o.n).1 = (ρ.read o.n).1) && decide ((δ.read o.n).2 = (ρ.read o.n).2)
  else if o.kind = 4 then decide ((δ.arm o.f).2 = (ρ.arm o.f).2) else if o.kind = 5 then true
  else if o.kind = 6 then decide (δ.pend = ρ.pending)
  else if o.kind = 7 then (decide ((δ.now.length : Int) = ρ.L.length) && (δ.dead == ρ.Gone) && decide (δ.acts = ρ.N)) else true
theorem slR_rd_take {T : TypeId} {b c n k : Nat} {xs : List Value} {h : Hp} (hs : slR T 1 (.slice (some ⟨b, 0, none⟩) n c) n xs h) (hk : k ≤ n) : rdS 1 h (.slice (some ⟨b, 0, none⟩) k c) k (xs.take k) := by
  rcases hs with ⟨h1, -⟩ | ⟨b', cap, rest, fr, hv, hb, h1, h2, h3, h4⟩
  · simp at h1
  · simp only [Value.slice.injEq, Option.some.injEq, Addr.mk.injEq] at hv
    obtain ⟨⟨rfl, -, -⟩, -, rfl⟩ := hv
    refine .inr ⟨b, 0, c, xs ++ rest, T, fr, rfl, hb, ?_, by simp; omega, by omega⟩
    rw [List.drop_zero, Nat.mul_one, List.take_append_of_le_length (by omega)]
section
variable {P : Program} {E : Env} {o : Oper}
theorem OpSpec.shaped {pre R : List HP} {e : TypeId} {sz k : Nat} {ys : List Value} (hk : 0 < k) (h : OpSpec P o E pre fun v L' => (∃ a c, v = .slice a k c) ∧ L' = slR e sz v k ys :: R) :
    OpSpec P o E pre fun v L' => ∃ b c, k ≤ c ∧ v = .slice (some ⟨b, 0, none⟩) k c ∧ L' = slR e sz v k ys :: R := by
  intro ρ w F ha hs
  refine (h ρ w F ha hs).mono ?_
  rintro v w' ⟨L', ⟨-, rfl⟩, hs', hk'⟩
  obtain ⟨h1, -, hp⟩ := sep_head hs'
  rcases hp with ⟨-, h2, -⟩ | ⟨b, cap, rest, fr, hv, -, -, -, h4, -⟩
  · omega
  · exact ⟨_, ⟨b, cap, h4, hv, rfl⟩, hs', hk'⟩
end
theorem take_same {a b : List Int} {i : Nat} (h1 : i < a.length) (h2 : i < b.length) (h : a.take i = b.take i) (he : a[i] = b[i]) : a.take (i + 1) = b.take (i + 1) := by
  rw [List.take_succ_eq_append_getElem h1, List.take_succ_eq_append_getElem h2, h, he]
end Go.Proofs.Ytepncdidkjjllaa
