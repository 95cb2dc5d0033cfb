/- Own work: scripts of law 04 as they lie in memory. -/
import Derived.Test.YtepncdidkjjllaaL4E
namespace Go.Proofs.Ytepncdidkjjllaa
open Go

structure Op4 where
  k : Int
  n : Int
  f : Int
  l : List Int
  how : List Int
abbrev Op4V := (Value × Value) × Op4
def op4C (z : Op4V) : List Value := [vint z.2.k, vint z.2.n, vint z.2.f, z.1.1, z.1.2]
def i64 (x : Int) : Prop := -9223372036854775808 ≤ x ∧ x ≤ 9223372036854775807
structure Ops4 (p : HP) (v : Value) (xs : List Op4V) : Prop where
  cells : ∀ h : Hp, p h → rdS 5 h v xs.length (xs.flatMap op4C)
  ls : ∀ x ∈ xs, ∀ h : Hp, p h → rdS 1 h x.1.1 x.2.l.length (ints x.2.l)
  hows : ∀ x ∈ xs, ∀ h : Hp, p h → rdS 1 h x.1.2 x.2.how.length (ints x.2.how)
  bnd : ∀ x ∈ xs, (∀ z ∈ x.2.l, -9223372036854775808 ≤ z ∧ z ≤ 9223372036854775807) ∧ (∀ z ∈ x.2.how, -9223372036854775808 ≤ z ∧ z ≤ 9223372036854775807) ∧ i64 x.2.k ∧ i64 x.2.n ∧ i64 x.2.f
  fit : ∀ x ∈ xs, x.2.l.length ≤ 140737488355328 ∧ x.2.how.length ≤ 140737488355328
  cell : ∀ x ∈ xs, isCell x.1.1 = true ∧ isCell x.1.2 = true
  len : xs.length ≤ 140737488355328
theorem op4C_at {xs : List Op4V} {i : Nat} (hi : i < xs.length) : ((xs.flatMap op4C).drop (i * 5)).take 5 = op4C xs[i] := flatMap_at (f := op4C) (sz := 5) (fun _ _ => rfl) hi
end Go.Proofs.Ytepncdidkjjllaa
