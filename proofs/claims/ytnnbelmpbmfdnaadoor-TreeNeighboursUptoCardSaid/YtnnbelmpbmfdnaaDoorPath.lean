/- Own work: paths as plain data. -/
import Derived.Test.YtnnbelmpbmfdnaaDoorFacts
import Derived.Test.YtnnbelmpbmfdnaaDoorSlMore
namespace Go.Proofs.YtnnbelmpbmfdnaaDoor
open Go

abbrev Bs := List UInt8
def letterB (c : UInt8) : Bool := (decide (97 ≤ c.toNat) && decide (c.toNat ≤ 122)) || (decide (65 ≤ c.toNat) && decide (c.toNat ≤ 90)) || (decide (48 ≤ c.toNat) && decide (c.toNat ≤ 57)) || decide (c.toNat = 95) || decide (c.toNat = 45) || decide (c.toNat = 46)
def isNameZ (s : Bs) : Bool := !decide (s = []) && !decide (s = [46]) && !decide (s = [46, 46]) && s.all letterB
/-- The texts between slashes. -/
def splitZ : Bs → List Bs
  | [] => [[]]
  | c :: r => if c = 47 then [] :: splitZ r else match splitZ r with
    | h :: t => (c :: h) :: t
    | [] => [[c]]
theorem splitZ_ne (s : Bs) : splitZ s ≠ [] := by
  induction s with
  | nil => simp [splitZ]
  | cons c r ih =>
    unfold splitZ
    split
    · simp
    · split <;> simp
def checkZ (p : Bs) : Int :=
  if p = [47] then 0
  else if (splitZ p).head? ≠ some [] ∨ (splitZ p).length = 1 ∨ (splitZ p).tail.all isNameZ = false then 40
  else if p.length > 60 ∨ (splitZ p).length > 7 then 41 else 0
/-- The bytes ahead of the first slash, and those behind it. -/
def cutZ0 : Bs → Bs
  | [] => []
  | c :: r => if c = 47 then [] else c :: cutZ0 r
theorem split_none {s : Bs} (h : (47 : UInt8) ∉ s) : splitZ s = [s] := by
  induction s with
  | nil => rfl
  | cons c r ih =>
    have h1 : c ≠ 47 := fun e => h (by rw [e]; exact List.mem_cons_self)
    unfold splitZ
    rw [if_neg h1, ih (fun hm => h (List.mem_cons_of_mem _ hm))]
theorem split_at {a r : Bs} (h : (47 : UInt8) ∉ a) : splitZ (a ++ 47 :: r) = a :: splitZ r := by
  induction a with
  | nil => simp [splitZ]
  | cons c a ih =>
    have h1 : c ≠ 47 := fun e => h (by rw [e]; exact List.mem_cons_self)
    rw [List.cons_append, splitZ, if_neg h1, ih (fun hm => h (List.mem_cons_of_mem _ hm))]
theorem split_len (s : Bs) : (splitZ s).length = s.count 47 + 1 := by
  induction s with
  | nil => rfl
  | cons c r ih =>
    unfold splitZ
    split
    · rename_i h; subst h; simp [ih]
    · rename_i h
      rw [List.count_cons_of_ne (by simpa using h), ← ih]
      split
      · rename_i h2; simp [h2]
      · rename_i h2; exact absurd h2 (splitZ_ne r)
theorem letter_of {c : UInt8} (h : (97 ≤ c.toNat ∧ c.toNat ≤ 122) ∨ (65 ≤ c.toNat ∧ c.toNat ≤ 90) ∨ (48 ≤ c.toNat ∧ c.toNat ≤ 57) ∨ c.toNat = 95 ∨ c.toNat = 45 ∨ c.toNat = 46) : letterB c = true := by
  unfold letterB
  simp only [Bool.or_eq_true, Bool.and_eq_true, decide_eq_true_eq]
  omega
theorem letter_not {c : UInt8} (h : ¬ ((97 ≤ c.toNat ∧ c.toNat ≤ 122) ∨ (65 ≤ c.toNat ∧ c.toNat ≤ 90) ∨ (48 ≤ c.toNat ∧ c.toNat ≤ 57) ∨ c.toNat = 95 ∨ c.toNat = 45 ∨ c.toNat = 46)) : letterB c = false := by
  rw [← Bool.not_eq_true]
  intro g
  unfold letterB at g
  simp only [Bool.or_eq_true, Bool.and_eq_true, decide_eq_true_eq] at g
  omega
theorem all_next {s : Bs} {i : Nat} (hi : i < s.length) (h : (s.take i).all letterB = true) (hc : letterB s[i] = true) : (s.take (i + 1)).all letterB = true := by
  rw [List.take_succ_eq_append_getElem hi, List.all_append, h]
  simp [hc]
theorem name_bad {s : Bs} {i : Nat} (hi : i < s.length) (hc : letterB s[i] = false) : isNameZ s = false := by
  unfold isNameZ
  have : s.all letterB = false := by
    rw [← Bool.not_eq_true]
    intro g
    have := List.all_eq_true.1 g _ (List.getElem_mem hi)
    rw [hc] at this; cases this
  rw [this, Bool.and_false]
end Go.Proofs.YtnnbelmpbmfdnaaDoor
