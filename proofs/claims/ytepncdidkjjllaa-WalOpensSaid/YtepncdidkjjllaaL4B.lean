/- Own work: what a call of a log does, what a log tells, as plain data. -/
import Derived.Test.YtepncdidkjjllaaL4a
namespace Go.Proofs.Ytepncdidkjjllaa
open Go

def doesZ (δ : Dk) (ω : Wl) (k n f : Int) (l : List Int) : Dk × Wl × Int :=
  if k = 1 then appendZ δ ω (bytZ n f) else if k = 2 then syncZ δ ω else if k = 3 then cutZ δ ω n else if k = 4 then renewZ δ ω (manyZ l) else if k = 5 then setmZ δ ω n f else (δ, ω, 0)
def tl (ω : Wl) : List Bs := if ω.doubt then [] else ω.recs
def toldZ (ω : Wl) (al : Bool) : List Bs := if al then tl ω else (tl ω).take ω.synced.toNat
theorem wrec2_spec (x d : Nat) (ω : Wl) (hl : ω.recs.length ≤ 4294967296) : Fn Try.prog 60 #[vptr x] [wlR x d ω] fun v L => ∃ a c e, v = .tuple #[.slice a (tl ω).length c, vint e] ∧ L = [wlR x d ω, strR (.slice a (tl ω).length c) (tl ω)] := by
  intro F w hs
  refine (wrecords_spec x d ω hl F w hs).mono ?_
  rintro e w' ⟨v, L, (⟨hd, rfl, rfl⟩ | ⟨hd, a, c, rfl, rfl⟩), he, hs', hk⟩
  · have e0 : tl ω = [] := by unfold tl; rw [if_pos hd]
    refine ⟨_, [wlR x d ω, strR (.slice none 0 0) []], ⟨none, 0, 34, by rw [e0]; rfl, by rw [e0]; rfl⟩, he, ?_, hk⟩
    have h1 : St (strR (.slice none 0 0) [] :: ([wlR x d ω] ++ F)) w' := ⟨fun _ => none, _, fun _ => .inl rfl, fun _ _ e => (by cases e), fun _ _ e => e, slR_nil _ _ _, hs'⟩
    exact sep_swap h1
  · have e0 : tl ω = ω.recs := by unfold tl; rw [hd]; rfl
    exact ⟨_, _, ⟨a, c, 0, by rw [e0], by rw [e0]⟩, he, hs', hk⟩
theorem toldZ_len (ω : Wl) (al : Bool) : (toldZ ω al).length = if al then (tl ω).length else min ω.synced.toNat (tl ω).length := by
  unfold toldZ; split
  · rfl
  · rw [List.length_take]
theorem toldZ_take (ω : Wl) (al : Bool) : toldZ ω al = (tl ω).take (toldZ ω al).length := by
  rw [toldZ_len]
  unfold toldZ
  split
  · rw [List.take_length]
  · rw [Nat.min_comm, List.take_eq_take_min]; rw [Nat.min_comm]
theorem toldZ_le (ω : Wl) (al : Bool) : (toldZ ω al).length ≤ (tl ω).length := by
  rw [toldZ_len]; split <;> omega
theorem told_rd {ar : Option Addr} {cr : Nat} {T : TypeId} (ω : Wl) (al : Bool) : ∀ h : Hp, slR T 1 (.slice ar (tl ω).length cr) (tl ω).length (strs (tl ω)) h → rdS 1 h (.slice ar (toldZ ω al).length cr) (toldZ ω al).length (strs (toldZ ω al)) := by
  intro h hp
  have := rd_take (k := (toldZ ω al).length) (toldZ_le ω al) rfl h hp
  rw [← toldZ_take] at this
  exact this
abbrev Sta := List Bs × Int × Int
def behindZ (ω : Wl) (k n f : Int) (l : List Int) : Sta × Bool :=
  if k = 2 then ((toldZ ω true, ω.a, ω.b), true)
  else if k = 3 then (if n < 0 ∨ n > (tl ω).length then ((toldZ ω false, ω.a, ω.b), false) else (((tl ω).take n.toNat, ω.a, ω.b), true))
  else if k = 4 then ((manyZ l, ω.a, ω.b), true)
  else if k = 5 then ((toldZ ω false, n, f), decide (n ≥ 0) && decide (f ≥ 0))
  else ((toldZ ω false, ω.a, ω.b), false)
def sameZ (ω : Wl) (s : Sta) : Bool := decide (s.1 = tl ω) && decide (s.2.1 = ω.a) && decide (s.2.2 = ω.b) && decide (ω.synced = ω.recs.length)
end Go.Proofs.Ytepncdidkjjllaa
