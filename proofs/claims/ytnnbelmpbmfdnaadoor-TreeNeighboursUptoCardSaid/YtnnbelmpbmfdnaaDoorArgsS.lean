/- Own work: strings and rows of strings as arguments. -/
import Derived.Test.YtnnbelmpbmfdnaaDoorArgs
import Derived.Deep.Strs
namespace Go.Proofs.YtnnbelmpbmfdnaaDoor
open Go Go.ChangeShapes Go.WideShapes Go.ChangeAt Go.RowKit

section
variable {H : Type} {enc : TypeId × Value → H} {P : Program} {W : World}
theorem string_vstr (s : ByteArray) : Value.string s = vstr s.data.toList := by cases s; rfl
theorem arg_str {t : TypeId} {r : Reach} {b0 : Nat} {v : Value} {d : DataW H} {ps : List MemPlace} (ht : P.underlying t = some .string) (hval : Value.okWide P W r b0 t v) (h : DataW.Trod enc P W 0 (fun _ => true) true t v d ps) :
    ∃ s : List UInt8, v = vstr s ∧ s.length ≤ maxLen := by
  obtain ⟨s, rfl⟩ := okWide_string ht hval
  obtain ⟨fuel, hf⟩ := h
  obtain ⟨s', h1, -, h3⟩ := DataW.trod_string ht hf
  simp [Value.cells] at h1
  subst h1
  exact ⟨s.data.toList, string_vstr s, by simpa using h3⟩
theorem arg_strs {t e : TypeId} {r : Reach} {b0 : Nat} {v : Value} {d : DataW H} {ps : List MemPlace} (ht : P.underlying t = some (.slice e)) (he : P.underlying e = some .string) (hc : P.cellsOf e = 1) (hval : Value.okWide P W r b0 t v)
    (h : DataW.Trod enc P W 0 (fun _ => true) true t v d ps) : ∃ xs : List (List UInt8), (∀ h : Hp, Old W h → rdS 1 h v xs.length (strs xs)) ∧ xs.length ≤ maxLen ∧ ∀ s ∈ xs, s.length ≤ maxLen := by
  obtain ⟨ad, n, cap, rfl⟩ := okWide_slice ht hval
  obtain ⟨fuel, hf⟩ := h
  rcases Go.Deep.open_strs ht he hc hf with ⟨hcs, -⟩ | ⟨a, len, cap', m, Sx, hcs, -, hl, hm, hmm, -, hx⟩
  · simp [Value.cells] at hcs
    obtain ⟨rfl, rfl, rfl⟩ := hcs
    exact ⟨[], fun h _ => .inl ⟨rfl, rfl, none, 0, rfl⟩, by simp, by simp⟩
  · simp [Value.cells] at hcs
    obtain ⟨rfl, rfl, rfl⟩ := hcs
    simp only [if_true] at hmm
    subst hmm
    refine ⟨(List.range n).map fun i => (Sx i).data.toList, ?_, by simp; omega, fun s hs => ?_⟩
    · intro h hold
      have := old_rd (W := W) (V := fun i => .string (Sx i)) (fun i hi => (hx i (by omega)).1) hl h hold
      rw [List.length_map, List.length_range]
      rw [show strs ((List.range n).map fun i => (Sx i).data.toList) = (List.range n).map fun i => Value.string (Sx i) by simp [strs, string_vstr]]
      exact this
    · obtain ⟨i, hi, rfl⟩ := List.mem_map.1 hs
      have := (hx i (by have := List.mem_range.1 hi; omega)).2
      simpa using this
end
end Go.Proofs.YtnnbelmpbmfdnaaDoor
