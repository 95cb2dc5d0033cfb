/- Own work: the scripts of law 10 as arguments. -/
import Derived.Test.YtepncdidkjjllaaArgs2
import Derived.Test.YtepncdidkjjllaaL10
namespace Go.Proofs.Ytepncdidkjjllaa
open Go Go.ChangeShapes Go.WideShapes Go.ChangeAt Go.RowKit

section
variable {H : Type} {enc : TypeId × Value → H} {W : World}
theorem cellsI10 : Try.prog.cellsOf 3 = 1 := by kernel_rfl
theorem cellsSt : Try.prog.cellsOf 62 = 4 := by kernel_rfl
set_option maxRecDepth 100000 in
theorem dec_step (n : Nat) (cs : List Value) (y : DataW H × List MemPlace) (h : Reads enc Try.prog W n 62 cs y) : ∃ z : StepZ, cs = stepC z ∧ (fun (z : StepZ) (_ : DataW H) => z.fit) z y.1 := by
  obtain ⟨xs, m, -, rfl, hlen, hxs, hf⟩ := DataW.trod_struct Try.underlying62 h
  rw [cellsSt] at hlen
  obtain ⟨a0, a1, a2, a3, rfl⟩ : ∃ a0 a1 a2 a3, cs = [a0, a1, a2, a3] := by
    match cs, hlen with
    | [a0, a1, a2, a3], _ => exact ⟨a0, a1, a2, a3, rfl⟩
  obtain ⟨y0, y1, y2, y3, rfl⟩ : ∃ y0 y1 y2 y3, xs = [y0, y1, y2, y3] := by
    match xs, hxs with
    | [y0, y1, y2, y3], _ => exact ⟨y0, y1, y2, y3, rfl⟩
  have f0 := hf 0 _ rfl; have f1 := hf 1 _ rfl; have f2 := hf 2 _ rfl; have f3 := hf 3 _ rfl
  have g0 : Reads enc Try.prog W m 3 ([a0, a1, a2, a3].drop 0 |>.take (Try.prog.cellsOf 3)) y0 := f0
  have g1 : Reads enc Try.prog W m 3 ([a0, a1, a2, a3].drop 1 |>.take (Try.prog.cellsOf 3)) y1 := f1
  have g2 : Reads enc Try.prog W m 3 ([a0, a1, a2, a3].drop 2 |>.take (Try.prog.cellsOf 3)) y2 := f2
  have g3 : Reads enc Try.prog W m 3 ([a0, a1, a2, a3].drop 3 |>.take (Try.prog.cellsOf 3)) y3 := f3
  rw [cellsI10] at g0 g1 g2 g3
  obtain ⟨k0, e0, h0⟩ := dec_int Try.underlying3 g0
  obtain ⟨k1, e1, h1⟩ := dec_int Try.underlying3 g1
  obtain ⟨k2, e2, h2⟩ := dec_int Try.underlying3 g2
  obtain ⟨k3, e3, h3⟩ := dec_int Try.underlying3 g3
  simp at e0 e1 e2 e3
  subst e0; subst e1; subst e2; subst e3
  exact ⟨⟨k0, k1, k2, k3⟩, rfl, h0, h1, h2, h3⟩
instance : Inhabited StepZ := ⟨⟨0, 0, 0, 0⟩⟩
set_option maxRecDepth 100000 in
theorem arg_steps {r : Reach} {b0 : Nat} {v : Value} {d : DataW H} {ps : List MemPlace} (hval : Value.okWide Try.prog W r b0 58 v) (h : DataW.Trod enc Try.prog W 0 (fun _ => true) true 58 v d ps) (hl : Light Try.prog 58 d) : ∃ xs : List StepZ, StepsRd (Old W) v xs := by
  obtain ⟨ad, n, cap, rfl⟩ := okWide_slice Try.underlying58 hval
  obtain ⟨fuel, hf⟩ := h
  obtain ⟨v', zs, hcs, hr, hq, hw⟩ := dec_slice stepC (fun (z : StepZ) (_ : DataW H) => z.fit) Try.underlying58 cellsSt (by decide) dec_step hf
  simp [Value.cells] at hcs
  subst hcs
  have hw' := hw hl
  have hby : Try.prog.bytesOf 62 = 32 := by kernel_rfl
  rw [hby] at hw'
  simp only [reachBytes] at hw'
  refine ⟨zs, hr, fun x hx => ?_, by omega⟩
  obtain ⟨d', hd, -⟩ := hq x hx; exact hd
end
end Go.Proofs.Ytepncdidkjjllaa
