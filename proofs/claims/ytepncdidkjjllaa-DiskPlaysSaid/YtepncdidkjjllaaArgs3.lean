/- Own work: the scripts of law 03 as arguments. -/
import Derived.Test.YtepncdidkjjllaaArgs2
import Derived.Test.YtepncdidkjjllaaL3D
namespace Go.Proofs.Ytepncdidkjjllaa
open Go Go.ChangeShapes Go.WideShapes Go.ChangeAt Go.RowKit

section
variable {H : Type} {enc : TypeId × Value → H} {W : World}
def OpQ (W : World) (z : Value × OpZ) (d : DataW H) : Prop :=
  (∀ h : Hp, Old W h → rdS 1 h z.1 z.2.how.length (ints z.2.how)) ∧ (∀ y ∈ z.2.how, -9223372036854775808 ≤ y ∧ y ≤ 9223372036854775807) ∧ z.2.f ≤ 9223372036854775807 ∧ (Light Try.prog 87 d → z.2.how.length * 8 ≤ reachBytes)
theorem cellsI : Try.prog.cellsOf 3 = 1 := by kernel_rfl
theorem cellsB : Try.prog.cellsOf 4 = 1 := by kernel_rfl
theorem cellsL : Try.prog.cellsOf 40 = 1 := by kernel_rfl
theorem cellsO : Try.prog.cellsOf 87 = 6 := by kernel_rfl
theorem bytesI : Try.prog.bytesOf 3 = 8 := by kernel_rfl
set_option maxRecDepth 100000 in
theorem dec_op (n : Nat) (cs : List Value) (y : DataW H × List MemPlace) (h : Reads enc Try.prog W n 87 cs y) : ∃ z : Value × OpZ, cs = opC z.1 z.2 ∧ OpQ W z y.1 := by
  obtain ⟨xs, m, -, rfl, hlen, hxs, hf⟩ := DataW.trod_struct Try.underlying87 h
  rw [cellsO] at hlen
  obtain ⟨a0, a1, a2, a3, a4, a5, rfl⟩ : ∃ a0 a1 a2 a3 a4 a5, cs = [a0, a1, a2, a3, a4, a5] := by
    match cs, hlen with
    | [a0, a1, a2, a3, a4, a5], _ => exact ⟨a0, a1, a2, a3, a4, a5, rfl⟩
  obtain ⟨y0, y1, y2, y3, y4, y5, rfl⟩ : ∃ y0 y1 y2 y3 y4 y5, xs = [y0, y1, y2, y3, y4, y5] := by
    match xs, hxs with
    | [y0, y1, y2, y3, y4, y5], _ => exact ⟨y0, y1, y2, y3, y4, y5, rfl⟩
  have f0 := hf 0 _ rfl; have f1 := hf 1 _ rfl; have f2 := hf 2 _ rfl; have f3 := hf 3 _ rfl; have f4 := hf 4 _ rfl; have f5 := hf 5 _ rfl
  have g0 : Reads enc Try.prog W m 3 ([a0, a1, a2, a3, a4, a5].drop 0 |>.take (Try.prog.cellsOf 3)) y0 := f0
  have g1 : Reads enc Try.prog W m 3 ([a0, a1, a2, a3, a4, a5].drop 1 |>.take (Try.prog.cellsOf 3)) y1 := f1
  have g2 : Reads enc Try.prog W m 3 ([a0, a1, a2, a3, a4, a5].drop 2 |>.take (Try.prog.cellsOf 3)) y2 := f2
  have g3 : Reads enc Try.prog W m 4 ([a0, a1, a2, a3, a4, a5].drop 3 |>.take (Try.prog.cellsOf 4)) y3 := f3
  have g4 : Reads enc Try.prog W m 4 ([a0, a1, a2, a3, a4, a5].drop 4 |>.take (Try.prog.cellsOf 4)) y4 := f4
  have g5 : Reads enc Try.prog W m 40 ([a0, a1, a2, a3, a4, a5].drop 5 |>.take (Try.prog.cellsOf 40)) y5 := f5
  rw [cellsI] at g0 g1 g2; rw [cellsB] at g3 g4; rw [cellsL] at g5
  obtain ⟨k, e0, -⟩ := dec_int Try.underlying3 g0
  obtain ⟨nn, e1, -⟩ := dec_int Try.underlying3 g1
  obtain ⟨ff, e2, -, hff⟩ := dec_int Try.underlying3 g2
  obtain ⟨sh, e3⟩ := dec_bool Try.underlying4 g3
  obtain ⟨ot, e4⟩ := dec_bool Try.underlying4 g4
  obtain ⟨v, how, e5, hr, hb, hlt⟩ := dec_ints Try.underlying40 Try.underlying3 cellsI bytesI g5
  simp at e0 e1 e2 e3 e4 e5
  subst e0; subst e1; subst e2; subst e3; subst e4; subst e5
  exact ⟨(a5, ⟨k, nn, ff, sh, ot, how⟩), rfl, hr, hb, hff, fun hl => hlt (light_struct Try.underlying87 hl (i := 5) rfl rfl)⟩
instance : Inhabited (Value × OpZ) := ⟨(.bool false, ⟨0, 0, 0, false, false, []⟩)⟩
set_option maxRecDepth 100000 in
theorem arg_ops {r : Reach} {b0 : Nat} {v : Value} {d : DataW H} {ps : List MemPlace} (hval : Value.okWide Try.prog W r b0 85 v) (h : DataW.Trod enc Try.prog W 0 (fun _ => true) true 85 v d ps) (hl : Light Try.prog 85 d) : ∃ xs : List (Value × OpZ), OpsRd (Old W) v xs := by
  obtain ⟨ad, n, cap, rfl⟩ := okWide_slice Try.underlying85 hval
  obtain ⟨fuel, hf⟩ := h
  obtain ⟨v', zs, hcs, hr, hq, hw⟩ := dec_slice (fun z : Value × OpZ => opC z.1 z.2) (OpQ W) Try.underlying85 cellsO (by decide) dec_op hf
  simp [Value.cells] at hcs
  subst hcs
  have hw' := hw hl
  have hby : Try.prog.bytesOf 87 = 56 := by kernel_rfl
  rw [hby] at hw'
  simp only [reachBytes] at hw'
  refine ⟨zs, hr, fun x hx => ?_, fun x hx => ?_, fun x hx => ?_, by omega⟩
  · obtain ⟨d', hd, -⟩ := hq x hx; exact hd.1
  · obtain ⟨d', hd, -⟩ := hq x hx; exact hd.2.1
  · obtain ⟨d', hd, hl'⟩ := hq x hx
    have := hd.2.2.2 (hl' hl)
    simp only [reachBytes] at this
    exact ⟨hd.2.2.1, by omega⟩
end
end Go.Proofs.Ytepncdidkjjllaa
