/- Own work: the scripts of law 04 as arguments. -/
import Derived.Test.YtepncdidkjjllaaArgs2
import Derived.Test.YtepncdidkjjllaaL4F
namespace Go.Proofs.Ytepncdidkjjllaa
open Go Go.ChangeShapes Go.WideShapes Go.ChangeAt Go.RowKit

section
variable {H : Type} {enc : TypeId × Value → H} {W : World}
theorem rdS_cell {sz n : Nat} {v : Value} {ys : List Value} {h : Hp} (hr : rdS sz h v n ys) : isCell v = true := by
  rcases hr with ⟨-, -, a, c, rfl⟩ | ⟨b, off, cap, l, T, fr, rfl, -⟩ <;> rfl
def Op4Q (W : World) (z : Op4V) (d : DataW H) : Prop :=
  (∀ h : Hp, Old W h → rdS 1 h z.1.1 z.2.l.length (ints z.2.l)) ∧ (∀ h : Hp, Old W h → rdS 1 h z.1.2 z.2.how.length (ints z.2.how)) ∧
  ((∀ y ∈ z.2.l, -9223372036854775808 ≤ y ∧ y ≤ 9223372036854775807) ∧ (∀ y ∈ z.2.how, -9223372036854775808 ≤ y ∧ y ≤ 9223372036854775807) ∧ i64 z.2.k ∧ i64 z.2.n ∧ i64 z.2.f) ∧
  (Light Try.prog 42 d → z.2.l.length * 8 ≤ reachBytes ∧ z.2.how.length * 8 ≤ reachBytes)
theorem cells4I : Try.prog.cellsOf 3 = 1 := by kernel_rfl
theorem cells4L : Try.prog.cellsOf 40 = 1 := by kernel_rfl
theorem cells4O : Try.prog.cellsOf 42 = 5 := by kernel_rfl
theorem bytes4I : Try.prog.bytesOf 3 = 8 := by kernel_rfl
set_option maxRecDepth 100000 in
theorem dec_op4 (n : Nat) (cs : List Value) (y : DataW H × List MemPlace) (h : Reads enc Try.prog W n 42 cs y) : ∃ z : Op4V, cs = op4C z ∧ Op4Q W z y.1 := by
  obtain ⟨xs, m, -, rfl, hlen, hxs, hf⟩ := DataW.trod_struct Try.underlying42 h
  rw [cells4O] at hlen
  obtain ⟨a0, a1, a2, a3, a4, rfl⟩ : ∃ a0 a1 a2 a3 a4, cs = [a0, a1, a2, a3, a4] := by
    match cs, hlen with
    | [a0, a1, a2, a3, a4], _ => exact ⟨a0, a1, a2, a3, a4, rfl⟩
  obtain ⟨y0, y1, y2, y3, y4, rfl⟩ : ∃ y0 y1 y2 y3 y4, xs = [y0, y1, y2, y3, y4] := by
    match xs, hxs with
    | [y0, y1, y2, y3, y4], _ => exact ⟨y0, y1, y2, y3, y4, rfl⟩
  have f0 := hf 0 _ rfl; have f1 := hf 1 _ rfl; have f2 := hf 2 _ rfl; have f3 := hf 3 _ rfl; have f4 := hf 4 _ rfl
  have g0 : Reads enc Try.prog W m 3 ([a0, a1, a2, a3, a4].drop 0 |>.take (Try.prog.cellsOf 3)) y0 := f0
  have g1 : Reads enc Try.prog W m 3 ([a0, a1, a2, a3, a4].drop 1 |>.take (Try.prog.cellsOf 3)) y1 := f1
  have g2 : Reads enc Try.prog W m 3 ([a0, a1, a2, a3, a4].drop 2 |>.take (Try.prog.cellsOf 3)) y2 := f2
  have g3 : Reads enc Try.prog W m 40 ([a0, a1, a2, a3, a4].drop 3 |>.take (Try.prog.cellsOf 40)) y3 := f3
  have g4 : Reads enc Try.prog W m 40 ([a0, a1, a2, a3, a4].drop 4 |>.take (Try.prog.cellsOf 40)) y4 := f4
  rw [cells4I] at g0 g1 g2; rw [cells4L] at g3 g4
  obtain ⟨k, e0, hk⟩ := dec_int Try.underlying3 g0
  obtain ⟨nn, e1, hn⟩ := dec_int Try.underlying3 g1
  obtain ⟨ff, e2, hff⟩ := dec_int Try.underlying3 g2
  obtain ⟨v, l, e3, hr3, hb3, hlt3⟩ := dec_ints Try.underlying40 Try.underlying3 cells4I bytes4I g3
  obtain ⟨u, how, e4, hr4, hb4, hlt4⟩ := dec_ints Try.underlying40 Try.underlying3 cells4I bytes4I g4
  simp at e0 e1 e2 e3 e4
  subst e0; subst e1; subst e2; subst e3; subst e4
  exact ⟨((a3, a4), ⟨k, nn, ff, l, how⟩), rfl, hr3, hr4, ⟨hb3, hb4, hk, hn, hff⟩, fun hl => ⟨hlt3 (light_struct Try.underlying42 hl (i := 3) rfl rfl), hlt4 (light_struct Try.underlying42 hl (i := 4) rfl rfl)⟩⟩
instance : Inhabited Op4V := ⟨((.bool false, .bool false), ⟨0, 0, 0, [], []⟩)⟩
set_option maxRecDepth 100000 in
theorem arg_wops {r : Reach} {b0 : Nat} {v : Value} {d : DataW H} {ps : List MemPlace} (hval : Value.okWide Try.prog W r b0 45 v) (h : DataW.Trod enc Try.prog W 0 (fun _ => true) true 45 v d ps) (hl : Light Try.prog 45 d) : ∃ xs : List Op4V, Ops4 (Old W) v xs := by
  obtain ⟨ad, n, cap, rfl⟩ := okWide_slice Try.underlying45 hval
  obtain ⟨fuel, hf⟩ := h
  obtain ⟨v', zs, hcs, hr, hq, hw⟩ := dec_slice op4C (Op4Q W) Try.underlying45 cells4O (by decide) dec_op4 hf
  simp [Value.cells] at hcs
  subst hcs
  have hw' := hw hl
  have hby : Try.prog.bytesOf 42 = 72 := by kernel_rfl
  rw [hby] at hw'
  simp only [reachBytes] at hw'
  have hold : Old W (fun b => W.heap[b]?) := fun b _ => rfl
  refine ⟨zs, hr, fun x hx => ?_, fun x hx => ?_, fun x hx => ?_, fun x hx => ?_, fun x hx => ?_, by omega⟩
  · obtain ⟨d', hd, -⟩ := hq x hx; exact hd.1
  · obtain ⟨d', hd, -⟩ := hq x hx; exact hd.2.1
  · obtain ⟨d', hd, -⟩ := hq x hx; exact hd.2.2.1
  · obtain ⟨d', hd, hl'⟩ := hq x hx
    have := hd.2.2.2 (hl' hl)
    simp only [reachBytes] at this
    exact ⟨by omega, by omega⟩
  · obtain ⟨d', hd, -⟩ := hq x hx; exact ⟨rdS_cell (hd.1 _ hold), rdS_cell (hd.2.1 _ hold)⟩
end
end Go.Proofs.Ytepncdidkjjllaa
