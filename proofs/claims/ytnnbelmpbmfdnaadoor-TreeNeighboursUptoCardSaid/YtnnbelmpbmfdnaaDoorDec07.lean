/- Own work, by program: what the arguments are. -/
import Derived.Test.YtnnbelmpbmfdnaaDoorArgsU
import Derived.Test.YtnnbelmpbmfdnaaDoorL7A
namespace Go.Proofs.YtnnbelmpbmfdnaaDoor
open Go Go.ChangeShapes Go.WideShapes Go.ChangeAt Go.RowKit
theorem cells_3 : Tryd.prog.cellsOf 3 = 1 := by kernel_rfl
theorem cells_9 : Tryd.prog.cellsOf 9 = 1 := by kernel_rfl
theorem cells_42 : Tryd.prog.cellsOf 42 = 1 := by kernel_rfl
theorem cells_81 : Tryd.prog.cellsOf 81 = 5 := by kernel_rfl
def okAct (N : Nat) (_p : HP) (z : Ac0) : Prop := (-9223372036854775808 ≤ z.1 ∧ z.1 ≤ 9223372036854775807) ∧ (-9223372036854775808 ≤ z.2.1 ∧ z.2.1 ≤ 9223372036854775807) ∧ (-9223372036854775808 ≤ z.2.2.1 ∧ z.2.2.1 ≤ 9223372036854775807) ∧ z.2.2.2.1.length ≤ N ∧ True
set_option maxRecDepth 100000 in
theorem dec_Act {H : Type} {enc : TypeId × Value → H} {W : World} {N : Nat} (n : Nat) (cs : List Value) (y : DataW H × List MemPlace) (h : Reads enc Tryd.prog W n 81 cs y) (hb : Rows.uptoBulk y.1 ≤ N) : ∃ z : Ac0, cs = ac0C z ∧ okAct N (Old W) z := by
  obtain ⟨xs, m, -, rfl, hlen, hxs, hf⟩ := DataW.trod_struct Tryd.underlying81 h
  rw [cells_81] at hlen
  obtain ⟨a0, a1, a2, a3, a4, rfl⟩ : ∃ a0 a1 a2 a3 a4, cs = [a0, a1, a2, a3, a4] := by
    match cs, hlen with
    | [a0, a1, a2, a3, a4], _ => exact ⟨a0, a1, a2, a3, a4, rfl⟩
  obtain ⟨y0, y1, y2, y3, y4, rfl⟩ : ∃ y0 y1 y2 y3 y4, xs = [y0, y1, y2, y3, y4] := by
    match xs, hxs with
    | [y0, y1, y2, y3, y4], _ => exact ⟨y0, y1, y2, y3, y4, rfl⟩
  have f0 := hf 0 _ rfl
  have g0 : Reads enc Tryd.prog W m 3 (([a0, a1, a2, a3, a4] : List Value).drop 0 |>.take (Tryd.prog.cellsOf 3)) y0 := f0
  rw [cells_3] at g0
  have b0 : Rows.uptoBulk y0.1 ≤ N := bulk_agg hb (by simp)
  obtain ⟨z0, e0, q0⟩ := dec_int' Tryd.underlying3 g0
  simp at e0
  have f1 := hf 1 _ rfl
  have g1 : Reads enc Tryd.prog W m 3 (([a0, a1, a2, a3, a4] : List Value).drop 1 |>.take (Tryd.prog.cellsOf 3)) y1 := f1
  rw [cells_3] at g1
  have b1 : Rows.uptoBulk y1.1 ≤ N := bulk_agg hb (by simp)
  obtain ⟨z1, e1, q1⟩ := dec_int' Tryd.underlying3 g1
  simp at e1
  have f2 := hf 2 _ rfl
  have g2 : Reads enc Tryd.prog W m 3 (([a0, a1, a2, a3, a4] : List Value).drop 2 |>.take (Tryd.prog.cellsOf 3)) y2 := f2
  rw [cells_3] at g2
  have b2 : Rows.uptoBulk y2.1 ≤ N := bulk_agg hb (by simp)
  obtain ⟨z2, e2, q2⟩ := dec_int' Tryd.underlying3 g2
  simp at e2
  have f3 := hf 3 _ rfl
  have g3 : Reads enc Tryd.prog W m 9 (([a0, a1, a2, a3, a4] : List Value).drop 3 |>.take (Tryd.prog.cellsOf 9)) y3 := f3
  rw [cells_9] at g3
  have b3 : Rows.uptoBulk y3.1 ≤ N := bulk_agg hb (by simp)
  obtain ⟨z3, e3, q3⟩ := dec_str Tryd.underlying9 g3 b3
  simp at e3
  obtain ⟨z4, e4⟩ : ∃ z : Value, z = a4 := ⟨_, rfl⟩
  subst e0
  subst e1
  subst e2
  subst e3
  subst e4
  exact ⟨(z0, z1, z2, z3, z4), rfl, q0, q1, q2, q3, trivial⟩
end Go.Proofs.YtnnbelmpbmfdnaaDoor
