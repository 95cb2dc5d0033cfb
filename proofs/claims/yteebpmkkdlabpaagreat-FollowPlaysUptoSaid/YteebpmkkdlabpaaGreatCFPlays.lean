/- Own work: followPlays.proved: the given second form, from the walk in the other texts, for arguments of bounded bulk. -/
import Derived.Test.YteebpmkkdlabpaaGreatCFPlaysP4
import Derived.WalkKit
import Derived.ProofKit
import Derived.OpenShut
import Derived.JoinedCond
set_option maxRecDepth 100000
namespace Go.Proofs.YteebpmkkdlabpaaGreat
open Go Go.ChangeShapes Go.WideShapes Go.ChangeAt Go.RowKit
theorem fm_ints (l : List Int) : (l.flatMap fun z => [vint z]) = ints l := by
 induction l with
 | nil => rfl
 | cons z l ih => rw [List.flatMap_cons, ih]; rfl
instance : Inhabited Ms := ⟨ms0 0 0⟩
instance : Inhabited St18 := ⟨⟨0, 0, nilV, [], ms0 0 0⟩⟩
theorem decReq {H : Type} {enc : TypeId × Value → H} {W : World} (n : Nat) (cs : List Value) (y : DataW H × List MemPlace) (h : Reads enc Tryz.prog W n 38 cs y) : ∃ q0 q1 q2 q3 q4 q5 q6 q7 q8 q9 : Value, cs = [q0, q1, q2, q3, q4, q5, q6, q7, q8, q9] ∧ ∀ v ∈ ([q0, q1, q2, q3, q4, q5, q6, q7, q8, q9] : List Value), isCell v = true := by
 obtain ⟨xs, m, -, rfl, hlen, hxs, hf⟩ := DataW.trod_struct Tryz.underlying38 h
 rw [show Tryz.prog.cellsOf 38 = 10 by kernel_rfl] at hlen
 obtain ⟨a0, a1, a2, a3, a4, a5, a6, a7, a8, a9, rfl⟩ : ∃ a0 a1 a2 a3 a4 a5 a6 a7 a8 a9, cs = [a0, a1, a2, a3, a4, a5, a6, a7, a8, a9] := by
  match cs, hlen with
  | [a0, a1, a2, a3, a4, a5, a6, a7, a8, a9], _ => exact ⟨a0, a1, a2, a3, a4, a5, a6, a7, a8, a9, rfl⟩
 obtain ⟨y0, y1, y2, y3, y4, y5, y6, y7, y8, y9, rfl⟩ : ∃ y0 y1 y2 y3 y4 y5 y6 y7 y8 y9, xs = [y0, y1, y2, y3, y4, y5, y6, y7, y8, y9] := by
  match xs, hxs with
  | [y0, y1, y2, y3, y4, y5, y6, y7, y8, y9], _ => exact ⟨y0, y1, y2, y3, y4, y5, y6, y7, y8, y9, rfl⟩
 try simp only [Rows.uptoBulk, Rows.uptoBulkAll, List.map_cons, List.map_nil]
 have g0 : Reads enc Tryz.prog W m 3 (([a0, a1, a2, a3, a4, a5, a6, a7, a8, a9] : List Value).drop 0 |>.take (Tryz.prog.cellsOf 3)) y0 := hf 0 _ rfl
 rw [show Tryz.prog.cellsOf 3 = 1 by kernel_rfl] at g0
 have p0 := bulk_pos y0.1
 obtain ⟨z0, e0, q0, r0⟩ := dec_intW Tryz.underlying3 g0
 try simp at e0
 have g1 : Reads enc Tryz.prog W m 3 (([a0, a1, a2, a3, a4, a5, a6, a7, a8, a9] : List Value).drop 1 |>.take (Tryz.prog.cellsOf 3)) y1 := hf 1 _ rfl
 rw [show Tryz.prog.cellsOf 3 = 1 by kernel_rfl] at g1
 have p1 := bulk_pos y1.1
 obtain ⟨z1, e1, q1, r1⟩ := dec_intW Tryz.underlying3 g1
 try simp at e1
 have g2 : Reads enc Tryz.prog W m 9 (([a0, a1, a2, a3, a4, a5, a6, a7, a8, a9] : List Value).drop 2 |>.take (Tryz.prog.cellsOf 9)) y2 := hf 2 _ rfl
 rw [show Tryz.prog.cellsOf 9 = 1 by kernel_rfl] at g2
 have p2 := bulk_pos y2.1
 obtain ⟨z2, e2, r2⟩ := dec_strW Tryz.underlying9 g2
 try simp at e2
 have g3 : Reads enc Tryz.prog W m 9 (([a0, a1, a2, a3, a4, a5, a6, a7, a8, a9] : List Value).drop 3 |>.take (Tryz.prog.cellsOf 9)) y3 := hf 3 _ rfl
 rw [show Tryz.prog.cellsOf 9 = 1 by kernel_rfl] at g3
 have p3 := bulk_pos y3.1
 obtain ⟨z3, e3, r3⟩ := dec_strW Tryz.underlying9 g3
 try simp at e3
 have g4 : Reads enc Tryz.prog W m 34 (([a0, a1, a2, a3, a4, a5, a6, a7, a8, a9] : List Value).drop 4 |>.take (Tryz.prog.cellsOf 34)) y4 := hf 4 _ rfl
 rw [show Tryz.prog.cellsOf 34 = 1 by kernel_rfl] at g4
 have p4 := bulk_pos y4.1
 obtain ⟨z4, e4, s4⟩ : ∃ z : Value, a4 = z ∧ ∃ a n c, z = .slice a n c := ⟨_, rfl, slice_shape Tryz.underlying34 g4⟩
 have ck4 : isCell z4 = true := by obtain ⟨sa, sn, sc, hs⟩ := s4; rw [hs]; rfl
 try simp at e4
 have g5 : Reads enc Tryz.prog W m 3 (([a0, a1, a2, a3, a4, a5, a6, a7, a8, a9] : List Value).drop 5 |>.take (Tryz.prog.cellsOf 3)) y5 := hf 5 _ rfl
 rw [show Tryz.prog.cellsOf 3 = 1 by kernel_rfl] at g5
 have p5 := bulk_pos y5.1
 obtain ⟨z5, e5, q5, r5⟩ := dec_intW Tryz.underlying3 g5
 try simp at e5
 have g6 : Reads enc Tryz.prog W m 3 (([a0, a1, a2, a3, a4, a5, a6, a7, a8, a9] : List Value).drop 6 |>.take (Tryz.prog.cellsOf 3)) y6 := hf 6 _ rfl
 rw [show Tryz.prog.cellsOf 3 = 1 by kernel_rfl] at g6
 have p6 := bulk_pos y6.1
 obtain ⟨z6, e6, q6, r6⟩ := dec_intW Tryz.underlying3 g6
 try simp at e6
 have g7 : Reads enc Tryz.prog W m 4 (([a0, a1, a2, a3, a4, a5, a6, a7, a8, a9] : List Value).drop 7 |>.take (Tryz.prog.cellsOf 4)) y7 := hf 7 _ rfl
 rw [show Tryz.prog.cellsOf 4 = 1 by kernel_rfl] at g7
 have p7 := bulk_pos y7.1
 obtain ⟨z7, e7⟩ := dec_bool Tryz.underlying4 g7
 try simp at e7
 have g8 : Reads enc Tryz.prog W m 35 (([a0, a1, a2, a3, a4, a5, a6, a7, a8, a9] : List Value).drop 8 |>.take (Tryz.prog.cellsOf 35)) y8 := hf 8 _ rfl
 rw [show Tryz.prog.cellsOf 35 = 1 by kernel_rfl] at g8
 have p8 := bulk_pos y8.1
 obtain ⟨z8, e8, s8⟩ : ∃ z : Value, a8 = z ∧ ∃ a n c, z = .slice a n c := ⟨_, rfl, slice_shape Tryz.underlying35 g8⟩
 have ck8 : isCell z8 = true := by obtain ⟨sa, sn, sc, hs⟩ := s8; rw [hs]; rfl
 try simp at e8
 have g9 : Reads enc Tryz.prog W m 36 (([a0, a1, a2, a3, a4, a5, a6, a7, a8, a9] : List Value).drop 9 |>.take (Tryz.prog.cellsOf 36)) y9 := hf 9 _ rfl
 rw [show Tryz.prog.cellsOf 36 = 1 by kernel_rfl] at g9
 have p9 := bulk_pos y9.1
 obtain ⟨z9, e9, s9⟩ : ∃ z : Value, a9 = z ∧ ∃ a n c, z = .slice a n c := ⟨_, rfl, slice_shape Tryz.underlying36 g9⟩
 have ck9 : isCell z9 = true := by obtain ⟨sa, sn, sc, hs⟩ := s9; rw [hs]; rfl
 try simp at e9
 subst e0
 subst e1
 subst e2
 subst e3
 subst e4
 subst e5
 subst e6
 subst e7
 subst e8
 subst e9
 exact ⟨_, _, _, _, _, _, _, _, _, _, rfl, by intro v hv; simp only [List.mem_cons, List.not_mem_nil, or_false] at hv; rcases hv with h | h | h | h | h | h | h | h | h | h <;> subst h <;> first | rfl | assumption⟩
theorem decMs {H : Type} {enc : TypeId × Value → H} {W : World} (n : Nat) (cs : List Value) (y : DataW H × List MemPlace) (h : Reads enc Tryz.prog W n 41 cs y) : ∃ m : Ms, cs = msC m ∧ (Rows.uptoBulk y.1 ≤ 1048576 → MsA (Old W) m) := by
 obtain ⟨xs, m, -, rfl, hlen, hxs, hf⟩ := DataW.trod_struct Tryz.underlying41 h
 rw [show Tryz.prog.cellsOf 41 = 19 by kernel_rfl] at hlen
 obtain ⟨a0, a1, a2, a3, a4, a5, a6, a7, a8, a9, a10, a11, a12, a13, a14, a15, a16, a17, a18, rfl⟩ : ∃ a0 a1 a2 a3 a4 a5 a6 a7 a8 a9 a10 a11 a12 a13 a14 a15 a16 a17 a18, cs = [a0, a1, a2, a3, a4, a5, a6, a7, a8, a9, a10, a11, a12, a13, a14, a15, a16, a17, a18] := by
  match cs, hlen with
  | [a0, a1, a2, a3, a4, a5, a6, a7, a8, a9, a10, a11, a12, a13, a14, a15, a16, a17, a18], _ => exact ⟨a0, a1, a2, a3, a4, a5, a6, a7, a8, a9, a10, a11, a12, a13, a14, a15, a16, a17, a18, rfl⟩
 obtain ⟨y0, y1, y2, y3, y4, y5, y6, y7, y8, y9, rfl⟩ : ∃ y0 y1 y2 y3 y4 y5 y6 y7 y8 y9, xs = [y0, y1, y2, y3, y4, y5, y6, y7, y8, y9] := by
  match xs, hxs with
  | [y0, y1, y2, y3, y4, y5, y6, y7, y8, y9], _ => exact ⟨y0, y1, y2, y3, y4, y5, y6, y7, y8, y9, rfl⟩
 try simp only [Rows.uptoBulk, Rows.uptoBulkAll, List.map_cons, List.map_nil]
 have g0 : Reads enc Tryz.prog W m 3 (([a0, a1, a2, a3, a4, a5, a6, a7, a8, a9, a10, a11, a12, a13, a14, a15, a16, a17, a18] : List Value).drop 0 |>.take (Tryz.prog.cellsOf 3)) y0 := hf 0 _ rfl
 rw [show Tryz.prog.cellsOf 3 = 1 by kernel_rfl] at g0
 have p0 := bulk_pos y0.1
 obtain ⟨z0, e0, q0, r0⟩ := dec_intW Tryz.underlying3 g0
 try simp at e0
 have g1 : Reads enc Tryz.prog W m 3 (([a0, a1, a2, a3, a4, a5, a6, a7, a8, a9, a10, a11, a12, a13, a14, a15, a16, a17, a18] : List Value).drop 1 |>.take (Tryz.prog.cellsOf 3)) y1 := hf 1 _ rfl
 rw [show Tryz.prog.cellsOf 3 = 1 by kernel_rfl] at g1
 have p1 := bulk_pos y1.1
 obtain ⟨z1, e1, q1, r1⟩ := dec_intW Tryz.underlying3 g1
 try simp at e1
 have g2 : Reads enc Tryz.prog W m 3 (([a0, a1, a2, a3, a4, a5, a6, a7, a8, a9, a10, a11, a12, a13, a14, a15, a16, a17, a18] : List Value).drop 2 |>.take (Tryz.prog.cellsOf 3)) y2 := hf 2 _ rfl
 rw [show Tryz.prog.cellsOf 3 = 1 by kernel_rfl] at g2
 have p2 := bulk_pos y2.1
 obtain ⟨z2, e2, q2, r2⟩ := dec_intW Tryz.underlying3 g2
 try simp at e2
 have g3 : Reads enc Tryz.prog W m 3 (([a0, a1, a2, a3, a4, a5, a6, a7, a8, a9, a10, a11, a12, a13, a14, a15, a16, a17, a18] : List Value).drop 3 |>.take (Tryz.prog.cellsOf 3)) y3 := hf 3 _ rfl
 rw [show Tryz.prog.cellsOf 3 = 1 by kernel_rfl] at g3
 have p3 := bulk_pos y3.1
 obtain ⟨z3, e3, q3, r3⟩ := dec_intW Tryz.underlying3 g3
 try simp at e3
 have g4 : Reads enc Tryz.prog W m 3 (([a0, a1, a2, a3, a4, a5, a6, a7, a8, a9, a10, a11, a12, a13, a14, a15, a16, a17, a18] : List Value).drop 4 |>.take (Tryz.prog.cellsOf 3)) y4 := hf 4 _ rfl
 rw [show Tryz.prog.cellsOf 3 = 1 by kernel_rfl] at g4
 have p4 := bulk_pos y4.1
 obtain ⟨z4, e4, q4, r4⟩ := dec_intW Tryz.underlying3 g4
 try simp at e4
 have g5 : Reads enc Tryz.prog W m 32 (([a0, a1, a2, a3, a4, a5, a6, a7, a8, a9, a10, a11, a12, a13, a14, a15, a16, a17, a18] : List Value).drop 5 |>.take (Tryz.prog.cellsOf 32)) y5 := hf 5 _ rfl
 rw [show Tryz.prog.cellsOf 32 = 1 by kernel_rfl] at g5
 have p5 := bulk_pos y5.1
 obtain ⟨z5, e5, s5⟩ : ∃ z : Value, a5 = z ∧ ∃ a n c, z = .slice a n c := ⟨_, rfl, slice_shape Tryz.underlying32 g5⟩
 have ck5 : isCell z5 = true := by obtain ⟨sa, sn, sc, hs⟩ := s5; rw [hs]; rfl
 try simp at e5
 have g6 : Reads enc Tryz.prog W m 9 (([a0, a1, a2, a3, a4, a5, a6, a7, a8, a9, a10, a11, a12, a13, a14, a15, a16, a17, a18] : List Value).drop 6 |>.take (Tryz.prog.cellsOf 9)) y6 := hf 6 _ rfl
 rw [show Tryz.prog.cellsOf 9 = 1 by kernel_rfl] at g6
 have p6 := bulk_pos y6.1
 obtain ⟨z6, e6, r6⟩ := dec_strW Tryz.underlying9 g6
 try simp at e6
 have g7 : Reads enc Tryz.prog W m 33 (([a0, a1, a2, a3, a4, a5, a6, a7, a8, a9, a10, a11, a12, a13, a14, a15, a16, a17, a18] : List Value).drop 7 |>.take (Tryz.prog.cellsOf 33)) y7 := hf 7 _ rfl
 rw [show Tryz.prog.cellsOf 33 = 1 by kernel_rfl] at g7
 have p7 := bulk_pos y7.1
 obtain ⟨⟨v7, l7⟩, e7, k7, q7, c7, r7⟩ := dec_sliceW enC (fun e => EnQ (Old W) e) mEn Tryz.underlying33 (show Tryz.prog.cellsOf 75 = 11 by kernel_rfl) (by decide) (fun n cs y h => decEn n cs y h) g7
 dsimp only at e7 k7 q7 c7 r7
 have ck7 : isCell v7 = true := by obtain ⟨sa, sc, hs⟩ := rd_shape k7; rw [hs]; rfl
 try simp at e7
 have g8 : Reads enc Tryz.prog W m 38 (([a0, a1, a2, a3, a4, a5, a6, a7, a8, a9, a10, a11, a12, a13, a14, a15, a16, a17, a18] : List Value).drop 8 |>.take (Tryz.prog.cellsOf 38)) y8 := hf 8 _ rfl
 rw [show Tryz.prog.cellsOf 38 = 10 by kernel_rfl] at g8
 have p8 := bulk_pos y8.1
 obtain ⟨u0, u1, u2, u3, u4, u5, u6, u7, u8, u9, e8, ck8⟩ := decReq _ _ _ g8
 try simp [ptC, enC] at e8
 have g9 : Reads enc Tryz.prog W m 39 (([a0, a1, a2, a3, a4, a5, a6, a7, a8, a9, a10, a11, a12, a13, a14, a15, a16, a17, a18] : List Value).drop 18 |>.take (Tryz.prog.cellsOf 39)) y9 := hf 9 _ rfl
 rw [show Tryz.prog.cellsOf 39 = 1 by kernel_rfl] at g9
 have p9 := bulk_pos y9.1
 obtain ⟨z9, e9, s9⟩ : ∃ z : Value, a18 = z ∧ ∃ a n c, z = .slice a n c := ⟨_, rfl, slice_shape Tryz.underlying39 g9⟩
 have ck9 : isCell z9 = true := by obtain ⟨sa, sn, sc, hs⟩ := s9; rw [hs]; rfl
 try simp at e9
 subst e0
 subst e1
 subst e2
 subst e3
 subst e4
 subst e5
 subst e6
 subst e7
 obtain ⟨rfl, rfl, rfl, rfl, rfl, rfl, rfl, rfl, rfl, rfl⟩ := e8
 subst e9
 exact ⟨⟨z0, z1, z2, z3, z4, a5, z6, a7, l7, a8, a9, a10, a11, a12, a13, a14, a15, a16, a17, a18⟩, rfl, fun hb => ⟨q0, q1, q2, q3, by intro v hv; simp only [msC, List.mem_cons, List.not_mem_nil, or_false] at hv; rcases hv with h | h | h | h | h | h | h | h | h | h | h | h | h | h | h | h | h | h | h <;> subst h <;> first | rfl | assumption | exact ck8 _ (by simp), by dsimp only; omega, k7, by dsimp only; omega, fun e he => (q7 e he).X (by have := sum_mem (m := mEn) (l := l7) he; omega)⟩⟩
theorem decSt {H : Type} {enc : TypeId × Value → H} {W : World} (n : Nat) (cs : List Value) (y : DataW H × List MemPlace) (h : Reads enc Tryz.prog W n 43 cs y) : ∃ o : St18, cs = st18C o ∧ (Rows.uptoBulk y.1 ≤ 1048576 → St18A (Old W) o) := by
 obtain ⟨xs, m, -, rfl, hlen, hxs, hf⟩ := DataW.trod_struct Tryz.underlying43 h
 rw [show Tryz.prog.cellsOf 43 = 22 by kernel_rfl] at hlen
 obtain ⟨a0, a1, a2, a3, a4, a5, a6, a7, a8, a9, a10, a11, a12, a13, a14, a15, a16, a17, a18, a19, a20, a21, rfl⟩ : ∃ a0 a1 a2 a3 a4 a5 a6 a7 a8 a9 a10 a11 a12 a13 a14 a15 a16 a17 a18 a19 a20 a21, cs = [a0, a1, a2, a3, a4, a5, a6, a7, a8, a9, a10, a11, a12, a13, a14, a15, a16, a17, a18, a19, a20, a21] := by
  match cs, hlen with
  | [a0, a1, a2, a3, a4, a5, a6, a7, a8, a9, a10, a11, a12, a13, a14, a15, a16, a17, a18, a19, a20, a21], _ => exact ⟨a0, a1, a2, a3, a4, a5, a6, a7, a8, a9, a10, a11, a12, a13, a14, a15, a16, a17, a18, a19, a20, a21, rfl⟩
 obtain ⟨y0, y1, y2, y3, rfl⟩ : ∃ y0 y1 y2 y3, xs = [y0, y1, y2, y3] := by
  match xs, hxs with
  | [y0, y1, y2, y3], _ => exact ⟨y0, y1, y2, y3, rfl⟩
 try simp only [Rows.uptoBulk, Rows.uptoBulkAll, List.map_cons, List.map_nil]
 have g0 : Reads enc Tryz.prog W m 3 (([a0, a1, a2, a3, a4, a5, a6, a7, a8, a9, a10, a11, a12, a13, a14, a15, a16, a17, a18, a19, a20, a21] : List Value).drop 0 |>.take (Tryz.prog.cellsOf 3)) y0 := hf 0 _ rfl
 rw [show Tryz.prog.cellsOf 3 = 1 by kernel_rfl] at g0
 have p0 := bulk_pos y0.1
 obtain ⟨z0, e0, q0, r0⟩ := dec_intW Tryz.underlying3 g0
 try simp at e0
 have g1 : Reads enc Tryz.prog W m 3 (([a0, a1, a2, a3, a4, a5, a6, a7, a8, a9, a10, a11, a12, a13, a14, a15, a16, a17, a18, a19, a20, a21] : List Value).drop 1 |>.take (Tryz.prog.cellsOf 3)) y1 := hf 1 _ rfl
 rw [show Tryz.prog.cellsOf 3 = 1 by kernel_rfl] at g1
 have p1 := bulk_pos y1.1
 obtain ⟨z1, e1, q1, r1⟩ := dec_intW Tryz.underlying3 g1
 try simp at e1
 have g2 : Reads enc Tryz.prog W m 32 (([a0, a1, a2, a3, a4, a5, a6, a7, a8, a9, a10, a11, a12, a13, a14, a15, a16, a17, a18, a19, a20, a21] : List Value).drop 2 |>.take (Tryz.prog.cellsOf 32)) y2 := hf 2 _ rfl
 rw [show Tryz.prog.cellsOf 32 = 1 by kernel_rfl] at g2
 have p2 := bulk_pos y2.1
 obtain ⟨⟨v2, l2⟩, e2, k2, q2, c2, r2⟩ := dec_sliceW (fun z => [vint z]) (fun z => I64 z) (fun _ => 1) Tryz.underlying32 (show Tryz.prog.cellsOf 3 = 1 by kernel_rfl) (by decide) (fun n cs y h => dec_intW Tryz.underlying3 h) g2
 dsimp only at e2 k2 q2 c2 r2
 have ck2 : isCell v2 = true := by obtain ⟨sa, sc, hs⟩ := rd_shape k2; rw [hs]; rfl
 try simp at e2
 have g3 : Reads enc Tryz.prog W m 41 (([a0, a1, a2, a3, a4, a5, a6, a7, a8, a9, a10, a11, a12, a13, a14, a15, a16, a17, a18, a19, a20, a21] : List Value).drop 3 |>.take (Tryz.prog.cellsOf 41)) y3 := hf 3 _ rfl
 rw [show Tryz.prog.cellsOf 41 = 19 by kernel_rfl] at g3
 have p3 := bulk_pos y3.1
 obtain ⟨m3, e3, q3⟩ := decMs _ _ _ g3
 try simp [ptC, enC, msC] at e3
 subst e0
 subst e1
 subst e2
 obtain ⟨rfl, rfl, rfl, rfl, rfl, rfl, rfl, rfl, rfl, rfl, rfl, rfl, rfl, rfl, rfl, rfl, rfl, rfl, rfl⟩ := e3
 exact ⟨⟨z0, z1, a2, l2, m3⟩, rfl, fun hb => ⟨q0, q1, fun h hp => by rw [← fm_ints]; exact k2 h hp, q2, by dsimp only; omega, q3 (by omega), ck2⟩⟩
theorem sum_at {l : List Nat} {i : Nat} (h : i < l.length) : l[i] ≤ l.sum := by
 have := sum_mem (m := id) (l := l) (List.getElem_mem h)
 simpa using this
theorem dec_sts18 {H : Type} {enc : TypeId × Value → H} {W : World} {fuel : Nat} {cs : List Value} {x : DataW H × List MemPlace} (h : Reads enc Tryz.prog W fuel 22 cs x) (hb : Rows.uptoBulk x.1 ≤ 1048576) : ∃ (v : Value) (xs : List St18), cs = [v] ∧ Sts18 (Old W) v xs := by
 obtain ⟨⟨v, xs⟩, ws, h1, h2, h3, h4, h5, -, h7⟩ := dec_sliceQV (N := 1048576) st18C (fun B o => B ≤ 1048576 → St18A (Old W) o) Tryz.underlying22 (show Tryz.prog.cellsOf 43 = 22 by kernel_rfl) (by decide) (fun n cs y h => decSt n cs y h) h (by omega)
 dsimp only at h1 h2 h3 h4 h7
 refine ⟨v, xs, h1, h2, h3, fun o ho => ?_⟩
 obtain ⟨i, hi, rfl⟩ := List.mem_iff_getElem.1 ho
 have hw : i < ws.length := by omega
 exact h7 i hi hw (Nat.le_trans (sum_at hw) h5)
end Go.Proofs.YteebpmkkdlabpaaGreat
namespace Go.Proofs.YteebpmkkdlabpaaGreat.followPlays
open Go Go.ChangeShapes Go.WideShapes Go.ChangeAt Go.RowKit
theorem own : ownKnob Tryz.prog.godebug = none := by kernel_rfl
theorem laid : laidOutB Tryz.prog = true := by kernel_rfl
theorem readable : ∀ t ∈ Tryz.f4.params.toList, Tryz.prog.readableRec t = true ∧ t < Tryz.prog.types.size := by
 have h : (Tryz.f4.params.toList.all fun t => Tryz.prog.readableRec t && decide (t < Tryz.prog.types.size)) = true := by kernel_rfl
 intro t ht
 simpa using List.all_eq_true.1 h t ht
theorem contract (H : Type) (enc : TypeId × Value → H) (W : World) (base : Nat) (args : Array Value) (ds gs : List (DataW H)) (before : List MemPlace)
  (hval : ∀ (j : Nat) t v, Tryz.f4.params[j]? = some t → args[j]? = some v → Value.okWide Tryz.prog W .any base t v)
  (hW : DataW.Whole enc Tryz.prog Tryz.f4.params.toList Rows.followPlaysSpec.vars false W args.toList ds gs before) (hk : Rows.uptoSmall H (ds ++ gs) = true) :
  Calls Tryz.prog 4 args W fun e W' => ∃ v, e = .returned v ∧ Rows.followPlaysSpec.post enc Tryz.prog Tryz.f4 false true false false W args v W' := by
 have hW' := hW
 obtain ⟨p, q, hA, hV, rfl, hfz, hnd⟩ := hW
 obtain ⟨rfl, -⟩ := trodVars_none hV
 rw [List.append_nil] at hk
 have hpar : Tryz.f4.params = #[3, 22] := Tryz.params4
 rw [hpar] at hval
 have hA' := hA
 rw [hpar] at hA'
 obtain ⟨v0, vs0, d0, ds0, p0, r0, ha0, rfl, rfl, h0, t0⟩ := trodAll_cons hA'
 obtain ⟨v1, vs1, d1, ds1, p1, r1, ha1, rfl, rfl, h1, t1⟩ := trodAll_cons t0
 obtain ⟨hv, rfl, rfl⟩ := trodAll_nil t1
 obtain rfl : args = #[v0, v1] := by
  have e : args.toList = [v0, v1] := by rw [ha0, ha1, hv]
  cases args; simp_all
 have b0 := bulk_small hk (d := d0) (by simp)
 obtain ⟨n0, rfl, -, q0⟩ := arg_int Tryz.underlying3 (hval 0 _ _ rfl rfl) h0
 have b1 := bulk_small hk (d := d1) (by simp)
 obtain ⟨ad1, nn1, cp1, rfl⟩ := okWide_slice Tryz.underlying22 (hval 1 _ _ rfl rfl)
 obtain ⟨fu1, g1⟩ := h1
 obtain ⟨v1, xs1, e1, q1⟩ := dec_sts18 g1 b1
 simp [Value.cells] at e1
 subst e1
 refine (old_calls (followPlays_spec n0 _ xs1 (Old W) q1)).mono fun e W' ⟨he, hb⟩ => ⟨_, he, ?_⟩
 exact settled hW' rfl (fun gs' h => by subst h; rfl) rfl Tryz.underlying4 laid readable hb
theorem lifted (os : Os) (started : os.Started) (H : Type) (enc : TypeId × Value → H) (F : Stop.Interp) :
  ReturnsInHanded {} Tryz.checked os 4 .any ((Rows.OpenSpec.upto Rows.followPlaysSpec).pre6 enc Tryz.prog Tryz.f4 Rows.followPlaysUptoRow.domain false) (((Rows.OpenSpec.upto Rows.followPlaysSpec).at F).post enc Tryz.prog Tryz.f4 false true false false) := by
 refine returnsInHanded_of_cond (C := Tryz.checked) (s := Rows.OpenSpec.upto Rows.followPlaysSpec) (k := Rows.uptoSmall) rfl own started (by kernel_rfl) Tryz.func4
  (OpenSpec.witness (enc := enc) (C := Tryz.checked) (s := Rows.OpenSpec.upto Rows.followPlaysSpec) (k := Rows.uptoSmall) rfl false ⟨#[], #[.int .i64 0, .slice none 0 0], []⟩ 8 (by kernel_rfl) (by kernel_rfl) (by kernel_rfl)
   (x := ([.lit (.int .i64 0), .nil], [], [])) (by kernel_rfl) rfl (by kernel_rfl)) ?_
 intro W base args ds gs before hval hW _ hk _
 exact contract H enc W base args ds gs before hval hW hk
theorem proved : Rows.FollowPlaysUptoSaid :=
 OpenClaim.holds_of_cond 4 Tryz.f4 rfl rfl rfl rfl rfl rfl rfl ⟨rfl, rfl, rfl, rfl, rfl⟩ rfl rfl rfl rfl rfl (by kernel_rfl) Tryz.func4 (by kernel_rfl)
  (of_decide_eq_true (by kernel_rfl)) (by unfold Func.isWrapper; first | (rw [if_pos (by decide +kernel)]; kernel_rfl) | (rw [if_neg (by decide +kernel)]; exact ⟨rfl, rfl⟩))
  (fun os started H enc _ F => lifted os started H enc F)
end Go.Proofs.YteebpmkkdlabpaaGreat.followPlays
