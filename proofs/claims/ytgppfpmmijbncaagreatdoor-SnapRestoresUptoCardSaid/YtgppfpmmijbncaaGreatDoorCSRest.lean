/- Own work: snapRestores.proved: the given second form, from the walk in the other texts, for arguments of bounded bulk. -/
import Derived.Test.YtgppfpmmijbncaaGreatDoorCSRestP4
import Derived.Test.YtgppfpmmijbncaaGreatDoorCSRestP2
import Derived.Test.YtgppfpmmijbncaaGreatDoorCards
import Derived.Test.YtgppfpmmijbncaaGreatDoorTie
import Derived.WalkKit
import Derived.ProofKit
import Derived.OpenShut
import Derived.Deep.DeepHandedRow
import Derived.Lib.LaidTab
set_option maxRecDepth 100000
namespace Go.Proofs.YtgppfpmmijbncaaGreatDoor
open Go Go.ChangeShapes Go.WideShapes Go.ChangeAt Go.RowKit
theorem cells_3 : Tryz.prog.cellsOf 3 = 1 := by kernel_rfl
theorem cells_9 : Tryz.prog.cellsOf 9 = 1 := by kernel_rfl
theorem cells_22 : Tryz.prog.cellsOf 22 = 1 := by kernel_rfl
theorem cells_82 : Tryz.prog.cellsOf 82 = 5 := by kernel_rfl
def okAct (N : Nat) (_p : HP) (z : Ac0) : Prop := (-9223372036854775808 ≤ z.1 ∧ z.1 ≤ 9223372036854775807) ∧ (-9223372036854775808 ≤ z.2.1 ∧ z.2.1 ≤ 9223372036854775807) ∧ (-9223372036854775808 ≤ z.2.2.1 ∧ z.2.2.1 ≤ 9223372036854775807) ∧ z.2.2.2.1.length ≤ N ∧ isCell z.2.2.2.2 = true
theorem dec_Act {H : Type} {enc : TypeId × Value → H} {W : World} {N : Nat} (n : Nat) (cs : List Value) (y : DataW H × List MemPlace) (h : Reads enc Tryz.prog W n 82 cs y) (hb : Rows.uptoBulk y.1 ≤ N) : ∃ z : Ac0, cs = ac0C z ∧ okAct N (Old W) z := by
 obtain ⟨xs, m, -, rfl, hlen, hxs, hf⟩ := DataW.trod_struct Tryz.underlying82 h
 rw [cells_82] at hlen
 obtain ⟨a0, a1, a2, a3, a4, rfl⟩ : ∃ a0 a1 a2 a3 a4, cs = [a0, a1, a2, a3, a4] := by
  match cs, hlen with
  | [a0, a1, a2, a3, a4], _ => exact ⟨a0, a1, a2, a3, a4, rfl⟩
 obtain ⟨y0, y1, y2, y3, y4, rfl⟩ : ∃ y0 y1 y2 y3 y4, xs = [y0, y1, y2, y3, y4] := by
  match xs, hxs with
  | [y0, y1, y2, y3, y4], _ => exact ⟨y0, y1, y2, y3, y4, rfl⟩
 have f0 := hf 0 _ rfl
 have g0 : Reads enc Tryz.prog W m 3 (([a0, a1, a2, a3, a4] : List Value).drop 0 |>.take (Tryz.prog.cellsOf 3)) y0 := f0
 rw [cells_3] at g0
 have b0 : Rows.uptoBulk y0.1 ≤ N := bulk_agg hb (by simp)
 obtain ⟨z0, e0, q0⟩ := dec_int' Tryz.underlying3 g0
 simp at e0
 have f1 := hf 1 _ rfl
 have g1 : Reads enc Tryz.prog W m 3 (([a0, a1, a2, a3, a4] : List Value).drop 1 |>.take (Tryz.prog.cellsOf 3)) y1 := f1
 rw [cells_3] at g1
 have b1 : Rows.uptoBulk y1.1 ≤ N := bulk_agg hb (by simp)
 obtain ⟨z1, e1, q1⟩ := dec_int' Tryz.underlying3 g1
 simp at e1
 have f2 := hf 2 _ rfl
 have g2 : Reads enc Tryz.prog W m 3 (([a0, a1, a2, a3, a4] : List Value).drop 2 |>.take (Tryz.prog.cellsOf 3)) y2 := f2
 rw [cells_3] at g2
 have b2 : Rows.uptoBulk y2.1 ≤ N := bulk_agg hb (by simp)
 obtain ⟨z2, e2, q2⟩ := dec_int' Tryz.underlying3 g2
 simp at e2
 have f3 := hf 3 _ rfl
 have g3 : Reads enc Tryz.prog W m 9 (([a0, a1, a2, a3, a4] : List Value).drop 3 |>.take (Tryz.prog.cellsOf 9)) y3 := f3
 rw [cells_9] at g3
 have b3 : Rows.uptoBulk y3.1 ≤ N := bulk_agg hb (by simp)
 obtain ⟨z3, e3, q3⟩ := dec_str Tryz.underlying9 g3 b3
 simp at e3
 have f4 := hf 4 _ rfl
 have g4 : Reads enc Tryz.prog W m 22 (([a0, a1, a2, a3, a4] : List Value).drop 4 |>.take (Tryz.prog.cellsOf 22)) y4 := f4
 rw [cells_22] at g4
 obtain ⟨z4, e4, q4⟩ : ∃ z : Value, a4 = z ∧ isCell z = true := ⟨_, rfl, slice_cell Tryz.underlying22 g4⟩
 subst e0
 subst e1
 subst e2
 subst e3
 replace e4 := e4.symm
 subst e4
 exact ⟨(z0, z1, z2, z3, z4), rfl, q0, q1, q2, q3, q4⟩
def okAct1 (N : Nat) (_p : HP) (z : Ac0) : Prop := (-9223372036854775808 ≤ z.1 ∧ z.1 ≤ 9223372036854775807) ∧ (-9223372036854775808 ≤ z.2.1 ∧ z.2.1 ≤ 9223372036854775807) ∧ (-9223372036854775808 ≤ z.2.2.1 ∧ z.2.2.1 ≤ 9223372036854775807) ∧ z.2.2.2.1.length ≤ N ∧ (∃ l : List Ac0, (∀ h : Hp, _p h → rdS 5 h z.2.2.2.2 l.length (l.flatMap (ac0C))) ∧ l.length ≤ N ∧ ∀ y ∈ l, okAct N _p y)
theorem dec_Act1 {H : Type} {enc : TypeId × Value → H} {W : World} {N : Nat} (n : Nat) (cs : List Value) (y : DataW H × List MemPlace) (h : Reads enc Tryz.prog W n 82 cs y) (hb : Rows.uptoBulk y.1 ≤ N) : ∃ z : Ac0, cs = ac0C z ∧ okAct1 N (Old W) z := by
 obtain ⟨xs, m, -, rfl, hlen, hxs, hf⟩ := DataW.trod_struct Tryz.underlying82 h
 rw [cells_82] at hlen
 obtain ⟨a0, a1, a2, a3, a4, rfl⟩ : ∃ a0 a1 a2 a3 a4, cs = [a0, a1, a2, a3, a4] := by
  match cs, hlen with
  | [a0, a1, a2, a3, a4], _ => exact ⟨a0, a1, a2, a3, a4, rfl⟩
 obtain ⟨y0, y1, y2, y3, y4, rfl⟩ : ∃ y0 y1 y2 y3 y4, xs = [y0, y1, y2, y3, y4] := by
  match xs, hxs with
  | [y0, y1, y2, y3, y4], _ => exact ⟨y0, y1, y2, y3, y4, rfl⟩
 have f0 := hf 0 _ rfl
 have g0 : Reads enc Tryz.prog W m 3 (([a0, a1, a2, a3, a4] : List Value).drop 0 |>.take (Tryz.prog.cellsOf 3)) y0 := f0
 rw [cells_3] at g0
 have b0 : Rows.uptoBulk y0.1 ≤ N := bulk_agg hb (by simp)
 obtain ⟨z0, e0, q0⟩ := dec_int' Tryz.underlying3 g0
 simp at e0
 have f1 := hf 1 _ rfl
 have g1 : Reads enc Tryz.prog W m 3 (([a0, a1, a2, a3, a4] : List Value).drop 1 |>.take (Tryz.prog.cellsOf 3)) y1 := f1
 rw [cells_3] at g1
 have b1 : Rows.uptoBulk y1.1 ≤ N := bulk_agg hb (by simp)
 obtain ⟨z1, e1, q1⟩ := dec_int' Tryz.underlying3 g1
 simp at e1
 have f2 := hf 2 _ rfl
 have g2 : Reads enc Tryz.prog W m 3 (([a0, a1, a2, a3, a4] : List Value).drop 2 |>.take (Tryz.prog.cellsOf 3)) y2 := f2
 rw [cells_3] at g2
 have b2 : Rows.uptoBulk y2.1 ≤ N := bulk_agg hb (by simp)
 obtain ⟨z2, e2, q2⟩ := dec_int' Tryz.underlying3 g2
 simp at e2
 have f3 := hf 3 _ rfl
 have g3 : Reads enc Tryz.prog W m 9 (([a0, a1, a2, a3, a4] : List Value).drop 3 |>.take (Tryz.prog.cellsOf 9)) y3 := f3
 rw [cells_9] at g3
 have b3 : Rows.uptoBulk y3.1 ≤ N := bulk_agg hb (by simp)
 obtain ⟨z3, e3, q3⟩ := dec_str Tryz.underlying9 g3 b3
 simp at e3
 have f4 := hf 4 _ rfl
 have g4 : Reads enc Tryz.prog W m 22 (([a0, a1, a2, a3, a4] : List Value).drop 4 |>.take (Tryz.prog.cellsOf 22)) y4 := f4
 rw [cells_22] at g4
 have b4 : Rows.uptoBulk y4.1 ≤ N := bulk_agg hb (by simp)
 obtain ⟨w4, e4, q4⟩ := dec_sliceU (N := N) (ac0C) (fun y => okAct N (Old W) y) Tryz.underlying22 cells_82 (by decide) (fun n cs y h hb => dec_Act n cs y h hb) g4 b4
 simp at e4
 obtain ⟨z4, l4⟩ := w4
 dsimp only at e4 q4
 subst e0
 subst e1
 subst e2
 subst e3
 replace e4 := e4.symm
 subst e4
 exact ⟨(z0, z1, z2, z3, z4), rfl, q0, q1, q2, q3, ⟨l4, q4⟩⟩
theorem acts1_of {p : HP} {v : Value} {xs : List Ac0} (q : (∀ h : Hp, p h → rdS 5 h v xs.length (xs.flatMap ac0C)) ∧ xs.length ≤ 1048576 ∧ ∀ y ∈ xs, okAct1 1048576 p y) : Acts1 p v xs := by
 obtain ⟨q1, q2, q3⟩ := q
 refine ⟨⟨q1, q2, fun a ha => ?_⟩, fun a ha => ?_⟩
 ·obtain ⟨h1, h2, h3, h4, -⟩ := q3 a ha
  exact ⟨h1, h2, h3, h4⟩
 ·obtain ⟨-, -, -, -, l, g1, g2, g3⟩ := q3 a ha
  refine ⟨l, ⟨g1, g2, fun s hs => ?_⟩, fun s hs => (g3 s hs).2.2.2.2⟩
  obtain ⟨h1, h2, h3, h4, -⟩ := g3 s hs
  exact ⟨h1, h2, h3, h4⟩
end Go.Proofs.YtgppfpmmijbncaaGreatDoor
namespace Go.Proofs.YtgppfpmmijbncaaGreatDoor.snapRestores
open Go Go.ChangeShapes Go.WideShapes Go.ChangeAt Go.RowKit
theorem own : ownKnob Tryz.prog.godebug = none := by kernel_rfl
theorem laid : laidOutB Tryz.prog = true := by kernel_rfl
theorem readable : ∀ t ∈ Tryz.f4.params.toList, Tryz.prog.readableRec t = true ∧ t < Tryz.prog.types.size := by
 have h : (Tryz.f4.params.toList.all fun t => Tryz.prog.readableRec t && decide (t < Tryz.prog.types.size)) = true := by kernel_rfl
 intro t ht
 simpa using List.all_eq_true.1 h t ht
theorem contract (H : Type) (enc : TypeId × Value → H) (W : World) (base : Nat) (args : Array Value) (ds gs : List (DataW H)) (before : List MemPlace)
  (hval : ∀ (j : Nat) t v, Tryz.f4.params[j]? = some t → args[j]? = some v → Value.okWide Tryz.prog W .any base t v)
  (hW : DataW.Whole enc Tryz.prog Tryz.f4.params.toList Rows.snapRestoresSpec.vars false W args.toList ds gs before) (hk : Rows.uptoSmall H (ds ++ gs) = true) :
  Calls Tryz.prog 4 args W fun e W' => ∃ v, e = .returned v ∧ Rows.snapRestoresSpec.post enc Tryz.prog Tryz.f4 false true false false W args v W' := by
 have hW' := hW
 obtain ⟨p, q, hA, hV, rfl, hfz, hnd⟩ := hW
 obtain ⟨rfl, -⟩ := trodVars_none hV
 rw [List.append_nil] at hk
 have hpar : Tryz.f4.params = #[22, 3, 45, 4] := Tryz.params4
 rw [hpar] at hval
 have hA' := hA
 rw [hpar] at hA'
 obtain ⟨v0, vs0, d0, ds0, p0, r0, ha0, rfl, rfl, h0, t0⟩ := trodAll_cons hA'
 obtain ⟨v1, vs1, d1, ds1, p1, r1, ha1, rfl, rfl, h1, t1⟩ := trodAll_cons t0
 obtain ⟨v2, vs2, d2, ds2, p2, r2, ha2, rfl, rfl, h2, t2⟩ := trodAll_cons t1
 obtain ⟨v3, vs3, d3, ds3, p3, r3, ha3, rfl, rfl, h3, t3⟩ := trodAll_cons t2
 obtain ⟨hv, rfl, rfl⟩ := trodAll_nil t3
 obtain rfl : args = #[v0, v1, v2, v3] := by
  have e : args.toList = [v0, v1, v2, v3] := by rw [ha0, ha1, ha2, ha3, hv]
  cases args; simp_all
 have b0 := bulk_small hk (d := d0) (by simp)
 obtain ⟨ad0, nn0, cp0, rfl⟩ := okWide_slice Tryz.underlying22 (hval 0 _ _ rfl rfl)
 obtain ⟨fu0, g0⟩ := h0
 obtain ⟨z0, e0, q0⟩ := dec_sliceU (N := 1048576) (ac0C) (fun y => okAct1 1048576 (Old W) y) Tryz.underlying22 cells_82 (by decide) (fun n cs y h hb => dec_Act1 n cs y h hb) g0 b0
 simp [Value.cells] at e0
 obtain ⟨v0, xs0⟩ := z0
 dsimp only at e0 q0
 subst e0
 have b1 := bulk_small hk (d := d1) (by simp)
 obtain ⟨n1, rfl, -, q1⟩ := arg_int Tryz.underlying3 (hval 1 _ _ rfl rfl) h1
 have b2 := bulk_small hk (d := d2) (by simp)
 obtain ⟨ad2, nn2, cp2, rfl⟩ := okWide_slice Tryz.underlying45 (hval 2 _ _ rfl rfl)
 obtain ⟨fu2, g2⟩ := h2
 obtain ⟨z2, e2, q2⟩ := dec_sliceU (N := 1048576) (fun z => [vint z]) (fun y => (-9223372036854775808 ≤ y ∧ y ≤ 9223372036854775807)) Tryz.underlying45 cells_3 (by decide) (fun n cs y h _ => dec_int' Tryz.underlying3 h) g2 b2
 simp [Value.cells] at e2
 obtain ⟨v2, xs2⟩ := z2
 dsimp only at e2 q2
 subst e2
 have b3 := bulk_small hk (d := d3) (by simp)
 obtain ⟨c3, rfl, -⟩ := open_bool Tryz.underlying4 (hval 3 _ _ rfl rfl) h3
 refine (old_calls (snapRestores8_spec _ _ xs0 xs2 n1 c3 (Old W) (acts1_of q0) q1 q2)).mono fun e W' ⟨he, hb⟩ => ⟨_, he, ?_⟩
 exact settled hW' rfl (fun gs' h => by subst h; rfl) rfl Tryz.underlying4 laid readable hb
def cellsTo (l : List Value) : Obj → Obj
 | .cells _ t frozen => .cells l.toArray t frozen
 | o => o
noncomputable def laidWorld (os : Os) : World :=
 let w := World.holding Tryz.prog os ⟨#[], #[], []⟩
 { w with heap := (w.heap.modify 1 (cellsTo (Pinned.utf8FirstZ.map fun (n : Nat) => Value.int .u8 n))).modify 2 (cellsTo [.int .u8 128, .int .u8 191, .int .u8 160, .int .u8 191, .int .u8 128, .int .u8 159, .int .u8 144, .int .u8 191, .int .u8 128, .int .u8 143, .int .u8 0, .int .u8 0, .int .u8 0, .int .u8 0, .int .u8 0, .int .u8 0, .int .u8 0, .int .u8 0, .int .u8 0, .int .u8 0, .int .u8 0, .int .u8 0, .int .u8 0, .int .u8 0, .int .u8 0, .int .u8 0, .int .u8 0, .int .u8 0, .int .u8 0, .int .u8 0, .int .u8 0, .int .u8 0]) }
theorem laid_met (os : Os) : laidMet Tryz.prog Rows.snapRestoresUptoRow.laid ((laidWorld os).forCall (fun _ _ => 0) ⟨#[], #[.slice none 0 0, .int .i64 0, .slice none 0 0, .bool false], []⟩).memory :=
 laidMet_of_run' 8 (by kernel_rfl) (by kernel_rfl)
theorem reads (os : Os) {H : Type} (enc : TypeId × Value → H) : ∃ places, DataW.whole enc Tryz.prog ((laidWorld os).forCall (fun _ _ => 0) ⟨#[], #[.slice none 0 0, .int .i64 0, .slice none 0 0, .bool false], []⟩).memory Tryz.f4.params.toList Rows.snapRestoresSpec.vars false (#[.slice none 0 0, .int .i64 0, .slice none 0 0, .bool false] : Array Value).toList 8 = some ([.nil, .lit (.int .i64 0), .nil, .lit (.bool false)], [], places) :=
 ⟨[], by kernel_rfl⟩
theorem lifted (os : Os) (started : os.Started) (H : Type) (enc : TypeId × Value → H) (F : Stop.Interp) :
  ReturnsInHanded {} Tryz.checked os 4 .any ((Rows.OpenSpec.upto Rows.snapRestoresSpec).preRow enc Tryz.prog Tryz.f4 Rows.snapRestoresUptoRow.domain false Rows.snapRestoresUptoRow.laid) (((Rows.OpenSpec.upto Rows.snapRestoresSpec).at F).post enc Tryz.prog Tryz.f4 false true false false) := by
 obtain ⟨places, hx⟩ := reads os enc
 refine returnsInHanded_of_row (C := Tryz.checked) (s := Rows.OpenSpec.upto Rows.snapRestoresSpec) own started (by kernel_rfl) Tryz.func4
  (witness_row_at (enc := enc) (C := Tryz.checked) false (laidWorld os) #[.slice none 0 0, .int .i64 0, .slice none 0 0, .bool false] rfl (by kernel_rfl) (by kernel_rfl) (by kernel_rfl)
   (OpenSpec.preRow_of_cond 8 hx (by kernel_rfl) (fun k hk => by cases hk; kernel_rfl) (by kernel_rfl) (laid_met os))) ?_
 intro W base args ds gs before hval hW _ hcond _ _ _ _
 exact contract H enc W base args ds gs before hval hW (hcond _ rfl)
theorem saidUpto : Rows.SnapRestoresUptoSaid :=
 OpenClaim.holds_of_cond 4 Tryz.f4 rfl rfl rfl rfl rfl rfl rfl ⟨rfl, rfl, rfl, rfl, rfl⟩ rfl rfl rfl rfl rfl (by kernel_rfl) Tryz.func4 (by kernel_rfl)
  (of_decide_eq_true (by kernel_rfl)) (by unfold Func.isWrapper; first | (rw [if_pos (by decide +kernel)]; kernel_rfl) | (rw [if_neg (by decide +kernel)]; exact ⟨rfl, rfl⟩))
  (fun os started H enc _ F => by rw [OpenClaim.pre_eq_preRow]; exact lifted os started H enc F)
theorem plain (f : FuncId) (fn : Func) (hf : Tryz.pinned.checked.prog.funcNamed "arboretum/arboretumlaw08.SnapRestores" = some f) (hfn : Tryz.pinned.checked.prog.funcs[f]? = some fn) :
  false = Tryz.pinned.checked.prog.looks [] ∧ ∀ (j : Nat) t, fn.params[j]? = some t → Tryz.pinned.checked.prog.wantsStandIn t = false := by
 obtain rfl : f = 4 := Option.some.inj ((show Tryz.prog.funcNamed "arboretum/arboretumlaw08.SnapRestores" = some 4 by kernel_rfl).symm.trans hf) |>.symm
 obtain rfl : fn = Tryz.f4 := (Option.some.inj (Tryz.func4.symm.trans hfn)).symm
 refine ⟨by kernel_rfl, fun j t ht => ?_⟩
 have h : (Tryz.f4.params.toList.all fun t => !Tryz.pinned.checked.prog.wantsStandIn t) = true := by kernel_rfl
 have h2 := List.all_eq_true.1 h t (Array.mem_def.1 (Array.mem_of_getElem? ht))
 simpa using h2
theorem proved : Rows.SnapRestoresUptoCardSaid :=
 Claim7.holds_tied_plain_at .later [] _ _ _ _ saidUpto (fun _ h => by cases h) (by kernel_rfl) (fun _ h => by cases h) snapRestoresUpto_row_tie rfl ⟨rfl, rfl⟩ (by kernel_rfl) rfl plain (by kernel_rfl)
end Go.Proofs.YtgppfpmmijbncaaGreatDoor.snapRestores
