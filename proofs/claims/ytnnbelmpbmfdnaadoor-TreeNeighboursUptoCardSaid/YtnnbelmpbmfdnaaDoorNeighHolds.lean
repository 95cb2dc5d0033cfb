/- Own work: treeNeighbours: the walk, brought to the given second form and its card. -/
import Derived.Test.YtnnbelmpbmfdnaaDoorLaw07A
import Derived.Test.YtnnbelmpbmfdnaaDoorDec07
import Derived.Test.YtnnbelmpbmfdnaaDoorCards
import Derived.Test.YtnnbelmpbmfdnaaDoorTie
import Derived.WalkKit
import Derived.ProofKit
import Derived.OpenShut
import Derived.Deep.DeepHandedRow
import Derived.Lib.LaidTab
namespace Go.Proofs.YtnnbelmpbmfdnaaDoor.treeNeighbours
open Go Go.ChangeShapes Go.WideShapes Go.ChangeAt Go.RowKit
theorem own : ownKnob Tryd.prog.godebug = none := by kernel_rfl
theorem laid : laidOutB Tryd.prog = true := by kernel_rfl
theorem readable : ∀ t ∈ Tryd.f6.params.toList, Tryd.prog.readableRec t = true ∧ t < Tryd.prog.types.size := by
  have h : (Tryd.f6.params.toList.all fun t => Tryd.prog.readableRec t && decide (t < Tryd.prog.types.size)) = true := by kernel_rfl
  intro t ht
  simpa using List.all_eq_true.1 h t ht
set_option maxRecDepth 100000 in
theorem contract (H : Type) (enc : TypeId × Value → H) (W : World) (base : Nat) (args : Array Value) (ds gs : List (DataW H)) (before : List MemPlace)
    (hval : ∀ (j : Nat) t v, Tryd.f6.params[j]? = some t → args[j]? = some v → Value.okWide Tryd.prog W .any base t v)
    (hW : DataW.Whole enc Tryd.prog Tryd.f6.params.toList Rows.treeNeighboursSpec.vars false W args.toList ds gs before) (hk : Rows.uptoSmall H (ds ++ gs) = true) :
    Calls Tryd.prog 6 args W fun e W' => ∃ v, e = .returned v ∧ Rows.treeNeighboursSpec.post enc Tryd.prog Tryd.f6 false true false false W args v W' := by
  have hW' := hW
  obtain ⟨p, q, hA, hV, rfl, hfz, hnd⟩ := hW
  obtain ⟨rfl, -⟩ := trodVars_none hV
  rw [List.append_nil] at hk
  have hpar : Tryd.f6.params = #[42, 42] := Tryd.params6
  rw [hpar] at hval
  have hA' := hA
  rw [hpar] at hA'
  obtain ⟨v0, vs0, d0, ds0, p0, r0, ha0, rfl, rfl, h0, t0⟩ := trodAll_cons hA'
  obtain ⟨v1, vs1, d1, ds1, p1, r1, ha1, rfl, rfl, h1, t1⟩ := trodAll_cons t0
  obtain ⟨hv, rfl, rfl⟩ := trodAll_nil t1
  obtain rfl : args = #[v0, v1] := by
    have e : args.toList = [v0, v1] := by rw [ha0, ha1, hv]
    cases args; simp_all
  have b0 := bulk_small hk (d := d0) (by simp)
  obtain ⟨ad0, nn0, cp0, rfl⟩ := okWide_slice Tryd.underlying42 (hval 0 _ _ rfl rfl)
  obtain ⟨fu0, g0⟩ := h0
  obtain ⟨z0, e0, q0⟩ := dec_sliceU (N := 1048576) (ac0C) (fun y => okAct 1048576 (Old W) y) Tryd.underlying42 cells_81 (by decide) (fun n cs y h hb => dec_Act n cs y h hb) g0 b0
  simp [Value.cells] at e0
  obtain ⟨v0, xs0⟩ := z0
  dsimp only at e0 q0
  subst e0
  have b1 := bulk_small hk (d := d1) (by simp)
  obtain ⟨ad1, nn1, cp1, rfl⟩ := okWide_slice Tryd.underlying42 (hval 1 _ _ rfl rfl)
  obtain ⟨fu1, g1⟩ := h1
  obtain ⟨z1, e1, q1⟩ := dec_sliceU (N := 1048576) (ac0C) (fun y => okAct 1048576 (Old W) y) Tryd.underlying42 cells_81 (by decide) (fun n cs y h hb => dec_Act n cs y h hb) g1 b1
  simp [Value.cells] at e1
  obtain ⟨v1, xs1⟩ := z1
  dsimp only at e1 q1
  subst e1
  refine (old_calls (neigh7_spec _ _ xs0 xs1 (Old W) ⟨q0.1, q0.2.1, fun a h => ⟨(q0.2.2 a h).1, (q0.2.2 a h).2.1, (q0.2.2 a h).2.2.1, (q0.2.2 a h).2.2.2.1⟩⟩ ⟨q1.1, q1.2.1, fun a h => ⟨(q1.2.2 a h).1, (q1.2.2 a h).2.1, (q1.2.2 a h).2.2.1, (q1.2.2 a h).2.2.2.1⟩⟩)).mono fun e W' ⟨he, hb⟩ => ⟨_, he, ?_⟩
  exact settled hW' rfl (fun gs' h => by subst h; rfl) rfl Tryd.underlying4 laid readable hb
/-- A world for the witness: the two tables that the row lists, as they are laid. -/
def cellsTo (l : List Value) : Obj → Obj
  | .cells _ t frozen => .cells l.toArray t frozen
  | o => o
noncomputable def laidWorld (os : Os) : World :=
  let w := World.holding Tryd.prog os ⟨#[], #[], []⟩
  { w with heap := (w.heap.modify 1 (cellsTo (Pinned.utf8FirstZ.map fun (n : Nat) => Value.int .u8 n))).modify 2 (cellsTo [.int .u8 128, .int .u8 191, .int .u8 160, .int .u8 191, .int .u8 128, .int .u8 159, .int .u8 144, .int .u8 191, .int .u8 128, .int .u8 143, .int .u8 0, .int .u8 0, .int .u8 0, .int .u8 0, .int .u8 0, .int .u8 0, .int .u8 0, .int .u8 0, .int .u8 0, .int .u8 0, .int .u8 0, .int .u8 0, .int .u8 0, .int .u8 0, .int .u8 0, .int .u8 0, .int .u8 0, .int .u8 0, .int .u8 0, .int .u8 0, .int .u8 0, .int .u8 0]) }
theorem laid_met (os : Os) : laidMet Tryd.prog Rows.treeNeighboursUptoRow.laid ((laidWorld os).forCall (fun _ _ => 0) ⟨#[], #[.slice none 0 0, .slice none 0 0], []⟩).memory :=
  laidMet_of_run' 8 (by kernel_rfl) (by kernel_rfl)
theorem reads (os : Os) {H : Type} (enc : TypeId × Value → H) : ∃ places, DataW.whole enc Tryd.prog ((laidWorld os).forCall (fun _ _ => 0) ⟨#[], #[.slice none 0 0, .slice none 0 0], []⟩).memory Tryd.f6.params.toList Rows.treeNeighboursSpec.vars false (#[.slice none 0 0, .slice none 0 0] : Array Value).toList 8 = some ([.nil, .nil], [], places) :=
  ⟨[], by kernel_rfl⟩
set_option maxRecDepth 100000 in
theorem lifted (os : Os) (started : os.Started) (H : Type) (enc : TypeId × Value → H) (F : Stop.Interp) :
    ReturnsInHanded {} Tryd.checked os 6 .any ((Rows.OpenSpec.upto Rows.treeNeighboursSpec).preRow enc Tryd.prog Tryd.f6 Rows.treeNeighboursUptoRow.domain false Rows.treeNeighboursUptoRow.laid) (((Rows.OpenSpec.upto Rows.treeNeighboursSpec).at F).post enc Tryd.prog Tryd.f6 false true false false) := by
  obtain ⟨places, hx⟩ := reads os enc
  refine returnsInHanded_of_row (C := Tryd.checked) (s := Rows.OpenSpec.upto Rows.treeNeighboursSpec) own started (by kernel_rfl) Tryd.func6
    (witness_row_at (enc := enc) (C := Tryd.checked) false (laidWorld os) #[.slice none 0 0, .slice none 0 0] rfl (by kernel_rfl) (by kernel_rfl) (by kernel_rfl)
      (OpenSpec.preRow_of_cond 8 hx (by kernel_rfl) (fun k hk => by cases hk; kernel_rfl) (by kernel_rfl) (laid_met os))) ?_
  intro W base args ds gs before hval hW _ hcond _ _ _ _
  exact contract H enc W base args ds gs before hval hW (hcond _ rfl)
theorem saidUpto : Rows.TreeNeighboursUptoSaid :=
  OpenClaim.holds_of_cond 6 Tryd.f6 rfl rfl rfl rfl rfl rfl rfl ⟨rfl, rfl, rfl, rfl, rfl⟩ rfl rfl rfl rfl rfl (by kernel_rfl) Tryd.func6 (by kernel_rfl)
    (of_decide_eq_true (by kernel_rfl)) (by unfold Func.isWrapper; first | (rw [if_pos (by decide +kernel)]; kernel_rfl) | (rw [if_neg (by decide +kernel)]; exact ⟨rfl, rfl⟩))
    (fun os started H enc _ F => by rw [OpenClaim.pre_eq_preRow]; exact lifted os started H enc F)
theorem plain (f : FuncId) (fn : Func) (hf : Tryd.pinned.checked.prog.funcNamed "arboretum/arboretumlaw07.TreeNeighbours" = some f) (hfn : Tryd.pinned.checked.prog.funcs[f]? = some fn) :
    false = Tryd.pinned.checked.prog.looks [] ∧ ∀ (j : Nat) t, fn.params[j]? = some t → Tryd.pinned.checked.prog.wantsStandIn t = false := by
  obtain rfl : f = 6 := Option.some.inj ((show Tryd.prog.funcNamed "arboretum/arboretumlaw07.TreeNeighbours" = some 6 by kernel_rfl).symm.trans hf) |>.symm
  obtain rfl : fn = Tryd.f6 := (Option.some.inj (Tryd.func6.symm.trans hfn)).symm
  refine ⟨by kernel_rfl, fun j t ht => ?_⟩
  have h : (Tryd.f6.params.toList.all fun t => !Tryd.pinned.checked.prog.wantsStandIn t) = true := by kernel_rfl
  have h2 := List.all_eq_true.1 h t (Array.mem_def.1 (Array.mem_of_getElem? ht))
  simpa using h2
theorem proved : Rows.TreeNeighboursUptoCardSaid :=
  Claim7.holds_tied_plain_at .later [] _ _ _ _ saidUpto (fun _ h => by cases h) (by kernel_rfl) (fun _ h => by cases h) treeNeighboursUpto_row_tie rfl ⟨rfl, rfl⟩ (by kernel_rfl) rfl plain (by kernel_rfl)
end Go.Proofs.YtnnbelmpbmfdnaaDoor.treeNeighbours
