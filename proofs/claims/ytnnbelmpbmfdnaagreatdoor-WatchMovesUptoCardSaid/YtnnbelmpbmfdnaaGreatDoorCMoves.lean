/- Own work, some of it printed by program, texts that were built one by one and are laid one behind the other here: package watch: since, Arm: walked. | law 11: WatchMoves: walked. | from what a call is given to the atoms of SlCore, and back to what a statement asks. | strings and rows of strings as arguments. | nested arguments decoded: slices of structs, and what the row says of their weight. | arguments of a bounded bulk (the second form's bound), decoded. | what the arguments are. | watchMoves: the walk, brought to the given second form and its card. -/
import Derived.Test.YtnnbelmpbmfdnaaGreatDoorCMovesP4
import Derived.Test.YtnnbelmpbmfdnaaGreatDoorCMovesP0
import Derived.Test.YtnnbelmpbmfdnaaGreatDoorRows
import Derived.WalkKit
import Derived.ProofKit
import Derived.OpenShut
import Derived.JoinedCond
import Derived.Carry
import Derived.Deep.Grids
import Derived.Handed
import Derived.Deep.Strs
import Derived.Test.YtnnbelmpbmfdnaaGreatDoorCMovesP2
import Derived.Test.YtnnbelmpbmfdnaaGreatDoorCards
import Derived.Test.YtnnbelmpbmfdnaaGreatDoorTie
import Derived.Deep.DeepHandedRow
import Derived.Lib.LaidTab
set_option linter.unusedSimpArgs false
set_option linter.unusedVariables false
/- Own work, by program: package watch: since, Arm: walked. -/
namespace Go.Proofs.YtnnbelmpbmfdnaaGreatDoor
open Go
set_option maxRecDepth 100000 in
theorem evidx_spec (xs : List Ev) (e : Ev) (v : Value) (h1 : xs.length ≤ 4611686018427387904) : Fn Tryz.prog 113 #[v, .agg (evC e).toArray] [slR 75 3 v xs.length (xs.flatMap evC)] fun r L => ∃ k : Int, r = vint k ∧ (0 ≤ k ↔ e ∈ xs) ∧ L = [slR 75 3 v xs.length (xs.flatMap evC)] := by
 refine Fn.intro (vs := [v, .agg (evC e).toArray]) Tryz.func113 rfl rfl ?_
 intro F W
 refine G.slAny (v := v) (by (repeat' constructor)) fun aa ca e0 _ => ?_
 subst e0
 refine G.seq (G.region ?_)
 refine G.op (OpSpec.box rfl) (by (repeat' constructor)) rfl ?nx1
 rintro v L' ⟨b3, rfl, rfl⟩
 refine G.q (Quiet.assign rfl) rfl (G.nil ?_)
 refine G.ptCast (b := b3) (l' := evC e) (by (repeat' constructor)) rfl ?_
 refine G.then_n (G.seq (G.seq (G.region (G.q (Quiet.move rfl) rfl (G.q (Quiet.slen rfl Tryz.underlying30 rfl) rfl (G.q (Quiet.move rfl) rfl (G.nil (G.then_n (G.block ?_)))))))))
 refine G.loopK (ι := Nat) (fun q E => (8, vint q) :: E) (fun q => []) (fun q => q ≤ xs.length ∧ e ∉ xs.take q) (fun q => xs.length - q) (0) (ts := [0, 3, 7]) (.cons rfl (.cons rfl (.cons rfl (.nil)))) (⟨Nat.zero_le _, by simp⟩) ⟨rfl, rfl, rfl, rfl, trivial⟩ (by (repeat' constructor)) ?_
 rintro i ⟨hi, hno⟩
 refine G.seq (G.region (G.q (Quiet.int rfl rfl rfl) rfl (G.nil (G.then_n (G.seq ?_)))))
 refine G.condD rfl (fun h9 => ?_) (fun h9 => ?_)
 ·have hi2 : i < xs.length := by omega
  refine G.slShape (v := .slice aa _ ca) (by (repeat' constructor)) (by omega) fun ba ba' e0 mba _ => ?_
  simp only [Value.slice.injEq, true_and] at e0
  obtain ⟨rfl, rfl⟩ := e0
  refine G.skip (G.then_n (G.seq (G.block (G.seq (G.region (G.q (Quiet.move rfl) rfl (G.q (Quiet.assign rfl) rfl (G.nil (G.then_n (G.seq ?_))))))))))
  refine G.draw [] [[0, 1, 2, 3, 4, 5]] mixed (by kernel_rfl) ?_
  refine Phases.go [] (by (repeat' constructor)) ?_
  refine D.qw [5] rfl (by kernel_rfl) (Quiet.loadAs (vs := evC e) rfl ag_75 (by (repeat' constructor)) (by simp [evC]) rfl) ?_
  refine D.qw [3, 4, 5] rfl (by kernel_rfl) (Quiet.move rfl) ?_
  refine D.qw [3, 4, 5] rfl (by kernel_rfl) (Quiet.move rfl) ?_
  refine D.qw [4, 5] rfl (by kernel_rfl) (Quiet.indexAddr rfl rfl el_30 (by omega)) ?_
  refine D.qw [5] rfl (by kernel_rfl) (Quiet.loadRdA (sz := 3) (j := i * 3) (k := 3) (p := slR 75 3 _ xs.length (xs.flatMap evC)) (vs := evC xs[i]) rfl ag_75 (by (repeat' constructor)) (fun h hp => slR_rd hp) (by simp) (by omega) (by omega) (flatMap_at (f := evC) (sz := 3) (fun _ _ => rfl) (by omega))) ?_
  refine D.qw [] rfl (by kernel_rfl) (Quiet.structEq (r := decide (e = xs[i])) rfl rfl (by kernel_rfl) (ev_eq 9998 _ _)) ?_
  refine D.ph (Phases.fin (G.then_n ?_))
  refine G.condD rfl (fun h16 => ?_) (fun h16 => ?_)
  ·refine G.seq (G.region (G.q (Quiet.move rfl) rfl (G.q (Quiet.assign rfl) rfl (G.nil (G.then_n (G.ret (G.blk_r (G.then_r (G.then_r (G.blk_r (G.then_r ?_)))))))))))
   exact G.done (l := [.tmp 4]) rfl rfl ⟨i, rfl, ⟨fun _ => by rw [h16]; exact List.getElem_mem hi2, fun _ => by omega⟩, rfl⟩ (by (repeat' constructor)) (by (repeat' constructor))
  ·refine G.skip (G.blk_n (G.then_n (G.region ?_)))
   refine G.q (Quiet.add rfl rfl (by omega)) rfl ?_
   refine G.q (Quiet.move rfl) rfl (G.nil (G.then_n ?_))
   exact G.roundK (i + 1) (⟨by omega, by rw [List.take_succ_eq_append_getElem hi2, List.mem_append, List.mem_singleton]; rintro (g | g); exact hno g; exact h16 g⟩) (by omega) ⟨rfl, rfl, rfl, rfl, trivial⟩ (by (repeat' constructor)) (by ((repeat (apply Have.cons; (repeat (first | exact Pick.here | apply Pick.there)))); apply Have.base; repeat' constructor))
 ·refine G.exit (G.then_e (G.then_e (G.blk_e (G.then_n (G.seq (G.region (G.q (Quiet.assign rfl) rfl (G.nil (G.then_n (G.ret ?_))))))))))
  exact G.done (l := [.tmp 4]) rfl rfl ⟨-1, rfl, ⟨fun g => absurd g (by decide), fun g => absurd g (by have hii : i = xs.length := (by omega); rw [hii, List.take_length] at hno; exact hno)⟩, rfl⟩ (by (repeat' constructor)) (by (repeat' constructor))

set_option maxRecDepth 100000 in
theorem evhas_spec (xs : List Ev) (e : Ev) (v : Value) (h1 : xs.length ≤ 4611686018427387904) : Fn Tryz.prog 81 #[v, .agg (evC e).toArray] [slR 75 3 v xs.length (xs.flatMap evC)] fun r L => r = .bool (decide (e ∈ xs)) ∧ L = [slR 75 3 v xs.length (xs.flatMap evC)] := by
 refine Fn.intro (vs := [v, .agg (evC e).toArray]) Tryz.func81 rfl rfl ?_
 intro F W
 refine G.seq (G.region ?_)
 refine G.op (OpSpec.box rfl) (by (repeat' constructor)) rfl ?nx1
 rintro v L' ⟨b3, rfl, rfl⟩
 refine G.q (Quiet.assign rfl) rfl (G.nil ?_)
 refine G.ptCast (b := b3) (l' := evC e) (by (repeat' constructor)) rfl ?_
 refine G.then_n (G.seq (G.region (G.q (Quiet.move rfl) rfl ?_)))
 refine G.q (Quiet.loadAs (vs := evC e) rfl ag_75 (by (repeat' constructor)) (by simp [evC]) rfl) rfl ?_
 refine G.op (OpSpec.call Tryz.func113 rfl rfl (vs := [_, _]) rfl (evidx_spec xs e v h1)) (by (repeat' constructor)) rfl ?nx6
 rintro r L' ⟨k, rfl, hk, rfl⟩
 refine G.q (Quiet.int rfl rfl rfl) rfl (G.q (Quiet.assign rfl) rfl (G.nil (G.then_n (G.ret ?_))))
 exact G.done (l := [.tmp 4]) rfl rfl ⟨congrArg Value.bool (decide_eq_decide.2 hk), rfl⟩ (by (repeat' constructor)) (by (repeat' constructor))

set_option maxRecDepth 100000 in
theorem wsince_spec (t : Nat) (τ : Tr) (a : Arm) (N : Nat) (ho : τ.Ok N) (hN : N ≤ 1099511627776) : Fn Tryz.prog 80 #[vptr t, .agg (armC a).toArray] [treeR t τ] fun v L => v = .tuple #[.agg (evC (sinceZ τ a).1).toArray, .bool (sinceZ τ a).2] ∧ L = [treeR t τ] := by
 refine Fn.intro (vs := [vptr t, .agg (armC a).toArray]) Tryz.func80 rfl rfl ?_
 intro F W
 refine G.seq (G.region ?_)
 refine G.op (OpSpec.box rfl) (by (repeat' constructor)) rfl ?nx1
 rintro v L' ⟨b3, rfl, rfl⟩
 refine G.op (OpSpec.allocA ze_75) (by (repeat' constructor)) rfl ?nx3
 rintro v L' ⟨b4, rfl, rfl⟩
 refine G.q (Quiet.assign rfl) rfl (G.nil ?_)
 refine G.ptCast (b := b3) (l' := armC a) (by (repeat' constructor)) rfl ?_
 refine G.then_n (G.seq (G.region ?_))
 rcases Decidable.em (thereT τ a.2.1) with hth | hth
 ·refine G.q (Quiet.move rfl) rfl (G.q (Quiet.fieldAddr rfl fo_70_1) rfl ?_)
  refine G.q (Quiet.load rfl ag_9 (by (repeat' constructor)) (rfl)) rfl ?_
  refine G.op (OpSpec.call Tryz.func16 rfl rfl (vs := [_, _]) rfl (trstat_spec t τ a.2.1 N ho (by omega))) (by (repeat' constructor)) rfl ?nx9
  rintro v L' ⟨rfl, rfl⟩; rw [decide_eq_true hth]
  refine G.q (Quiet.move rfl) rfl (G.q (Quiet.extract rfl rfl) rfl (G.q (Quiet.extract rfl rfl) rfl ?_))
  refine G.op (OpSpec.allocA ze_43) (by (repeat' constructor)) rfl ?nx13
  rintro v L' ⟨b6, rfl, rfl⟩
  refine G.op (OpSpec.storeA rfl rfl ?c15 sz_43 ?c18 ?c16 ?c17) (by (repeat' constructor)) rfl ?nx19
  case c15 => simp [stC, isCell]
  case c18 => rfl
  case c16 => simp [stC]
  case c17 => exact nfz0 _ _
  rintro v L' rfl
  refine G.q (Quiet.assign rfl) rfl (G.nil ?_)
  refine G.ptCast (b := b6) (l' := stC (statD τ a.2.1)) (by (repeat' constructor)) rfl ?_
  refine G.then_n (G.seq (G.region (G.q (Quiet.fieldAddr rfl fo_70_1) rfl ?_)))
  refine G.q (Quiet.load rfl ag_9 (by (repeat' constructor)) (rfl)) rfl ?_
  refine G.q (Quiet.to (v' := .agg (evC ((0, (a.2.1, 0)) : Ev)).toArray) (Quiet.build (us := [(1, _)]) fl_75 ze_75 rfl rfl (by simp [isCell])) rfl) rfl ?_
  refine G.op (OpSpec.allocA ze_75) (by (repeat' constructor)) rfl ?nx23
  rintro v L' ⟨b8, rfl, rfl⟩
  refine G.op (OpSpec.storeA rfl rfl ?c25 sz_75 ?c28 ?c26 ?c27) (by (repeat' constructor)) rfl ?nx29
  case c25 => simp [evC, isCell]
  case c28 => rfl
  case c26 => simp [evC]
  case c27 => exact nfz0 _ _
  rintro v L' rfl
  refine G.nil ?_
  refine G.ptCast (b := b8) (l' := [vint 0, vstr a.2.1, vint 0]) (by (repeat' constructor)) rfl ?_
  refine G.then_n (G.seq (G.region (G.q (Quiet.assign rfl) rfl (G.nil (G.then_n (G.seq (G.block (G.seq (G.region (G.q (Quiet.fieldAddr rfl fo_70_0) rfl ?_))))))))))
  refine G.q (Quiet.load rfl ag_3 (by (repeat' constructor)) (rfl)) rfl ?_
  refine G.q (Quiet.int rfl rfl rfl) rfl (G.q (Quiet.assign rfl) rfl (G.nil (G.then_n ?_)))
  refine G.condD rfl (fun h29 => ?_) (fun h29 => ?_)
  ·refine G.draw [4, 6] [[0, 1, 2, 3, 4, 5, 6], [7]] mixed (by kernel_rfl) ?_
   refine Phases.go [ptc b6 _ _] (by (repeat' constructor)) ?_
   refine D.q rfl (by kernel_rfl) (Quiet.fieldAddr rfl fo_43_0) ?_
   refine D.q rfl (by kernel_rfl) (Quiet.load rfl ag_3 (by (repeat' constructor)) (rfl)) ?_
   refine D.q rfl (by kernel_rfl) (Quiet.move rfl) ?_
   refine D.qw [4, 5, 6] rfl (by kernel_rfl) (Quiet.fieldAddr rfl fo_75_0) ?_
   refine D.h rfl (by kernel_rfl) (OpSpec.store rfl rfl rfl sz_3 ?c37 ?c38) (by (repeat' constructor)) ?nx39
   case c37 => first | decide | (simp; omega) | simp
   case c38 => exact nfz0 _ _
   rintro v L' rfl
   refine D.qw [6] rfl (by kernel_rfl) (Quiet.fieldAddr rfl fo_75_2) ?_
   refine D.h rfl (by kernel_rfl) (OpSpec.store rfl rfl rfl sz_3 ?c41 ?c42) (by (repeat' constructor)) ?nx43
   case c41 => first | decide | (simp; omega) | simp
   case c42 => exact nfz0 _ _
   rintro v L' rfl
   refine D.ph ?_
   refine Phases.go [] (by (repeat' constructor)) ?_
   refine D.qw [] rfl (by kernel_rfl) (Quiet.assign rfl) ?_
   refine D.ph (Phases.fin (G.blk_n (G.then_n (G.seq (G.region ?_)))))
   refine G.q (Quiet.loadA rfl ag_75 (by (repeat' constructor)) (by simp)) rfl ?_
   refine G.q (Quiet.move rfl) rfl ?_
   refine G.op (OpSpec.storeA rfl rfl ?c45 sz_75 ?c48 ?c46 ?c47) (by (repeat' constructor)) rfl ?nx49
   case c45 => simp [evC, isCell]
   case c48 => rfl
   case c46 => simp [evC]
   case c47 => exact nfz0 _ _
   rintro v L' rfl
   refine G.q (Quiet.assign rfl) rfl (G.nil (G.then_n (G.ret ?_)))
   have hz : sinceZ τ a = ((1, (a.2.1, (statD τ a.2.1).cz)), true) := by unfold sinceZ; rw [if_pos h29, decide_eq_true hth]
   rw [hz]
   refine G.ptCast (b := b4) (l' := evC ((1, (a.2.1, (statD τ a.2.1).cz)), true).1) (by (repeat' constructor)) (by exact rfl) ?_
   exact G.done2 rfl (.cellA rfl ag_75 (by (repeat' constructor)) (by simp [evC]) rfl) (.tmp rfl) ⟨rfl, rfl⟩ (by (repeat' constructor)) (by (repeat' constructor))
  ·refine G.seq (G.region (G.q (Quiet.move rfl) rfl (G.q (Quiet.not rfl) rfl (G.q (Quiet.move rfl) rfl (G.grun (t := 41) rfl rfl rfl (G.q (Quiet.fieldAddr rfl fo_43_0) rfl (G.grun (t := 41) rfl rfl rfl ?_)))))))
   refine G.q (Quiet.load rfl ag_3 (by (repeat' constructor)) (rfl)) rfl ?_
   refine G.grun (t := 41) rfl rfl rfl (G.q (Quiet.fieldAddr rfl fo_70_2) rfl (G.grun (t := 41) rfl rfl rfl ?_))
   refine G.q (Quiet.load rfl ag_3 (by (repeat' constructor)) (rfl)) rfl ?_
   refine G.grun (t := 41) rfl rfl rfl (G.q (Quiet.int rfl rfl rfl) rfl (G.q (Quiet.pickF rfl rfl) rfl (G.q (Quiet.assign rfl) rfl (G.nil (G.then_n ?_)))))
   refine G.condN rfl (fun h38 => ?_) (fun h38 => ?_)
   ·refine G.region (G.q (Quiet.move rfl) rfl ?_)
    refine G.op (OpSpec.call Tryz.func22 rfl rfl (vs := [_]) rfl (trzxid_spec t τ)) (by (repeat' constructor)) rfl ?nx57
    rintro v L' ⟨rfl, rfl⟩
    refine G.q (Quiet.fieldAddr rfl fo_75_0) rfl ?_
    refine G.op (OpSpec.store rfl rfl rfl sz_3 ?c60 ?c61) (by (repeat' constructor)) rfl ?nx62
    case c60 => first | decide | (simp; omega) | simp
    case c61 => exact nfz0 _ _
    rintro v L' rfl
    refine G.q (Quiet.fieldAddr rfl fo_75_2) rfl ?_
    refine G.op (OpSpec.store rfl rfl rfl sz_3 ?c64 ?c65) (by (repeat' constructor)) rfl ?nx66
    case c64 => first | decide | (simp; omega) | simp
    case c65 => exact nfz0 _ _
    rintro v L' rfl
    refine G.q (Quiet.assign rfl) rfl (G.nil (G.blk_n (G.then_n (G.seq (G.region ?_)))))
    refine G.q (Quiet.loadA rfl ag_75 (by (repeat' constructor)) (by simp)) rfl ?_
    refine G.q (Quiet.move rfl) rfl ?_
    refine G.op (OpSpec.storeA rfl rfl ?c69 sz_75 ?c72 ?c70 ?c71) (by (repeat' constructor)) rfl ?nx73
    case c69 => simp [evC, isCell]
    case c72 => rfl
    case c70 => simp [evC]
    case c71 => exact nfz0 _ _
    rintro v L' rfl
    refine G.q (Quiet.assign rfl) rfl (G.nil (G.then_n (G.ret ?_)))
    have hz : sinceZ τ a = ((2, (a.2.1, τ.zx)), true) := by unfold sinceZ; rw [if_neg h29, if_pos (by first | exact .inl hth | exact .inr h38 | exact .inr (by simpa using h38))]
    rw [hz]
    refine G.ptCast (b := b4) (l' := evC ((2, (a.2.1, τ.zx)), true).1) (by (repeat' constructor)) (by exact rfl) ?_
    exact G.done2 rfl (.cellA rfl ag_75 (by (repeat' constructor)) (by simp [evC]) rfl) (.tmp rfl) ⟨rfl, rfl⟩ (by (repeat' constructor)) (by (repeat' constructor))
   ·refine G.seq (G.region (G.q (Quiet.fieldAddr rfl fo_70_0) rfl ?_))
    refine G.q (Quiet.load rfl ag_3 (by (repeat' constructor)) (rfl)) rfl ?_
    refine G.q (Quiet.int rfl rfl rfl) rfl (G.q (Quiet.assign rfl) rfl (G.nil (G.then_n ?_)))
    refine G.condD rfl (fun h52 => ?_) (fun h52 => ?_)
    ·refine G.draw [8, 10] [[0, 1, 2, 3, 4, 5, 6, 7, 8, 9, 10], [11]] mixed (by kernel_rfl) ?_
     refine Phases.go [ptc b6 _ _, ptc b3 _ _] (by (repeat' constructor)) ?_
     refine D.q rfl (by kernel_rfl) (Quiet.fieldAddr rfl fo_43_2) ?_
     refine D.q rfl (by kernel_rfl) (Quiet.load rfl ag_3 (by (repeat' constructor)) (rfl)) ?_
     refine D.q rfl (by kernel_rfl) (Quiet.fieldAddr rfl fo_43_2) ?_
     refine D.q rfl (by kernel_rfl) (Quiet.load rfl ag_3 (by (repeat' constructor)) (rfl)) ?_
     refine D.q rfl (by kernel_rfl) (Quiet.fieldAddr rfl fo_70_4) ?_
     refine D.q rfl (by kernel_rfl) (Quiet.load rfl ag_3 (by (repeat' constructor)) (rfl)) ?_
     refine D.q rfl (by kernel_rfl) (Quiet.int rfl rfl rfl) ?_
     refine D.qw [8, 9, 10] rfl (by kernel_rfl) (Quiet.fieldAddr rfl fo_75_0) ?_
     refine D.h rfl (by kernel_rfl) (OpSpec.store rfl rfl rfl sz_3 ?c85 ?c86) (by (repeat' constructor)) ?nx87
     case c85 => first | decide | (simp; omega) | simp
     case c86 => exact nfz0 _ _
     rintro v L' rfl
     refine D.qw [10] rfl (by kernel_rfl) (Quiet.fieldAddr rfl fo_75_2) ?_
     refine D.h rfl (by kernel_rfl) (OpSpec.store rfl rfl rfl sz_3 ?c89 ?c90) (by (repeat' constructor)) ?nx91
     case c89 => first | decide | (simp; omega) | simp
     case c90 => exact nfz0 _ _
     rintro v L' rfl
     refine D.ph ?_
     refine Phases.go [] (by (repeat' constructor)) ?_
     refine D.qw [] rfl (by kernel_rfl) (Quiet.assign rfl) ?_
     refine D.ph (Phases.fin (G.blk_n (G.then_n (G.seq (G.region ?_)))))
     refine G.q (Quiet.loadA rfl ag_75 (by (repeat' constructor)) (by simp)) rfl ?_
     refine G.q (Quiet.move rfl) rfl ?_
     refine G.op (OpSpec.storeA rfl rfl ?c93 sz_75 ?c96 ?c94 ?c95) (by (repeat' constructor)) rfl ?nx97
     case c93 => simp [evC, isCell]
     case c96 => rfl
     case c94 => simp [evC]
     case c95 => exact nfz0 _ _
     rintro v L' rfl
     refine G.q (Quiet.assign rfl) rfl (G.nil (G.then_n (G.ret ?_)))
     have hz : sinceZ τ a = ((4, (a.2.1, (statD τ a.2.1).pz)), !decide ((statD τ a.2.1).pz = a.2.2.2.2)) := by unfold sinceZ; rw [if_neg h29, if_neg (by rintro (g | g); exact g hth; exact g h38), if_pos h52, decide_not]
     rw [hz]
     refine G.ptCast (b := b4) (l' := evC ((4, (a.2.1, (statD τ a.2.1).pz)), !decide ((statD τ a.2.1).pz = a.2.2.2.2)).1) (by (repeat' constructor)) (by exact rfl) ?_
     exact G.done2 rfl (.cellA rfl ag_75 (by (repeat' constructor)) (by simp [evC]) rfl) (.tmp rfl) ⟨rfl, rfl⟩ (by (repeat' constructor)) (by (repeat' constructor))
    ·refine G.draw [8, 10] [[0, 1, 2, 3, 4, 5, 6, 7, 8, 9, 10], [11]] mixed (by kernel_rfl) ?_
     refine Phases.go [ptc b6 _ _, ptc b3 _ _] (by (repeat' constructor)) ?_
     refine D.q rfl (by kernel_rfl) (Quiet.fieldAddr rfl fo_43_1) ?_
     refine D.q rfl (by kernel_rfl) (Quiet.load rfl ag_3 (by (repeat' constructor)) (rfl)) ?_
     refine D.q rfl (by kernel_rfl) (Quiet.fieldAddr rfl fo_43_1) ?_
     refine D.q rfl (by kernel_rfl) (Quiet.load rfl ag_3 (by (repeat' constructor)) (rfl)) ?_
     refine D.q rfl (by kernel_rfl) (Quiet.fieldAddr rfl fo_70_3) ?_
     refine D.q rfl (by kernel_rfl) (Quiet.load rfl ag_3 (by (repeat' constructor)) (rfl)) ?_
     refine D.q rfl (by kernel_rfl) (Quiet.int rfl rfl rfl) ?_
     refine D.qw [8, 9, 10] rfl (by kernel_rfl) (Quiet.fieldAddr rfl fo_75_0) ?_
     refine D.h rfl (by kernel_rfl) (OpSpec.store rfl rfl rfl sz_3 ?c106 ?c107) (by (repeat' constructor)) ?nx108
     case c106 => first | decide | (simp; omega) | simp
     case c107 => exact nfz0 _ _
     rintro v L' rfl
     refine D.qw [10] rfl (by kernel_rfl) (Quiet.fieldAddr rfl fo_75_2) ?_
     refine D.h rfl (by kernel_rfl) (OpSpec.store rfl rfl rfl sz_3 ?c110 ?c111) (by (repeat' constructor)) ?nx112
     case c110 => first | decide | (simp; omega) | simp
     case c111 => exact nfz0 _ _
     rintro v L' rfl
     refine D.ph ?_
     refine Phases.go [] (by (repeat' constructor)) ?_
     refine D.qw [] rfl (by kernel_rfl) (Quiet.assign rfl) ?_
     refine D.ph (Phases.fin (G.blk_n (G.then_n (G.seq (G.region ?_)))))
     refine G.q (Quiet.loadA rfl ag_75 (by (repeat' constructor)) (by simp)) rfl ?_
     refine G.q (Quiet.move rfl) rfl ?_
     refine G.op (OpSpec.storeA rfl rfl ?c114 sz_75 ?c117 ?c115 ?c116) (by (repeat' constructor)) rfl ?nx118
     case c114 => simp [evC, isCell]
     case c117 => rfl
     case c115 => simp [evC]
     case c116 => exact nfz0 _ _
     rintro v L' rfl
     refine G.q (Quiet.assign rfl) rfl (G.nil (G.then_n (G.ret ?_)))
     have hz : sinceZ τ a = ((3, (a.2.1, (statD τ a.2.1).mz)), !decide ((statD τ a.2.1).mz = a.2.2.2.1)) := by unfold sinceZ; rw [if_neg h29, if_neg (by rintro (g | g); exact g hth; exact g h38), if_neg h52, decide_not]
     rw [hz]
     refine G.ptCast (b := b4) (l' := evC ((3, (a.2.1, (statD τ a.2.1).mz)), !decide ((statD τ a.2.1).mz = a.2.2.2.1)).1) (by (repeat' constructor)) (by exact rfl) ?_
     exact G.done2 rfl (.cellA rfl ag_75 (by (repeat' constructor)) (by simp [evC]) rfl) (.tmp rfl) ⟨rfl, rfl⟩ (by (repeat' constructor)) (by (repeat' constructor))
 ·refine G.q (Quiet.move rfl) rfl (G.q (Quiet.fieldAddr rfl fo_70_1) rfl ?_)
  refine G.q (Quiet.load rfl ag_9 (by (repeat' constructor)) (rfl)) rfl ?_
  refine G.op (OpSpec.call Tryz.func16 rfl rfl (vs := [_, _]) rfl (trstat_spec t τ a.2.1 N ho (by omega))) (by (repeat' constructor)) rfl ?nx122
  rintro v L' ⟨rfl, rfl⟩; rw [decide_eq_false hth]
  refine G.q (Quiet.move rfl) rfl (G.q (Quiet.extract rfl rfl) rfl (G.q (Quiet.extract rfl rfl) rfl ?_))
  refine G.op (OpSpec.allocA ze_43) (by (repeat' constructor)) rfl ?nx126
  rintro v L' ⟨b6, rfl, rfl⟩
  refine G.op (OpSpec.storeA rfl rfl ?c128 sz_43 ?c131 ?c129 ?c130) (by (repeat' constructor)) rfl ?nx132
  case c128 => simp [stC, isCell]
  case c131 => rfl
  case c129 => simp [stC]
  case c130 => exact nfz0 _ _
  rintro v L' rfl
  refine G.q (Quiet.assign rfl) rfl (G.nil ?_)
  refine G.ptCast (b := b6) (l' := stC (statD τ a.2.1)) (by (repeat' constructor)) rfl ?_
  refine G.then_n (G.seq (G.region (G.q (Quiet.fieldAddr rfl fo_70_1) rfl ?_)))
  refine G.q (Quiet.load rfl ag_9 (by (repeat' constructor)) (rfl)) rfl ?_
  refine G.q (Quiet.to (v' := .agg (evC ((0, (a.2.1, 0)) : Ev)).toArray) (Quiet.build (us := [(1, _)]) fl_75 ze_75 rfl rfl (by simp [isCell])) rfl) rfl ?_
  refine G.op (OpSpec.allocA ze_75) (by (repeat' constructor)) rfl ?nx136
  rintro v L' ⟨b8, rfl, rfl⟩
  refine G.op (OpSpec.storeA rfl rfl ?c138 sz_75 ?c141 ?c139 ?c140) (by (repeat' constructor)) rfl ?nx142
  case c138 => simp [evC, isCell]
  case c141 => rfl
  case c139 => simp [evC]
  case c140 => exact nfz0 _ _
  rintro v L' rfl
  refine G.nil ?_
  refine G.ptCast (b := b8) (l' := [vint 0, vstr a.2.1, vint 0]) (by (repeat' constructor)) rfl ?_
  refine G.then_n (G.seq (G.region (G.q (Quiet.assign rfl) rfl (G.nil (G.then_n (G.seq (G.block (G.seq (G.region (G.q (Quiet.fieldAddr rfl fo_70_0) rfl ?_))))))))))
  refine G.q (Quiet.load rfl ag_3 (by (repeat' constructor)) (rfl)) rfl ?_
  refine G.q (Quiet.int rfl rfl rfl) rfl (G.q (Quiet.assign rfl) rfl (G.nil (G.then_n ?_)))
  refine G.condD rfl (fun h29 => ?_) (fun h29 => ?_)
  ·refine G.draw [4, 6] [[0, 1, 2, 3, 4, 5, 6], [7]] mixed (by kernel_rfl) ?_
   refine Phases.go [ptc b6 _ _] (by (repeat' constructor)) ?_
   refine D.q rfl (by kernel_rfl) (Quiet.fieldAddr rfl fo_43_0) ?_
   refine D.q rfl (by kernel_rfl) (Quiet.load rfl ag_3 (by (repeat' constructor)) (rfl)) ?_
   refine D.q rfl (by kernel_rfl) (Quiet.move rfl) ?_
   refine D.qw [4, 5, 6] rfl (by kernel_rfl) (Quiet.fieldAddr rfl fo_75_0) ?_
   refine D.h rfl (by kernel_rfl) (OpSpec.store rfl rfl rfl sz_3 ?c150 ?c151) (by (repeat' constructor)) ?nx152
   case c150 => first | decide | (simp; omega) | simp
   case c151 => exact nfz0 _ _
   rintro v L' rfl
   refine D.qw [6] rfl (by kernel_rfl) (Quiet.fieldAddr rfl fo_75_2) ?_
   refine D.h rfl (by kernel_rfl) (OpSpec.store rfl rfl rfl sz_3 ?c154 ?c155) (by (repeat' constructor)) ?nx156
   case c154 => first | decide | (simp; omega) | simp
   case c155 => exact nfz0 _ _
   rintro v L' rfl
   refine D.ph ?_
   refine Phases.go [] (by (repeat' constructor)) ?_
   refine D.qw [] rfl (by kernel_rfl) (Quiet.assign rfl) ?_
   refine D.ph (Phases.fin (G.blk_n (G.then_n (G.seq (G.region ?_)))))
   refine G.q (Quiet.loadA rfl ag_75 (by (repeat' constructor)) (by simp)) rfl ?_
   refine G.q (Quiet.move rfl) rfl ?_
   refine G.op (OpSpec.storeA rfl rfl ?c158 sz_75 ?c161 ?c159 ?c160) (by (repeat' constructor)) rfl ?nx162
   case c158 => simp [evC, isCell]
   case c161 => rfl
   case c159 => simp [evC]
   case c160 => exact nfz0 _ _
   rintro v L' rfl
   refine G.q (Quiet.assign rfl) rfl (G.nil (G.then_n (G.ret ?_)))
   have hz : sinceZ τ a = ((1, (a.2.1, (statD τ a.2.1).cz)), false) := by unfold sinceZ; rw [if_pos h29, decide_eq_false hth]
   rw [hz]
   refine G.ptCast (b := b4) (l' := evC ((1, (a.2.1, (statD τ a.2.1).cz)), false).1) (by (repeat' constructor)) (by exact rfl) ?_
   exact G.done2 rfl (.cellA rfl ag_75 (by (repeat' constructor)) (by simp [evC]) rfl) (.tmp rfl) ⟨rfl, rfl⟩ (by (repeat' constructor)) (by (repeat' constructor))
  ·refine G.seq (G.region (G.q (Quiet.move rfl) rfl (G.q (Quiet.not rfl) rfl (G.q (Quiet.move rfl) rfl (G.gskip (t := 41) rfl rfl rfl rfl (G.gskip (t := 41) rfl rfl rfl rfl (G.gskip (t := 41) rfl rfl rfl rfl (G.gskip (t := 41) rfl rfl rfl rfl (G.gskip (t := 41) rfl rfl rfl rfl (G.q (Quiet.pickT rfl rfl) rfl (G.q (Quiet.assign rfl) rfl (G.nil (G.then_n (G.condT rfl (G.region (G.q (Quiet.move rfl) rfl ?_))))))))))))))))
   refine G.op (OpSpec.call Tryz.func22 rfl rfl (vs := [_]) rfl (trzxid_spec t τ)) (by (repeat' constructor)) rfl ?nx166
   rintro v L' ⟨rfl, rfl⟩
   refine G.q (Quiet.fieldAddr rfl fo_75_0) rfl ?_
   refine G.op (OpSpec.store rfl rfl rfl sz_3 ?c169 ?c170) (by (repeat' constructor)) rfl ?nx171
   case c169 => first | decide | (simp; omega) | simp
   case c170 => exact nfz0 _ _
   rintro v L' rfl
   refine G.q (Quiet.fieldAddr rfl fo_75_2) rfl ?_
   refine G.op (OpSpec.store rfl rfl rfl sz_3 ?c173 ?c174) (by (repeat' constructor)) rfl ?nx175
   case c173 => first | decide | (simp; omega) | simp
   case c174 => exact nfz0 _ _
   rintro v L' rfl
   refine G.q (Quiet.assign rfl) rfl (G.nil (G.blk_n (G.then_n (G.seq (G.region ?_)))))
   refine G.q (Quiet.loadA rfl ag_75 (by (repeat' constructor)) (by simp)) rfl ?_
   refine G.q (Quiet.move rfl) rfl ?_
   refine G.op (OpSpec.storeA rfl rfl ?c178 sz_75 ?c181 ?c179 ?c180) (by (repeat' constructor)) rfl ?nx182
   case c178 => simp [evC, isCell]
   case c181 => rfl
   case c179 => simp [evC]
   case c180 => exact nfz0 _ _
   rintro v L' rfl
   refine G.q (Quiet.assign rfl) rfl (G.nil (G.then_n (G.ret ?_)))
   have hz : sinceZ τ a = ((2, (a.2.1, τ.zx)), true) := by unfold sinceZ; rw [if_neg h29, if_pos (by first | exact .inl hth | exact .inr h38 | exact .inr (by simpa using h38))]
   rw [hz]
   refine G.ptCast (b := b4) (l' := evC ((2, (a.2.1, τ.zx)), true).1) (by (repeat' constructor)) (by exact rfl) ?_
   exact G.done2 rfl (.cellA rfl ag_75 (by (repeat' constructor)) (by simp [evC]) rfl) (.tmp rfl) ⟨rfl, rfl⟩ (by (repeat' constructor)) (by (repeat' constructor))

set_option maxRecDepth 100000 in
theorem warm_spec (t u : Nat) (ω : List Wt) (τ : Tr) (s : Int) (va : Value) (l : List Arm) (p : HP) (hl : ArmsA p va l) (N : Nat) (ho : τ.Ok N) (hN : N ≤ 1099511627776) (h1 : 1 ≤ s) (hs : s ≤ 9223372036854775807) : Fn Tryz.prog 36 #[vptr t, vint s, vptr u, va] [tbR t ω, treeR u τ, p] fun v L => ∃ a c, v = .slice a (armL τ s ω l).2.length c ∧ L = [tbR t (armL τ s ω l).1, treeR u τ, p, slR 75 3 v (armL τ s ω l).2.length ((armL τ s ω l).2.flatMap evC)] := by
 refine Fn.intro (vs := [vptr t, vint s, vptr u, va]) Tryz.func36 rfl rfl ?_
 intro F W
 refine G.rdAny (p := p) hl.cells (by (repeat' constructor)) fun aa ca e0 _ => ?_
 subst e0
 have hll := hl.len
 refine G.seq (G.region (G.q (Quiet.assign rfl) rfl (G.nil (G.then_n (G.seq (G.seq (G.region (G.q (Quiet.move rfl) rfl ?_))))))))
 refine G.q (Quiet.as (v' := .bool false) (by simp; omega) (Quiet.int rfl rfl rfl)) rfl ?_
 refine G.q (Quiet.move rfl) rfl (G.grun (t := 16) rfl rfl rfl (G.q (Quiet.move rfl) rfl (G.grun (t := 16) rfl rfl rfl ?_)))
 refine G.q (Quiet.as (v' := .bool false) (by rfl) (Quiet.ptreq rfl rfl Tryz.underlying28)) rfl ?_
 refine G.q (Quiet.pickF rfl rfl) rfl (G.nil (G.then_n (G.condF rfl (G.skip (G.then_n (G.seq (G.add (slR_nil 75 3) (G.region (G.q (Quiet.assign rfl) rfl (G.nil (G.then_n (G.seq (G.seq (G.region (G.q (Quiet.move rfl) rfl (G.q (Quiet.slen rfl Tryz.underlying82 rfl) rfl (G.q (Quiet.move rfl) rfl (G.nil (G.then_n (G.block ?_))))))))))))))))))))
 refine G.tbCast (t := t) (ω' := (armL τ s ω (l.take 0)).1) (by (repeat' constructor)) (by rw [List.take_zero]; rfl) ?_
 refine G.loopK (ι := Nat × Value) (fun q E => (22, vint q.1) :: (9, q.2) :: E) (fun q => [tbR t (armL τ s ω (l.take q.1)).1, slR 75 3 q.2 (armL τ s ω (l.take q.1)).2.length ((armL τ s ω (l.take q.1)).2.flatMap evC)]) (fun q => q.1 ≤ l.length ∧ ∃ a c, q.2 = .slice a (armL τ s ω (l.take q.1)).2.length c) (fun q => l.length - q.1) (0, .slice none 0 0) (ts := [0, 1, 2, 8, 20, 21]) (.cons rfl (.cons rfl (.cons rfl (.cons rfl (.cons rfl (.cons rfl (.nil))))))) (⟨Nat.zero_le _, none, 0, rfl⟩) ⟨rfl, rfl, rfl, rfl, rfl, rfl, rfl, rfl, trivial⟩ (by (repeat' constructor)) ?_
 rintro ⟨i, w⟩ ⟨hi, au, cu, hw⟩
 dsimp only
 dsimp only at hi hw
 subst hw
 have hal := armL_len τ s ω l i hi
 refine G.seq (G.region (G.q (Quiet.int rfl rfl rfl) rfl (G.nil (G.then_n (G.seq ?_)))))
 refine G.condD rfl (fun h23 => ?_) (fun h23 => ?_)
 ·have hi2 : i < l.length := by omega
  have hp1 := hl.paths _ (List.getElem_mem hi2)
  refine G.rdShape (p := p) hl.cells (by (repeat' constructor)) (by omega) fun bl ol e1 => ?_
  subst e1
  refine G.skip (G.then_n (G.seq (G.block (G.seq (G.region ?_)))))
  refine G.q (Quiet.indexAddr rfl rfl el_82 (by omega)) rfl ?_
  refine G.q (Quiet.loadRdA (sz := 5) (j := i * 5) (k := 5) (p := p) (vs := armC l[i]) rfl ag_70 (by (repeat' constructor)) hl.cells (by simp) (by omega) (by omega) (flatMap_at (f := armC) (sz := 5) (fun _ _ => rfl) (by omega))) rfl ?_
  refine G.op (OpSpec.allocA ze_70) (by (repeat' constructor)) rfl ?nx13
  rintro v L' ⟨b11, rfl, rfl⟩
  refine G.op (OpSpec.storeA rfl rfl ?c15 sz_70 ?c18 ?c16 ?c17) (by (repeat' constructor)) rfl ?nx19
  case c15 => simp [armC, isCell]
  case c18 => rfl
  case c16 => simp [armC]
  case c17 => exact nfz0 _ _
  rintro v L' rfl
  refine G.nil ?_
  refine G.ptCast (b := b11) (l' := armC l[i]) (by (repeat' constructor)) (by exact rfl) ?_
  refine G.then_n (G.seq (G.seq (G.region (G.q (Quiet.fieldAddr rfl fo_70_0) rfl ?_))))
  refine G.q (Quiet.load rfl ag_3 (by (repeat' constructor)) (rfl)) rfl ?_
  refine G.q (Quiet.fieldAddr rfl fo_70_1) rfl ?_
  refine G.q (Quiet.load rfl ag_9 (by (repeat' constructor)) (rfl)) rfl ?_
  refine G.op (OpSpec.call Tryz.func79 rfl rfl (vs := [_, _]) rfl (wis_spec l[i].1 l[i].2.1 hp1)) (by (repeat' constructor)) rfl ?nx24
  rintro v L' ⟨rfl, rfl⟩
  refine G.q (Quiet.not rfl) rfl (G.nil (G.then_n ?_))
  refine G.condB rfl (fun h31 => ?_) (fun h31 => ?_)
  ·have h31 : ¬ isWt l[i].1 l[i].2.1 := by simpa using h31
   refine G.exit (G.then_e (G.blk_e (G.then_n (G.region ?_))))
   refine G.q (Quiet.add rfl rfl (by omega)) rfl ?_
   refine G.q (Quiet.move rfl) rfl (G.nil (G.then_n ?_))
   have hA : (armL τ s ω (l.take (i + 1))) = (armL τ s ω (l.take i)) := by rw [armL_step τ s ω hi2]; unfold armS; rw [if_pos h31]
   refine G.tbCast (t := t) (ω' := (armL τ s ω (l.take (i + 1))).1) (by (repeat' constructor)) (by rw [hA]) ?_
   rw [show (armL τ s ω (l.take i)).2.length = (armL τ s ω (l.take (i + 1))).2.length by rw [hA]]
   refine G.slCast (T := 75) (sz := 3) (m' := (armL τ s ω (l.take (i + 1))).2.length) (xs' := (armL τ s ω (l.take (i + 1))).2.flatMap evC) (by (repeat' constructor)) (by exact rfl) (by rw [hA]) ?_
   exact G.roundK ((i + 1, .slice au (armL τ s ω (l.take (i + 1))).2.length cu)) (⟨by dsimp only; omega, _, _, rfl⟩) (by dsimp only; omega) ⟨rfl, rfl, rfl, rfl, rfl, rfl, rfl, rfl, trivial⟩ (by (repeat' constructor)) (by ((repeat (apply Have.cons; (repeat (first | exact Pick.here | apply Pick.there)))); apply Have.base; repeat' constructor))
  ·have h31 : isWt l[i].1 l[i].2.1 := by simpa using h31
   refine G.skip (G.then_n (G.seq (G.region (G.q (Quiet.move rfl) rfl ?_))))
   refine G.q (Quiet.loadAs (vs := armC l[i]) rfl ag_70 (by (repeat' constructor)) (by simp [armC]) rfl) rfl ?_
   refine G.op (OpSpec.call Tryz.func80 rfl rfl (vs := [_, _]) rfl (wsince_spec u τ l[i] N ho hN)) (by (repeat' constructor)) rfl ?nx30
   rintro v L' ⟨rfl, rfl⟩
   refine G.q (Quiet.move rfl) rfl (G.q (Quiet.extract rfl rfl) rfl (G.q (Quiet.extract rfl rfl) rfl ?_))
   refine G.op (OpSpec.allocA ze_75) (by (repeat' constructor)) rfl ?nx34
   rintro v L' ⟨b12, rfl, rfl⟩
   refine G.op (OpSpec.storeA rfl rfl ?c36 sz_75 ?c39 ?c37 ?c38) (by (repeat' constructor)) rfl ?nx40
   case c36 => simp [evC, isCell]
   case c39 => rfl
   case c37 => simp [evC]
   case c38 => exact nfz0 _ _
   rintro v L' rfl
   refine G.q (Quiet.assign rfl) rfl (G.nil ?_)
   refine G.ptCast (b := b12) (l' := evC (sinceZ τ l[i]).1) (by (repeat' constructor)) (by exact rfl) ?_
   refine G.then_n (G.block (G.seq (G.region (G.q (Quiet.move rfl) rfl (G.q (Quiet.not rfl) rfl (G.q (Quiet.assign rfl) rfl (G.nil (G.then_n ?_))))))))
   refine G.condB rfl (fun h38 => ?_) (fun h38 => ?_)
   ·have h38 : (sinceZ τ l[i]).2 = false := by simpa using h38
    refine G.region (G.q (Quiet.move rfl) rfl (G.q (Quiet.move rfl) rfl (G.q (Quiet.fieldAddr rfl fo_70_0) rfl ?_)))
    refine G.q (Quiet.load rfl ag_3 (by (repeat' constructor)) (rfl)) rfl ?_
    refine G.q (Quiet.fieldAddr rfl fo_70_1) rfl ?_
    refine G.q (Quiet.load rfl ag_9 (by (repeat' constructor)) (rfl)) rfl ?_
    refine G.op (OpSpec.call Tryz.func34 rfl rfl (vs := [_, _, _, _]) rfl (wadd_spec t (armL τ s ω (l.take i)).1 s l[i].1 l[i].2.1 hs hp1)) (by (repeat' constructor)) rfl ?nx48
    rintro v L' ⟨rfl, rfl⟩
    refine G.nil (G.blk_n (G.blk_n (G.then_n (G.region ?_))))
    refine G.q (Quiet.add rfl rfl (by omega)) rfl ?_
    refine G.q (Quiet.move rfl) rfl (G.nil (G.then_n ?_))
    have hA : (armL τ s ω (l.take (i + 1))) = ((addW (armL τ s ω (l.take i)).1 s l[i].1 l[i].2.1).1, (armL τ s ω (l.take i)).2) := by rw [armL_step τ s ω hi2]; unfold armS; rw [if_neg (fun g => g h31), if_pos h38]
    refine G.tbCast (t := t) (ω' := (armL τ s ω (l.take (i + 1))).1) (by (repeat' constructor)) (by rw [hA]) ?_
    rw [show (armL τ s ω (l.take i)).2.length = (armL τ s ω (l.take (i + 1))).2.length by rw [hA]]
    refine G.slCast (T := 75) (sz := 3) (m' := (armL τ s ω (l.take (i + 1))).2.length) (xs' := (armL τ s ω (l.take (i + 1))).2.flatMap evC) (by (repeat' constructor)) (by exact rfl) (by rw [hA]) ?_
    exact G.roundK ((i + 1, .slice au (armL τ s ω (l.take (i + 1))).2.length cu)) (⟨by dsimp only; omega, _, _, rfl⟩) (by dsimp only; omega) ⟨rfl, rfl, rfl, rfl, rfl, rfl, rfl, rfl, trivial⟩ (by (repeat' constructor)) (by ((repeat (apply Have.cons; (repeat (first | exact Pick.here | apply Pick.there)))); apply Have.base; repeat' constructor))
   ·have h38 : (sinceZ τ l[i]).2 = true := by simpa using h38
    refine G.seq (G.region (G.q (Quiet.move rfl) rfl ?_))
    refine G.q (Quiet.loadAs (vs := evC (sinceZ τ l[i]).1) rfl ag_75 (by (repeat' constructor)) (by simp [evC]) rfl) rfl ?_
    refine G.op (OpSpec.call Tryz.func81 rfl rfl (vs := [_, _]) rfl (evhas_spec (armL τ s ω (l.take i)).2 (sinceZ τ l[i]).1 _ (by omega))) (by (repeat' constructor)) rfl ?nx53
    rintro v L' ⟨rfl, rfl⟩
    refine G.q (Quiet.not rfl) rfl (G.q (Quiet.assign rfl) rfl (G.nil (G.then_n ?_)))
    refine G.condB rfl (fun h48 => ?_) (fun h48 => ?_)
    ·have h48 : ¬ (sinceZ τ l[i]).1 ∈ (armL τ s ω (l.take i)).2 := by simpa using h48
     refine G.region (G.q (Quiet.move rfl) rfl ?_)
     refine G.q (Quiet.loadAs (vs := evC (sinceZ τ l[i]).1) rfl ag_75 (by (repeat' constructor)) (by simp [evC]) rfl) rfl ?_
     refine G.op (OpSpec.buildSlice (vs := [_]) el_30 ze_75 rfl rfl rfl rfl (by first | (simp [Value.cells]; done) | (intro v hv; simp only [List.mem_cons, List.not_mem_nil, or_false] at hv; (repeat (first | (subst hv; rfl) | (rcases hv with hv | hv; (subst hv; rfl)))))) (by decide)) (by (repeat' constructor)) rfl ?nx58
     rintro v L' ⟨b13, rfl, rfl⟩
     refine G.op (OpSpec.append1 rfl rfl rfl el_30 ze_75 rfl rfl ?c60 ?c61 (Nat.le_refl _) ?c62 (by decide)) (by (repeat' constructor)) rfl ?nx63
     case c60 => simp only [List.map_cons, List.map_nil, List.flatten_cons, List.flatten_nil, List.append_nil]; simp [Value.cells, evC, isCell]
     case c61 => rfl
     case c62 => omega
     rintro v L' ⟨⟨a12_3, c12_3, rfl⟩, rfl⟩
     refine G.q (Quiet.assign rfl) rfl (G.nil (G.blk_n (G.blk_n (G.then_n (G.region ?_)))))
     refine G.q (Quiet.add rfl rfl (by omega)) rfl ?_
     refine G.q (Quiet.move rfl) rfl (G.nil (G.then_n ?_))
     have hA : (armL τ s ω (l.take (i + 1))) = ((armL τ s ω (l.take i)).1, (armL τ s ω (l.take i)).2 ++ [(sinceZ τ l[i]).1]) := by rw [armL_step τ s ω hi2]; unfold armS; rw [if_neg (fun g => g h31), if_neg (by rw [h38]; decide), if_neg h48]
     refine G.tbCast (t := t) (ω' := (armL τ s ω (l.take (i + 1))).1) (by (repeat' constructor)) (by rw [hA]) ?_
     rw [show (armL τ s ω (l.take i)).2.length + 1 = (armL τ s ω (l.take (i + 1))).2.length by rw [hA]; simp]
     refine G.slCast (T := 75) (sz := 3) (m' := (armL τ s ω (l.take (i + 1))).2.length) (xs' := (armL τ s ω (l.take (i + 1))).2.flatMap evC) (by (repeat' constructor)) (by exact rfl) (by rw [hA]; rw [List.flatMap_append]; simp [Value.cells, evC]) ?_
     exact G.roundK ((i + 1, .slice a12_3 (armL τ s ω (l.take (i + 1))).2.length c12_3)) (⟨by dsimp only; omega, _, _, rfl⟩) (by dsimp only; omega) ⟨rfl, rfl, rfl, rfl, rfl, rfl, rfl, rfl, trivial⟩ (by (repeat' constructor)) (by ((repeat (apply Have.cons; (repeat (first | exact Pick.here | apply Pick.there)))); apply Have.base; repeat' constructor))
    ·have h48 : (sinceZ τ l[i]).1 ∈ (armL τ s ω (l.take i)).2 := by simpa using h48
     refine G.skip (G.blk_n (G.blk_n (G.then_n (G.region ?_))))
     refine G.q (Quiet.add rfl rfl (by omega)) rfl ?_
     refine G.q (Quiet.move rfl) rfl (G.nil (G.then_n ?_))
     have hA : (armL τ s ω (l.take (i + 1))) = (armL τ s ω (l.take i)) := by rw [armL_step τ s ω hi2]; unfold armS; rw [if_neg (fun g => g h31), if_neg (by rw [h38]; decide), if_pos h48]
     refine G.tbCast (t := t) (ω' := (armL τ s ω (l.take (i + 1))).1) (by (repeat' constructor)) (by rw [hA]) ?_
     rw [show (armL τ s ω (l.take i)).2.length = (armL τ s ω (l.take (i + 1))).2.length by rw [hA]]
     refine G.slCast (T := 75) (sz := 3) (m' := (armL τ s ω (l.take (i + 1))).2.length) (xs' := (armL τ s ω (l.take (i + 1))).2.flatMap evC) (by (repeat' constructor)) (by exact rfl) (by rw [hA]) ?_
     exact G.roundK ((i + 1, .slice au (armL τ s ω (l.take (i + 1))).2.length cu)) (⟨by dsimp only; omega, _, _, rfl⟩) (by dsimp only; omega) ⟨rfl, rfl, rfl, rfl, rfl, rfl, rfl, rfl, trivial⟩ (by (repeat' constructor)) (by ((repeat (apply Have.cons; (repeat (first | exact Pick.here | apply Pick.there)))); apply Have.base; repeat' constructor))
 ·have hii : i = l.length := by omega
  rw [hii, List.take_length]
  refine G.exit (G.then_e (G.then_e (G.blk_e (G.then_n (G.seq (G.region (G.q (Quiet.move rfl) rfl (G.q (Quiet.assign rfl) rfl (G.nil (G.then_n (G.ret ?_)))))))))))
  exact G.done (l := [.tmp 8]) rfl rfl ⟨_, _, rfl, rfl⟩ (by (repeat' constructor)) (by (repeat' constructor))

end Go.Proofs.YtnnbelmpbmfdnaaGreatDoor

/- Own work, by program: law 11: WatchMoves: walked. -/

namespace Go.Proofs.YtnnbelmpbmfdnaaGreatDoor
open Go
set_option maxRecDepth 100000 in
theorem pick11_spec  (c n : Int) (hc : -9223372036854775808 ≤ c ∧ c ≤ 9223372036854775807) (hn : 0 < n) : Fn Tryz.prog 33 #[vint c, vint n] [] fun v L => v = vint (pickZ c n) ∧ L = [] := by
 refine Fn.intro (vs := [vint c, vint n]) Tryz.func33 rfl rfl ?_
 intro F W
 refine G.seq (G.region (G.q (Quiet.assign rfl) rfl (G.nil (G.then_n (G.seq (G.seq (G.region (G.q (Quiet.move rfl) rfl (G.q (Quiet.int rfl rfl rfl) rfl (G.nil (G.then_n ?_)))))))))))
 refine G.condD rfl (fun h6 => ?_) (fun h6 => ?_)
 ·refine G.region (G.q (Quiet.move rfl) rfl ?_)
  refine G.q (Quiet.add rfl rfl (by omega)) rfl ?_
  refine G.q (Quiet.neg rfl (by omega)) rfl ?_
  refine G.q (Quiet.assign rfl) rfl (G.nil (G.then_n (G.seq (G.region (G.q (Quiet.move rfl) rfl (G.q (Quiet.move rfl) rfl ?_))))))
  refine G.q (Quiet.remE rfl rfl (by omega) (by omega)) rfl ?_
  refine G.q (Quiet.assign rfl) rfl (G.nil (G.then_n (G.ret ?_)))
  have e : pickZ c n = (-(c + 1)) % n := by unfold pickZ; rw [if_pos h6]
  rw [e]
  exact G.done (l := [.tmp 4]) rfl rfl ⟨rfl, rfl⟩ (by (repeat' constructor)) (by (repeat' constructor))
 ·refine G.skip (G.then_n (G.seq (G.region (G.q (Quiet.move rfl) rfl (G.q (Quiet.move rfl) rfl ?_)))))
  refine G.q (Quiet.remE rfl rfl (by omega) (by omega)) rfl ?_
  refine G.q (Quiet.assign rfl) rfl (G.nil (G.then_n (G.ret ?_)))
  have e : pickZ c n = (c) % n := by unfold pickZ; rw [if_neg h6]
  rw [e]
  exact G.done (l := [.tmp 4]) rfl rfl ⟨rfl, rfl⟩ (by (repeat' constructor)) (by (repeat' constructor))

theorem pick11_is (c n : Int) {k : Int} (e : pickZ c n = k) (hc : -9223372036854775808 ≤ c ∧ c ≤ 9223372036854775807) (hn : 0 < n) : Fn Tryz.prog 33 #[vint c, vint n] [] fun v L => v = vint k ∧ L = [] := e ▸ pick11_spec c n hc hn
theorem pE_len (τ : Tr) (x : Pt) (zx : Int) : (partZ τ x zx).2.length ≤ 2 := by
  unfold partZ createZ eraseZ
  split
  · split <;> simp
  · split
    · split
      · dsimp only; split
        · split <;> simp
        · simp
      · simp
    · split
      · simp
      · split <;> simp
theorem psE_len (τ : Tr) (zx : Int) (l : List Pt) : (partsZ τ zx l).2.length ≤ 2 * l.length := by
  induction l using snocInd with
  | h0 => simp [parts_nil]
  | h1 l x ih =>
    rw [parts_snoc]
    dsimp only
    rw [List.length_append, List.length_append]
    have := pE_len (partsZ τ zx l).1 x zx
    simp only [List.length_cons, List.length_nil]
    omega
theorem apE_len (τ : Tr) (zx : Int) (x : Pt) (subs : List Pt) : (applyZ τ zx x subs).2.1.length ≤ 2 * subs.length + 2 := by
  unfold applyZ
  dsimp only
  split
  · simp
  · split
    · have := psE_len (zxT τ zx) zx (subs.filter isDel)
      have := List.length_filter_le isDel subs
      dsimp only; omega
    · split
      · have := psE_len (zxT τ zx) zx subs
        dsimp only; omega
      · split
        · simp
        · have := pE_len (zxT τ zx) x zx
          dsimp only; omega
set_option maxHeartbeats 2000000 in
set_option maxRecDepth 100000 in
theorem wmoves11_spec (v : Value) (xs : List Ac0) (pa : Bs) (kind laid moved : Int) (p : HP) (hx : Acts1 p v xs) (hq : pa.length ≤ 1048576) (hki : -9223372036854775808 ≤ kind ∧ kind ≤ 9223372036854775807) (hl : -9223372036854775808 ≤ laid ∧ laid ≤ 9223372036854775807) (hmo : -9223372036854775808 ≤ moved ∧ moved ≤ 9223372036854775807) : Fn Tryz.prog 9 #[v, vstr pa, vint kind, vint laid, vint moved] [p] fun r L => r = .bool true ∧ L = [p] := by
 refine Fn.intro (vs := [v, vstr pa, vint kind, vint laid, vint moved]) Tryz.func9 rfl rfl ?_
 intro F W
 obtain ⟨k0, hk0⟩ : ∃ k0 : Int, k0 = 1 + pickZ kind 3 := ⟨_, rfl⟩
 have hk3 := pickZ_range kind (n := 3) (by decide)
 have hkr : 1 ≤ k0 ∧ k0 ≤ 3 := by omega
 refine G.seq (G.region (G.q (Quiet.assign rfl) rfl (G.nil (G.then_n (G.seq (G.region ?_))))))
 refine G.op (OpSpec.call Tryz.func31 rfl rfl (vs := []) rfl (awake11_spec)) (by (repeat' constructor)) rfl ?nx2
 rintro v L' ⟨rfl, rfl⟩
 refine G.q (Quiet.assign rfl) rfl (G.nil (G.then_n (G.seq (G.region (G.q (Quiet.move rfl) rfl ?_)))))
 refine G.op (OpSpec.call Tryz.func12 rfl rfl (vs := [_, _]) rfl (history7_spec v xs 1 p hx (by decide))) (by (repeat' constructor)) rfl ?nx5
 rintro v L' ⟨es, τ, x, u, rfl, hh, ⟨hes, au, cu, rfl⟩, rfl⟩; have hinv := hh.inv; have hok := hinv.ok; have hfew := hok.few
 refine G.q (Quiet.move rfl) rfl (G.q (Quiet.extract rfl rfl) rfl (G.q (Quiet.extract rfl rfl) rfl (G.q (Quiet.assign rfl) rfl (G.q (Quiet.assign rfl) rfl (G.nil ?_)))))
 obtain ⟨d, hd, hdl⟩ : ∃ d : Nat, pickZ laid ((es.length : Int) + 1) = d ∧ d ≤ es.length := ⟨(pickZ laid ((es.length : Int) + 1)).toNat, by have := pickZ_range laid (n := (es.length : Int) + 1) (by omega); omega, by have := pickZ_range laid (n := (es.length : Int) + 1) (by omega); omega⟩
 obtain ⟨m, hm, hdm, hml⟩ : ∃ m : Nat, (d : Int) + pickZ moved ((es.length : Int) + 1 - d) = m ∧ d ≤ m ∧ m ≤ es.length := ⟨((d : Int) + pickZ moved ((es.length : Int) + 1 - d)).toNat, by have := pickZ_range moved (n := (es.length : Int) + 1 - d) (by omega); omega, by have := pickZ_range moved (n := (es.length : Int) + 1 - d) (by omega); omega, by have := pickZ_range moved (n := (es.length : Int) + 1 - d) (by omega); omega⟩
 refine G.then_n (G.seq (G.region ?_))
 refine G.op (OpSpec.call Tryz.func32 rfl rfl (vs := []) rfl (wnew_spec)) (by (repeat' constructor)) rfl ?nx9
 rintro v L' ⟨hm1, rfl, rfl⟩
 refine G.q (Quiet.assign rfl) rfl (G.nil (G.then_n (G.seq (G.region ?_))))
 refine G.op (OpSpec.call Tryz.func32 rfl rfl (vs := []) rfl (wnew_spec)) (by (repeat' constructor)) rfl ?nx11
 rintro v L' ⟨aw, rfl, rfl⟩
 refine G.q (Quiet.assign rfl) rfl (G.nil (G.then_n (G.seq (G.region ?_))))
 refine G.op (OpSpec.call Tryz.func13 rfl rfl (vs := []) rfl (trnew_spec)) (by (repeat' constructor)) rfl ?nx13
 rintro v L' ⟨t, rfl, rfl⟩
 refine G.q (Quiet.assign rfl) rfl (G.nil (G.then_n (G.seq (G.seq (G.region (G.q (Quiet.move rfl) rfl (G.q (Quiet.not rfl) rfl (G.q (Quiet.move rfl) rfl (G.grun (t := 41) rfl rfl rfl (G.q (Quiet.move rfl) rfl (G.grun (t := 41) rfl rfl rfl ?_)))))))))))
 refine G.q (Quiet.as (v' := .bool false) (by rfl) (Quiet.ptreq rfl rfl Tryz.underlying67)) rfl ?_
 refine G.q (Quiet.pickF rfl rfl) rfl (G.q (Quiet.move rfl) rfl (G.grun (t := 45) rfl rfl rfl (G.q (Quiet.move rfl) rfl (G.grun (t := 45) rfl rfl rfl ?_))))
 refine G.q (Quiet.as (v' := .bool false) (by rfl) (Quiet.ptreq rfl rfl Tryz.underlying67)) rfl ?_
 refine G.q (Quiet.pickF rfl rfl) rfl (G.q (Quiet.move rfl) rfl (G.grun (t := 49) rfl rfl rfl (G.q (Quiet.move rfl) rfl (G.grun (t := 49) rfl rfl rfl ?_))))
 refine G.q (Quiet.as (v' := .bool false) (by rfl) (Quiet.ptreq rfl rfl Tryz.underlying28)) rfl ?_
 refine G.q (Quiet.pickF rfl rfl) rfl (G.nil (G.then_n (G.condF rfl (G.skip (G.then_n (G.seq (G.region (G.q (Quiet.move rfl) rfl (G.q (Quiet.move rfl) rfl (G.q (Quiet.slen rfl Tryz.underlying24 rfl) rfl ?_))))))))))
 refine G.q (Quiet.add rfl rfl (by omega)) rfl ?_
 refine G.op (OpSpec.call Tryz.func33 rfl rfl (vs := [_, _]) rfl (pick11_is laid _ (k := (d : Int)) hd hl (by omega))) (by (repeat' constructor)) rfl ?nx22
 rintro v L' ⟨rfl, rfl⟩
 refine G.q (Quiet.assign rfl) rfl (G.nil (G.then_n (G.seq (G.region (G.q (Quiet.move rfl) rfl (G.q (Quiet.move rfl) rfl (G.q (Quiet.move rfl) rfl (G.q (Quiet.slen rfl Tryz.underlying24 rfl) rfl ?_))))))))
 refine G.q (Quiet.add rfl rfl (by omega)) rfl ?_
 refine G.q (Quiet.move rfl) rfl ?_
 refine G.q (Quiet.sub rfl rfl (by omega)) rfl ?_
 refine G.op (OpSpec.call Tryz.func33 rfl rfl (vs := [_, _]) rfl (pick11_spec moved ((es.length : Int) + 1 - d) hmo (by omega))) (by (repeat' constructor)) rfl ?nx28
 rintro v L' ⟨rfl, rfl⟩
 refine G.q (Quiet.as (v' := vint (m : Int)) (by rw [hm]) (Quiet.add rfl rfl (by omega))) rfl ?_
 refine G.q (Quiet.assign rfl) rfl (G.nil (G.then_n (G.seq (G.region (G.q (Quiet.move rfl) rfl ?_)))))
 refine G.op (OpSpec.call Tryz.func33 rfl rfl (vs := [_, _]) rfl (pick11_spec kind 3 hki (by decide))) (by (repeat' constructor)) rfl ?nx32
 rintro v L' ⟨rfl, rfl⟩
 refine G.q (Quiet.as (v' := vint k0) (by rw [hk0]) (Quiet.add rfl rfl (by omega))) rfl ?_
 refine G.q (Quiet.assign rfl) rfl (G.nil (G.then_n (G.seq (G.region ?_))))
 refine G.q (Quiet.to (v' := .agg (armC ((0, ([], (0, (0, 0)))) : Arm)).toArray) (Quiet.build (us := []) fl_70 ze_70 rfl rfl (by simp [isCell])) rfl) rfl ?_
 refine G.op (OpSpec.allocA ze_70) (by (repeat' constructor)) rfl ?nx36
 rintro v L' ⟨b17, rfl, rfl⟩
 refine G.op (OpSpec.storeA rfl rfl ?c38 sz_70 ?c41 ?c39 ?c40) (by (repeat' constructor)) rfl ?nx42
 case c38 => simp [armC, isCell]
 case c41 => rfl
 case c39 => simp [armC]
 case c40 => exact nfz0 _ _
 rintro v L' rfl
 refine G.nil ?_
 refine G.ptCast (b := b17) (l' := armC ((0, ([], (0, (0, 0)))) : Arm)) (by (repeat' constructor)) (by exact rfl) ?_
 refine G.then_n (G.seq (G.region (G.q (Quiet.assign rfl) rfl (G.nil (G.then_n (G.seq (G.region (G.q (Quiet.assign rfl) rfl (G.nil (G.then_n (G.seq (G.region (G.q (Quiet.assign rfl) rfl (G.nil (G.then_n (G.seq (G.region (G.q (Quiet.assign rfl) rfl (G.nil (G.then_n (G.seq (G.seq (G.region (G.q (Quiet.assign rfl) rfl (G.nil (G.then_n (G.block ?_)))))))))))))))))))))))))))
 refine G.trCast (t := t) (τ' := (tauI es 0)) (by (repeat' constructor)) (by unfold tauI; rw [List.take_zero]; rfl) ?_
 refine G.loopK (ι := Nat × (List Wt) × (List Wt) × Bool × Bool × Bool × Bool × Int × Arm) (fun q E => (22, vint q.1) :: (18, .bool q.2.2.2.1) :: (19, .bool q.2.2.2.2.1) :: (21, .bool q.2.2.2.2.2.1) :: (20, .bool q.2.2.2.2.2.2.1) :: (2, vint q.2.2.2.2.2.2.2.1) :: E) (fun q => [tbR hm1 q.2.1, tbR aw q.2.2.1, treeR t (tauI es q.1), ptc b17 (armC q.2.2.2.2.2.2.2.2) 70]) (fun q => q.1 ≤ es.length ∧ MvS es d m pa k0 (decide (d < q.1)) (decide (m < q.1)) q.1 q.2.1 q.2.2.1 q.2.2.2.1 q.2.2.2.2.1 q.2.2.2.2.2.1 q.2.2.2.2.2.2.1 q.2.2.2.2.2.2.2.1 q.2.2.2.2.2.2.2.2) (fun q => es.length - q.1) (0, [], [], false, false, false, false, k0, ((0, ([], (0, (0, 0)))) : Arm)) (ts := [1, 3, 4, 12, 14, 15, 16, 17]) (.cons rfl (.cons rfl (.cons rfl (.cons rfl (.cons rfl (.cons rfl (.cons rfl (.cons rfl (.nil))))))))) (⟨Nat.zero_le _, MvS.init _⟩) ⟨rfl, rfl, rfl, rfl, rfl, rfl, rfl, rfl, rfl, rfl, rfl, rfl, rfl, rfl, trivial⟩ (by (repeat' constructor)) ?_
 rintro ⟨i, ω, ω2, got, thn, told, th, k, a⟩ ⟨hi, hS⟩
 dsimp only
 dsimp only at hi hS
 have hok2 : (tauI es i).Ok 60 := hh.ok hi
 refine G.seq (G.seq (G.region (G.q (Quiet.move rfl) rfl (G.q (Quiet.move rfl) rfl (G.q (Quiet.slen rfl Tryz.underlying24 rfl) rfl (G.q (Quiet.int rfl rfl rfl) rfl (G.nil (G.then_n ?_))))))))
 refine G.condD rfl (fun h74 => ?_) (fun h74 => ?_)
 ·refine G.skip (G.then_n (G.seq (G.block (G.seq (G.region (G.q (Quiet.move rfl) rfl (G.q (Quiet.move rfl) rfl ?_)))))))
  refine G.op (OpSpec.call Tryz.func16 rfl rfl (vs := [_, _]) rfl (trstat_spec t (tauI es i) pa 60 hok2 (by decide))) (by (repeat' constructor)) rfl ?nx54
  rintro v L' ⟨rfl, rfl⟩
  refine G.q (Quiet.move rfl) rfl (G.q (Quiet.extract rfl rfl) rfl (G.q (Quiet.extract rfl rfl) rfl ?_))
  refine G.op (OpSpec.allocA ze_43) (by (repeat' constructor)) rfl ?nx58
  rintro v L' ⟨b23, rfl, rfl⟩
  refine G.op (OpSpec.storeA rfl rfl ?c60 sz_43 ?c63 ?c61 ?c62) (by (repeat' constructor)) rfl ?nx64
  case c60 => intro v hv; simp only [stC, List.mem_cons, List.not_mem_nil, or_false] at hv; rcases hv with rfl | rfl | rfl | rfl | rfl | rfl | rfl | rfl | rfl <;> rfl
  case c63 => rfl
  case c61 => simp [stC]
  case c62 => exact nfz0 _ _
  rintro v L' rfl
  refine G.q (Quiet.assign rfl) rfl (G.nil ?_)
  refine G.ptCast (b := b23) (l' := stC (statD (tauI es i) pa)) (by (repeat' constructor)) (by exact rfl) ?_
  refine G.then_n (G.seq ?_)
  refine G.joinK (ι := (List Wt) × Int × Bool × Arm × Bool) (fun q E => (2, vint q.2.1) :: (20, .bool q.2.2.1) :: (24, .bool q.2.2.2.2) :: E) (fun q => [tbR hm1 q.1, ptc b17 (armC q.2.2.2.1) 70]) (fun q => MvS es d m pa k0 (decide (d ≤ i)) (decide (m < i)) i q.1 ω2 got thn told q.2.2.1 q.2.1 q.2.2.2.1 ∧ q.2.2.2.2 = decide (thereT (tauI es i) pa)) (pre := [tbR hm1 ω, ptc b17 (armC a) 70]) (ts := [1, 3, 4, 12, 14, 15, 16, 17, 18, 19, 21, 22, 23]) (.cons rfl (.cons rfl (.cons rfl (.cons rfl (.cons rfl (.cons rfl (.cons rfl (.cons rfl (.cons rfl (.cons rfl (.cons rfl (.cons rfl (.cons rfl (.nil)))))))))))))) (by (repeat' constructor)) ?_ ?_
  ·refine G.seq (G.region (G.q (Quiet.move rfl) rfl (G.q (Quiet.move rfl) rfl (G.q (Quiet.int rfl rfl rfl) rfl (G.nil (G.then_n ?_))))))
   refine G.condD rfl (fun h85 => ?_) (fun h85 => ?_)
   ·have hid : i = d := by omega
    obtain ⟨hω0, hk00⟩ := hS.at_lay hid
    subst hω0
    rw [hk00] at hS ⊢
    refine G.seq (G.region (G.q (Quiet.move rfl) rfl (G.q (Quiet.assign rfl) rfl (G.nil (G.then_n (G.seq (G.seq (G.region (G.q (Quiet.move rfl) rfl (G.q (Quiet.move rfl) rfl ?_))))))))))
    refine G.dec (t := 88) rfl (fun h22_88 => ?_) (fun h22_88 => ?_)
    ·refine G.kDT (t := 82) rfl h22_88 (G.kDT (t := 24) rfl h22_88 (G.kDT (t := 86) rfl h22_88 (G.kDT (t := 20) rfl h22_88 (G.kDT (t := 87) rfl h22_88 (G.grun (t := 88) rfl rfl rfl (G.q (Quiet.move rfl) rfl (G.grun (t := 88) rfl rfl rfl (G.q (Quiet.int rfl rfl rfl) rfl (G.q (Quiet.pickT rfl rfl) rfl (G.q (Quiet.move rfl) rfl ?_))))))))))
     refine G.dec (t := 92) rfl (fun h22_92 => ?_) (fun h22_92 => ?_)
     ·refine G.kDT (t := 90) rfl h22_92 (G.kDT (t := 91) rfl h22_92 (G.gskip (t := 92) rfl rfl rfl rfl (G.gskip (t := 92) rfl rfl rfl rfl (G.q (Quiet.pickT rfl rfl) rfl (G.nil (G.then_n (G.condT rfl (G.seq ?_))))))))
      have hK : (effK es d pa k0) = 1 := by unfold effK; rw [if_pos (by rw [← hid]; exact h22_88), if_pos h22_92]
      refine G.region ?_
      refine G.q (Quiet.as (v' := vint (effK es d pa k0)) (by rw [hK]) (Quiet.assign rfl)) rfl ?_
      refine G.nil (G.then_n (G.seq (G.region (G.q (Quiet.move rfl) rfl (G.q (Quiet.not rfl) rfl (G.nil (G.then_n (G.condF rfl (G.skip (G.then_n (G.seq (G.region (G.q (Quiet.move rfl) rfl (G.q (Quiet.move rfl) rfl (G.q (Quiet.fieldAddr rfl fo_43_0) rfl ?_)))))))))))))))
      refine G.q (Quiet.load rfl ag_3 (by (repeat' constructor)) (rfl)) rfl ?_
      refine G.q (Quiet.fieldAddr rfl fo_43_1) rfl ?_
      refine G.q (Quiet.load rfl ag_3 (by (repeat' constructor)) (rfl)) rfl ?_
      refine G.q (Quiet.fieldAddr rfl fo_43_2) rfl ?_
      refine G.q (Quiet.load rfl ag_3 (by (repeat' constructor)) (rfl)) rfl ?_
      refine G.q (Quiet.to (v' := .agg (armC (((effK es d pa k0), (pa, ((statD (tauI es i) pa).cz, ((statD (tauI es i) pa).mz, (statD (tauI es i) pa).pz)))) : Arm)).toArray) (Quiet.build (us := [(0, _), (1, _), (2, _), (3, _), (4, _)]) fl_70 ze_70 rfl rfl (by simp [isCell])) rfl) rfl ?_
      refine G.op (OpSpec.storeA rfl rfl ?c81 sz_70 ?c84 ?c82 ?c83) (by (repeat' constructor)) rfl ?nx85
      case c81 => simp [armC, isCell]
      case c84 => rfl
      case c82 => simp [armC]
      case c83 => exact nfz0 _ _
      rintro v L' rfl
      refine G.nil ?_
      refine G.ptCast (b := b17) (l' := armC (armI es d pa (effK es d pa k0))) (by (repeat' constructor)) (by rw [show (armI es d pa (effK es d pa k0)) = (((effK es d pa k0), (pa, ((statD (tauI es i) pa).cz, ((statD (tauI es i) pa).mz, (statD (tauI es i) pa).pz)))) : Arm) by unfold armI; rw [hid]]; rfl) ?_
      refine G.then_n (G.seq (G.region ?_))
      rcases Decidable.em (isWt (effK es d pa k0) pa) with hwt | hwt
      ·refine G.q (Quiet.move rfl) rfl (G.q (Quiet.move rfl) rfl (G.q (Quiet.move rfl) rfl ?_))
       refine G.op (OpSpec.call Tryz.func34 rfl rfl (vs := [_, _, _, _]) rfl (wadd_spec hm1 [] 1 (effK es d pa k0) pa (by decide) hq)) (by (repeat' constructor)) rfl ?nx88
       rintro v L' ⟨rfl, rfl⟩; rw [addW_one hwt]; dsimp only
       refine G.q (Quiet.as (v' := .bool false) (by rfl) (Quiet.int rfl rfl rfl)) rfl ?_
       refine G.nil (G.then_n (G.condF rfl (G.skip (G.then_n ?_))))
       exact G.meetK ((oneW (effK es d pa k0) pa, (effK es d pa k0), true, (armI es d pa (effK es d pa k0)), true)) (⟨(by have z := hS.lay hid hwt; rw [show decide (thereT (tauI es d) pa) = true from decide_eq_true (by rw [← hid]; exact h22_88)] at z; exact z), (decide_eq_true h22_88).symm⟩) ⟨rfl, rfl, rfl, rfl, rfl, rfl, rfl, rfl, rfl, rfl, rfl, rfl, rfl, rfl, rfl, rfl, trivial⟩ (by (repeat' constructor)) (by ((repeat (apply Have.cons; (repeat (first | exact Pick.here | apply Pick.there)))); apply Have.base; repeat' constructor))
      ·refine G.q (Quiet.move rfl) rfl (G.q (Quiet.move rfl) rfl (G.q (Quiet.move rfl) rfl ?_))
       refine G.op (OpSpec.call Tryz.func34 rfl rfl (vs := [_, _, _, _]) rfl (wadd_spec hm1 [] 1 (effK es d pa k0) pa (by decide) hq)) (by (repeat' constructor)) rfl ?nx93
       rintro v L' ⟨rfl, rfl⟩; rw [addW_err hwt]; dsimp only
       refine G.q (Quiet.as (v' := .bool true) (by rfl) (Quiet.int rfl rfl rfl)) rfl ?_
       refine G.nil (G.then_n (G.condT rfl (G.seq (G.region (G.q (Quiet.move rfl) rfl ?_)))))
       refine G.op (OpSpec.call Tryz.func35 rfl rfl (vs := [_, _]) rfl (wcount_spec hm1 [] 1)) (by (repeat' constructor)) rfl ?nx97
       rintro v L' ⟨rfl, rfl⟩
       refine G.q (Quiet.as (v' := .bool true) (by rfl) (Quiet.int rfl rfl rfl)) rfl ?_
       refine G.q (Quiet.assign rfl) rfl (G.nil (G.then_n (G.ret (G.then_r (G.blk_r (G.then_r (G.then_r (G.blk_r (G.then_r ?_)))))))))
       exact G.done (l := [.tmp 10]) rfl rfl ⟨rfl, rfl⟩ (by (repeat' constructor)) (by (repeat' constructor))
     ·refine G.kDF (t := 90) rfl h22_92 (G.kDF (t := 91) rfl h22_92 (G.grun (t := 92) rfl rfl rfl (G.q (Quiet.move rfl) rfl (G.grun (t := 92) rfl rfl rfl (G.q (Quiet.not rfl) rfl (G.q (Quiet.pickF rfl rfl) rfl (G.nil (G.then_n (G.condF rfl (G.skip (G.then_n (G.seq ?_))))))))))))
      have hK : (effK es d pa k0) = k0 := by unfold effK; rw [if_pos (by rw [← hid]; exact h22_88), if_neg h22_92]
      rw [show vint k0 = vint (effK es d pa k0) by rw [hK]]
      refine G.region (G.q (Quiet.move rfl) rfl (G.q (Quiet.move rfl) rfl (G.q (Quiet.fieldAddr rfl fo_43_0) rfl ?_)))
      refine G.q (Quiet.load rfl ag_3 (by (repeat' constructor)) (rfl)) rfl ?_
      refine G.q (Quiet.fieldAddr rfl fo_43_1) rfl ?_
      refine G.q (Quiet.load rfl ag_3 (by (repeat' constructor)) (rfl)) rfl ?_
      refine G.q (Quiet.fieldAddr rfl fo_43_2) rfl ?_
      refine G.q (Quiet.load rfl ag_3 (by (repeat' constructor)) (rfl)) rfl ?_
      refine G.q (Quiet.to (v' := .agg (armC (((effK es d pa k0), (pa, ((statD (tauI es i) pa).cz, ((statD (tauI es i) pa).mz, (statD (tauI es i) pa).pz)))) : Arm)).toArray) (Quiet.build (us := [(0, _), (1, _), (2, _), (3, _), (4, _)]) fl_70 ze_70 rfl rfl (by simp [isCell])) rfl) rfl ?_
      refine G.op (OpSpec.storeA rfl rfl ?c110 sz_70 ?c113 ?c111 ?c112) (by (repeat' constructor)) rfl ?nx114
      case c110 => simp [armC, isCell]
      case c113 => rfl
      case c111 => simp [armC]
      case c112 => exact nfz0 _ _
      rintro v L' rfl
      refine G.nil ?_
      refine G.ptCast (b := b17) (l' := armC (armI es d pa (effK es d pa k0))) (by (repeat' constructor)) (by rw [show (armI es d pa (effK es d pa k0)) = (((effK es d pa k0), (pa, ((statD (tauI es i) pa).cz, ((statD (tauI es i) pa).mz, (statD (tauI es i) pa).pz)))) : Arm) by unfold armI; rw [hid]]; rfl) ?_
      refine G.then_n (G.seq (G.region ?_))
      rcases Decidable.em (isWt (effK es d pa k0) pa) with hwt | hwt
      ·refine G.q (Quiet.move rfl) rfl (G.q (Quiet.move rfl) rfl (G.q (Quiet.move rfl) rfl ?_))
       refine G.op (OpSpec.call Tryz.func34 rfl rfl (vs := [_, _, _, _]) rfl (wadd_spec hm1 [] 1 (effK es d pa k0) pa (by decide) hq)) (by (repeat' constructor)) rfl ?nx118
       rintro v L' ⟨rfl, rfl⟩; rw [addW_one hwt]; dsimp only
       refine G.q (Quiet.as (v' := .bool false) (by rfl) (Quiet.int rfl rfl rfl)) rfl ?_
       refine G.nil (G.then_n (G.condF rfl (G.skip (G.then_n ?_))))
       exact G.meetK ((oneW (effK es d pa k0) pa, (effK es d pa k0), true, (armI es d pa (effK es d pa k0)), true)) (⟨(by have z := hS.lay hid hwt; rw [show decide (thereT (tauI es d) pa) = true from decide_eq_true (by rw [← hid]; exact h22_88)] at z; exact z), (decide_eq_true h22_88).symm⟩) ⟨rfl, rfl, rfl, rfl, rfl, rfl, rfl, rfl, rfl, rfl, rfl, rfl, rfl, rfl, rfl, rfl, trivial⟩ (by (repeat' constructor)) (by ((repeat (apply Have.cons; (repeat (first | exact Pick.here | apply Pick.there)))); apply Have.base; repeat' constructor))
      ·refine G.q (Quiet.move rfl) rfl (G.q (Quiet.move rfl) rfl (G.q (Quiet.move rfl) rfl ?_))
       refine G.op (OpSpec.call Tryz.func34 rfl rfl (vs := [_, _, _, _]) rfl (wadd_spec hm1 [] 1 (effK es d pa k0) pa (by decide) hq)) (by (repeat' constructor)) rfl ?nx124
       rintro v L' ⟨rfl, rfl⟩; rw [addW_err hwt]; dsimp only
       refine G.q (Quiet.as (v' := .bool true) (by rfl) (Quiet.int rfl rfl rfl)) rfl ?_
       refine G.nil (G.then_n (G.condT rfl (G.seq (G.region (G.q (Quiet.move rfl) rfl ?_)))))
       refine G.op (OpSpec.call Tryz.func35 rfl rfl (vs := [_, _]) rfl (wcount_spec hm1 [] 1)) (by (repeat' constructor)) rfl ?nx128
       rintro v L' ⟨rfl, rfl⟩
       refine G.q (Quiet.as (v' := .bool true) (by rfl) (Quiet.int rfl rfl rfl)) rfl ?_
       refine G.q (Quiet.assign rfl) rfl (G.nil (G.then_n (G.ret (G.then_r (G.blk_r (G.then_r (G.then_r (G.blk_r (G.then_r ?_)))))))))
       exact G.done (l := [.tmp 10]) rfl rfl ⟨rfl, rfl⟩ (by (repeat' constructor)) (by (repeat' constructor))
    ·refine G.kDF (t := 82) rfl h22_88 (G.kDF (t := 24) rfl h22_88 (G.kDF (t := 86) rfl h22_88 (G.kDF (t := 20) rfl h22_88 (G.kDF (t := 87) rfl h22_88 (G.gskip (t := 88) rfl rfl rfl rfl (G.gskip (t := 88) rfl rfl rfl rfl (G.q (Quiet.pickF rfl rfl) rfl (G.q (Quiet.move rfl) rfl (G.grun (t := 92) rfl rfl rfl (G.q (Quiet.move rfl) rfl (G.grun (t := 92) rfl rfl rfl (G.q (Quiet.not rfl) rfl (G.q (Quiet.pickF rfl rfl) rfl (G.nil (G.then_n (G.condT rfl (G.seq (G.region (G.q (Quiet.assign rfl) rfl (G.nil (G.then_n (G.seq (G.region (G.q (Quiet.move rfl) rfl (G.q (Quiet.not rfl) rfl (G.nil (G.then_n (G.condT rfl ?_))))))))))))))))))))))))))))
     have hK : (effK es d pa k0) = 2 := by unfold effK; rw [if_neg (by rw [← hid]; exact h22_88)]
     refine G.region ?_
     refine G.q (Quiet.as (v' := vint (effK es d pa k0)) (by rw [hK]) (Quiet.assign rfl)) rfl ?_
     refine G.nil (G.then_n (G.seq (G.region (G.q (Quiet.move rfl) rfl (G.q (Quiet.move rfl) rfl (G.q (Quiet.fieldAddr rfl fo_43_0) rfl ?_))))))
     refine G.q (Quiet.load rfl ag_3 (by (repeat' constructor)) (rfl)) rfl ?_
     refine G.q (Quiet.fieldAddr rfl fo_43_1) rfl ?_
     refine G.q (Quiet.load rfl ag_3 (by (repeat' constructor)) (rfl)) rfl ?_
     refine G.q (Quiet.fieldAddr rfl fo_43_2) rfl ?_
     refine G.q (Quiet.load rfl ag_3 (by (repeat' constructor)) (rfl)) rfl ?_
     refine G.q (Quiet.to (v' := .agg (armC (((effK es d pa k0), (pa, ((statD (tauI es i) pa).cz, ((statD (tauI es i) pa).mz, (statD (tauI es i) pa).pz)))) : Arm)).toArray) (Quiet.build (us := [(0, _), (1, _), (2, _), (3, _), (4, _)]) fl_70 ze_70 rfl rfl (by simp [isCell])) rfl) rfl ?_
     refine G.op (OpSpec.storeA rfl rfl ?c144 sz_70 ?c147 ?c145 ?c146) (by (repeat' constructor)) rfl ?nx148
     case c144 => simp [armC, isCell]
     case c147 => rfl
     case c145 => simp [armC]
     case c146 => exact nfz0 _ _
     rintro v L' rfl
     refine G.nil ?_
     refine G.ptCast (b := b17) (l' := armC (armI es d pa (effK es d pa k0))) (by (repeat' constructor)) (by rw [show (armI es d pa (effK es d pa k0)) = (((effK es d pa k0), (pa, ((statD (tauI es i) pa).cz, ((statD (tauI es i) pa).mz, (statD (tauI es i) pa).pz)))) : Arm) by unfold armI; rw [hid]]; rfl) ?_
     refine G.then_n (G.seq (G.region ?_))
     rcases Decidable.em (isWt (effK es d pa k0) pa) with hwt | hwt
     ·refine G.q (Quiet.move rfl) rfl (G.q (Quiet.move rfl) rfl (G.q (Quiet.move rfl) rfl ?_))
      refine G.op (OpSpec.call Tryz.func34 rfl rfl (vs := [_, _, _, _]) rfl (wadd_spec hm1 [] 1 (effK es d pa k0) pa (by decide) hq)) (by (repeat' constructor)) rfl ?nx151
      rintro v L' ⟨rfl, rfl⟩; rw [addW_one hwt]; dsimp only
      refine G.q (Quiet.as (v' := .bool false) (by rfl) (Quiet.int rfl rfl rfl)) rfl ?_
      refine G.nil (G.then_n (G.condF rfl (G.skip (G.then_n ?_))))
      exact G.meetK ((oneW (effK es d pa k0) pa, (effK es d pa k0), false, (armI es d pa (effK es d pa k0)), false)) (⟨(by have z := hS.lay hid hwt; rw [show decide (thereT (tauI es d) pa) = false from decide_eq_false (by rw [← hid]; exact h22_88)] at z; exact z), (decide_eq_false h22_88).symm⟩) ⟨rfl, rfl, rfl, rfl, rfl, rfl, rfl, rfl, rfl, rfl, rfl, rfl, rfl, rfl, rfl, rfl, trivial⟩ (by (repeat' constructor)) (by ((repeat (apply Have.cons; (repeat (first | exact Pick.here | apply Pick.there)))); apply Have.base; repeat' constructor))
     ·refine G.q (Quiet.move rfl) rfl (G.q (Quiet.move rfl) rfl (G.q (Quiet.move rfl) rfl ?_))
      refine G.op (OpSpec.call Tryz.func34 rfl rfl (vs := [_, _, _, _]) rfl (wadd_spec hm1 [] 1 (effK es d pa k0) pa (by decide) hq)) (by (repeat' constructor)) rfl ?nx156
      rintro v L' ⟨rfl, rfl⟩; rw [addW_err hwt]; dsimp only
      refine G.q (Quiet.as (v' := .bool true) (by rfl) (Quiet.int rfl rfl rfl)) rfl ?_
      refine G.nil (G.then_n (G.condT rfl (G.seq (G.region (G.q (Quiet.move rfl) rfl ?_)))))
      refine G.op (OpSpec.call Tryz.func35 rfl rfl (vs := [_, _]) rfl (wcount_spec hm1 [] 1)) (by (repeat' constructor)) rfl ?nx160
      rintro v L' ⟨rfl, rfl⟩
      refine G.q (Quiet.as (v' := .bool true) (by rfl) (Quiet.int rfl rfl rfl)) rfl ?_
      refine G.q (Quiet.assign rfl) rfl (G.nil (G.then_n (G.ret (G.then_r (G.blk_r (G.then_r (G.then_r (G.blk_r (G.then_r ?_)))))))))
      exact G.done (l := [.tmp 10]) rfl rfl ⟨rfl, rfl⟩ (by (repeat' constructor)) (by (repeat' constructor))
   ·refine G.skip (G.then_n ?_)
    exact G.meetK ((ω, k, th, a, decide (thereT (tauI es i) pa))) (⟨hS.skip (by omega), rfl⟩) ⟨rfl, rfl, rfl, rfl, rfl, rfl, rfl, rfl, rfl, rfl, rfl, rfl, rfl, rfl, rfl, rfl, trivial⟩ (by (repeat' constructor)) (by ((repeat (apply Have.cons; (repeat (first | exact Pick.here | apply Pick.there)))); apply Have.base; repeat' constructor))
  ·rintro ⟨ω1, k1, th1, a1, is1⟩ ⟨hS1, his⟩
   dsimp only
   dsimp only at hS1 his
   refine G.seq ?_
   refine G.joinK (ι := (List Wt) × Bool) (fun q E => (19, .bool q.2) :: E) (fun q => [tbR aw q.1]) (fun q => MvS es d m pa k0 (decide (d ≤ i)) (decide (m ≤ i)) i ω1 q.1 got q.2 told th1 k1 a1) (pre := [tbR aw ω2]) (ts := [1, 2, 3, 4, 12, 14, 15, 16, 17, 18, 20, 21, 22, 23, 24]) (.cons rfl (.cons rfl (.cons rfl (.cons rfl (.cons rfl (.cons rfl (.cons rfl (.cons rfl (.cons rfl (.cons rfl (.cons rfl (.cons rfl (.cons rfl (.cons rfl (.cons rfl (.nil)))))))))))))))) (by (repeat' constructor)) ?_ ?_
   ·refine G.seq (G.region (G.q (Quiet.move rfl) rfl (G.q (Quiet.move rfl) rfl (G.q (Quiet.int rfl rfl rfl) rfl (G.nil (G.then_n ?_))))))
    refine G.condD rfl (fun h117 => ?_) (fun h117 => ?_)
    ·have him : i = m := by omega
     obtain ⟨ha1, hwt1, hgot1, hth1⟩ := hS1.on_at (by omega)
     have hω20 := hS1.away_nil him
     subst hω20
     subst ha1
     refine G.seq (G.region ?_)
     rcases Bool.eq_false_or_eq_true (sinceZ (tauI es m) (armI es d pa (effK es d pa k0))).2 with hT | hT
     ·refine G.q (Quiet.move rfl) rfl (G.q (Quiet.move rfl) rfl ?_)
      refine G.q (Quiet.loadAs (vs := armC (armI es d pa (effK es d pa k0))) rfl ag_70 (by (repeat' constructor)) (by simp [armC]) rfl) rfl ?_
      refine G.op (OpSpec.buildSlice (vs := [_]) el_82 ze_70 rfl rfl rfl rfl (by first | (simp [Value.cells]; done) | (intro v hv; simp only [List.mem_cons, List.not_mem_nil, or_false] at hv; (repeat (first | (subst hv; rfl) | (rcases hv with hv | hv; (subst hv; rfl)))))) (by decide)) (by (repeat' constructor)) rfl ?nx169
      rintro v L' ⟨bl, rfl, rfl⟩
      refine G.slMakeN 5 1 (b := bl) (xs := ([(armI es d pa (effK es d pa k0))] : List Arm).flatMap armC) (by (repeat' constructor)) (by simp [armC, Value.cells]) rfl ?_
      refine G.op (OpSpec.call Tryz.func36 rfl rfl (vs := [_, _, _, _]) rfl (warm_spec aw t [] (tauI es i) 1 _ [(armI es d pa (effK es d pa k0))] (slR 70 5 (.slice (some ⟨bl, 0, none⟩) 1 1) 1 (([(armI es d pa (effK es d pa k0))] : List Arm).flatMap armC)) ⟨fun h hp => slR_rd hp, by simp, fun a ha => by rw [List.mem_singleton] at ha; subst ha; exact hq⟩ 60 hok2 (by decide) (by decide) (by decide))) (by (repeat' constructor)) rfl ?nx171
      rintro v L' ⟨ae, ce, rfl, rfl⟩; rw [armL_one (a := (armI es d pa (effK es d pa k0))) hwt1, if_pos (by rw [him]; exact hT)]; dsimp only
      refine G.q (Quiet.assign rfl) rfl (G.nil (G.then_n (G.seq ?_)))
      rw [show ([(sinceZ (tauI es i) (armI es d pa (effK es d pa k0))).1] : List Ev).length = 1 from rfl]
      refine G.region (G.q (Quiet.move rfl) rfl (G.q (Quiet.slen rfl Tryz.underlying30 rfl) rfl ?_))
      refine G.q (Quiet.as (v' := .bool true) (by rfl) (Quiet.int rfl rfl rfl)) rfl ?_
      refine G.q (Quiet.assign rfl) rfl (G.nil (G.then_n (G.seq (G.seq ?_))))
      refine G.slShape (T := 75) (sz := 3) (v := .slice ae 1 ce) (xs := ([(sinceZ (tauI es i) (armI es d pa (effK es d pa k0))).1] : List Ev).flatMap evC) (by (repeat' constructor)) (by decide) fun be be' e0 mbe _ => ?_
      simp only [Value.slice.injEq, true_and] at e0
      obtain ⟨rfl, rfl⟩ := e0
      refine G.region (G.q (Quiet.move rfl) rfl (G.q (Quiet.slen rfl Tryz.underlying30 rfl) rfl ?_))
      refine G.q (Quiet.as (v' := .bool false) (by rfl) (Quiet.int rfl rfl rfl)) rfl ?_
      refine G.q (Quiet.move rfl) rfl (G.grun (t := 129) rfl rfl rfl (G.q (Quiet.move rfl) rfl (G.grun (t := 129) rfl rfl rfl (G.q (Quiet.move rfl) rfl (G.grun (t := 129) rfl rfl rfl ?_)))))
      refine G.op (OpSpec.call Tryz.func35 rfl rfl (vs := [_, _]) rfl (wcount_spec aw [] 1)) (by (repeat' constructor)) rfl ?nx178
      rintro v L' ⟨rfl, rfl⟩
      refine G.grun (t := 129) rfl rfl rfl ?_
      refine G.q (Quiet.as (v' := .bool false) (by rfl) (Quiet.int rfl rfl rfl)) rfl ?_
      refine G.grun (t := 129) rfl rfl rfl ?_
      refine G.q (Quiet.as (v' := .bool false) (by rfl) (Quiet.booleq rfl rfl Tryz.underlying4)) rfl ?_
      refine G.q (Quiet.pickF rfl rfl) rfl (G.q (Quiet.move rfl) rfl (G.grun (t := 136) rfl rfl rfl (G.q (Quiet.move rfl) rfl (G.grun (t := 136) rfl rfl rfl (G.q (Quiet.move rfl) rfl (G.grun (t := 138) rfl rfl rfl (G.q (Quiet.move rfl) rfl (G.grun (t := 138) rfl rfl rfl ?_))))))))
      refine G.q (Quiet.indexAddr rfl rfl el_30 (by omega)) rfl ?_
      refine G.grun (t := 138) rfl rfl rfl (G.q (Quiet.fieldAddr rfl fo_75_1) rfl (G.grun (t := 138) rfl rfl rfl ?_))
      refine G.q (Quiet.to (v' := vstr pa) (Quiet.loadRd (sz := 3) (j := 0 * 3 + 1) (p := slR 75 3 _ 1 _) rfl ag_9 (by (repeat' constructor)) (fun h hp => slR_rd hp) (by decide) rfl) (by rw [since_path]; rfl)) rfl ?_
      refine G.grun (t := 138) rfl rfl rfl (G.q (Quiet.move rfl) rfl (G.grun (t := 138) rfl rfl rfl ?_))
      refine G.q (Quiet.as (v' := .bool false) (by simp) (Quiet.strne rfl rfl)) rfl ?_
      refine G.grun (t := 136) rfl rfl rfl (G.q (Quiet.pickT rfl rfl) rfl (G.q (Quiet.pickF rfl rfl) rfl (G.nil (G.then_n (G.condF rfl (G.skip (G.then_n (G.seq (G.region ?_)))))))))
      rcases arm_law hh (by decide) hkr hdm hml with hlw | ⟨hlw1, hlw2, hlw3⟩
      ·rw [him, ← hlw, hT] at hgot1
       subst hgot1
       refine G.q (Quiet.move rfl) rfl (G.q (Quiet.move rfl) rfl ?_)
       refine G.q (Quiet.as (v' := .bool false) (by rfl) (Quiet.boolne rfl rfl Tryz.underlying4)) rfl ?_
       refine G.q (Quiet.move rfl) rfl (G.gskip (t := 150) rfl rfl rfl rfl (G.gskip (t := 150) rfl rfl rfl rfl (G.gskipU (t := 152) rfl rfl rfl (G.gskipU (t := 152) rfl rfl rfl (G.gskip (t := 150) rfl rfl rfl rfl (G.gskip (t := 150) rfl rfl rfl rfl (G.gskipU (t := 156) rfl rfl rfl (G.gskipU (t := 156) rfl rfl rfl (G.gskip (t := 150) rfl rfl rfl rfl (G.gskip (t := 150) rfl rfl rfl rfl (G.q (Quiet.pickF rfl rfl) rfl (G.nil (G.then_n (G.condF rfl (G.skip (G.then_n ?_))))))))))))))))
       exact G.meetK (([], true)) ((by have z := hS1.arm him; rw [hT, if_pos rfl] at z; exact z)) ⟨rfl, rfl, rfl, rfl, rfl, rfl, rfl, rfl, rfl, rfl, rfl, rfl, rfl, rfl, rfl, rfl, trivial⟩ (by (repeat' constructor)) (by ((repeat (apply Have.cons; (repeat (first | exact Pick.here | apply Pick.there)))); apply Have.base; repeat' constructor))
      ·rw [him, hlw1] at hgot1
       rw [decide_eq_false hlw2] at hth1
       subst hgot1
       subst hth1
       rw [← him] at hlw3
       rw [decide_eq_false hlw3] at his
       subst his
       refine G.q (Quiet.move rfl) rfl (G.q (Quiet.move rfl) rfl ?_)
       refine G.q (Quiet.as (v' := .bool false) (by rfl) (Quiet.boolne rfl rfl Tryz.underlying4)) rfl ?_
       refine G.q (Quiet.move rfl) rfl (G.gskip (t := 150) rfl rfl rfl rfl (G.gskip (t := 150) rfl rfl rfl rfl (G.gskipU (t := 152) rfl rfl rfl (G.gskipU (t := 152) rfl rfl rfl (G.gskip (t := 150) rfl rfl rfl rfl (G.gskip (t := 150) rfl rfl rfl rfl (G.gskipU (t := 156) rfl rfl rfl (G.gskipU (t := 156) rfl rfl rfl (G.gskip (t := 150) rfl rfl rfl rfl (G.gskip (t := 150) rfl rfl rfl rfl (G.q (Quiet.pickF rfl rfl) rfl (G.nil (G.then_n (G.condF rfl (G.skip (G.then_n ?_))))))))))))))))
       exact G.meetK (([], true)) ((by have z := hS1.arm him; rw [hT, if_pos rfl] at z; exact z)) ⟨rfl, rfl, rfl, rfl, rfl, rfl, rfl, rfl, rfl, rfl, rfl, rfl, rfl, rfl, rfl, rfl, trivial⟩ (by (repeat' constructor)) (by ((repeat (apply Have.cons; (repeat (first | exact Pick.here | apply Pick.there)))); apply Have.base; repeat' constructor))
     ·refine G.q (Quiet.move rfl) rfl (G.q (Quiet.move rfl) rfl ?_)
      refine G.q (Quiet.loadAs (vs := armC (armI es d pa (effK es d pa k0))) rfl ag_70 (by (repeat' constructor)) (by simp [armC]) rfl) rfl ?_
      refine G.op (OpSpec.buildSlice (vs := [_]) el_82 ze_70 rfl rfl rfl rfl (by first | (simp [Value.cells]; done) | (intro v hv; simp only [List.mem_cons, List.not_mem_nil, or_false] at hv; (repeat (first | (subst hv; rfl) | (rcases hv with hv | hv; (subst hv; rfl)))))) (by decide)) (by (repeat' constructor)) rfl ?nx196
      rintro v L' ⟨bl, rfl, rfl⟩
      refine G.slMakeN 5 1 (b := bl) (xs := ([(armI es d pa (effK es d pa k0))] : List Arm).flatMap armC) (by (repeat' constructor)) (by simp [armC, Value.cells]) rfl ?_
      refine G.op (OpSpec.call Tryz.func36 rfl rfl (vs := [_, _, _, _]) rfl (warm_spec aw t [] (tauI es i) 1 _ [(armI es d pa (effK es d pa k0))] (slR 70 5 (.slice (some ⟨bl, 0, none⟩) 1 1) 1 (([(armI es d pa (effK es d pa k0))] : List Arm).flatMap armC)) ⟨fun h hp => slR_rd hp, by simp, fun a ha => by rw [List.mem_singleton] at ha; subst ha; exact hq⟩ 60 hok2 (by decide) (by decide) (by decide))) (by (repeat' constructor)) rfl ?nx198
      rintro v L' ⟨ae, ce, rfl, rfl⟩; rw [armL_one (a := (armI es d pa (effK es d pa k0))) hwt1, if_neg (by rw [him, hT]; decide)]; dsimp only
      refine G.q (Quiet.assign rfl) rfl (G.nil (G.then_n (G.seq (G.region (G.q (Quiet.move rfl) rfl (G.q (Quiet.slen rfl Tryz.underlying30 rfl) rfl ?_))))))
      refine G.q (Quiet.as (v' := .bool false) (by rfl) (Quiet.int rfl rfl rfl)) rfl ?_
      refine G.q (Quiet.assign rfl) rfl (G.nil (G.then_n (G.seq (G.seq (G.region (G.q (Quiet.move rfl) rfl (G.q (Quiet.slen rfl Tryz.underlying30 rfl) rfl ?_)))))))
      refine G.q (Quiet.as (v' := .bool false) (by rfl) (Quiet.int rfl rfl rfl)) rfl ?_
      refine G.q (Quiet.move rfl) rfl (G.grun (t := 129) rfl rfl rfl (G.q (Quiet.move rfl) rfl (G.grun (t := 129) rfl rfl rfl (G.q (Quiet.move rfl) rfl (G.grun (t := 129) rfl rfl rfl ?_)))))
      refine G.op (OpSpec.call Tryz.func35 rfl rfl (vs := [_, _]) rfl (wcount_spec aw (oneW (effK es d pa k0) pa) 1)) (by (repeat' constructor)) rfl ?nx205
      rintro v L' ⟨rfl, rfl⟩
      refine G.grun (t := 129) rfl rfl rfl ?_
      refine G.q (Quiet.as (v' := .bool true) (by rfl) (Quiet.int rfl rfl rfl)) rfl ?_
      refine G.grun (t := 129) rfl rfl rfl ?_
      refine G.q (Quiet.as (v' := .bool false) (by rfl) (Quiet.booleq rfl rfl Tryz.underlying4)) rfl ?_
      refine G.q (Quiet.pickF rfl rfl) rfl (G.q (Quiet.move rfl) rfl (G.grun (t := 136) rfl rfl rfl (G.q (Quiet.move rfl) rfl (G.grun (t := 136) rfl rfl rfl (G.q (Quiet.move rfl) rfl (G.gskip (t := 138) rfl rfl rfl rfl (G.gskip (t := 138) rfl rfl rfl rfl (G.gskip (t := 138) rfl rfl rfl rfl (G.gskip (t := 138) rfl rfl rfl rfl (G.gskip (t := 138) rfl rfl rfl rfl (G.gskip (t := 138) rfl rfl rfl rfl (G.grun (t := 136) rfl rfl rfl (G.q (Quiet.pickF rfl rfl) rfl (G.q (Quiet.pickF rfl rfl) rfl (G.nil (G.then_n (G.condF rfl (G.skip (G.then_n (G.seq (G.region ?_)))))))))))))))))))))
      rcases arm_law hh (by decide) hkr hdm hml with hlw | ⟨hlw1, hlw2, hlw3⟩
      ·rw [him, ← hlw, hT] at hgot1
       subst hgot1
       refine G.q (Quiet.move rfl) rfl (G.q (Quiet.move rfl) rfl ?_)
       refine G.q (Quiet.as (v' := .bool false) (by rfl) (Quiet.boolne rfl rfl Tryz.underlying4)) rfl ?_
       refine G.q (Quiet.move rfl) rfl (G.gskip (t := 150) rfl rfl rfl rfl (G.gskip (t := 150) rfl rfl rfl rfl (G.gskipU (t := 152) rfl rfl rfl (G.gskipU (t := 152) rfl rfl rfl (G.gskip (t := 150) rfl rfl rfl rfl (G.gskip (t := 150) rfl rfl rfl rfl (G.gskipU (t := 156) rfl rfl rfl (G.gskipU (t := 156) rfl rfl rfl (G.gskip (t := 150) rfl rfl rfl rfl (G.gskip (t := 150) rfl rfl rfl rfl (G.q (Quiet.pickF rfl rfl) rfl (G.nil (G.then_n (G.condF rfl (G.skip (G.then_n ?_))))))))))))))))
       exact G.meetK ((oneW (effK es d pa k0) pa, false)) ((by have z := hS1.arm him; rw [hT, if_neg (by decide)] at z; exact z)) ⟨rfl, rfl, rfl, rfl, rfl, rfl, rfl, rfl, rfl, rfl, rfl, rfl, rfl, rfl, rfl, rfl, trivial⟩ (by (repeat' constructor)) (by ((repeat (apply Have.cons; (repeat (first | exact Pick.here | apply Pick.there)))); apply Have.base; repeat' constructor))
      ·rw [him, hlw1] at hgot1
       rw [decide_eq_false hlw2] at hth1
       subst hgot1
       subst hth1
       rw [← him] at hlw3
       rw [decide_eq_false hlw3] at his
       subst his
       refine G.q (Quiet.move rfl) rfl (G.q (Quiet.move rfl) rfl ?_)
       refine G.q (Quiet.as (v' := .bool true) (by rfl) (Quiet.boolne rfl rfl Tryz.underlying4)) rfl ?_
       refine G.q (Quiet.move rfl) rfl (G.grun (t := 150) rfl rfl rfl (G.q (Quiet.move rfl) rfl (G.grun (t := 150) rfl rfl rfl (G.q (Quiet.move rfl) rfl (G.grun (t := 152) rfl rfl rfl (G.q (Quiet.move rfl) rfl (G.grun (t := 152) rfl rfl rfl ?_)))))))
       refine G.q (Quiet.as (v' := .bool true) (by rfl) (Quiet.not rfl)) rfl ?_
       refine G.grun (t := 150) rfl rfl rfl (G.q (Quiet.pickT rfl rfl) rfl (G.grun (t := 150) rfl rfl rfl (G.q (Quiet.move rfl) rfl (G.grun (t := 156) rfl rfl rfl (G.q (Quiet.move rfl) rfl (G.grun (t := 156) rfl rfl rfl ?_))))))
       refine G.q (Quiet.as (v' := .bool true) (by rfl) (Quiet.not rfl)) rfl ?_
       refine G.grun (t := 150) rfl rfl rfl (G.q (Quiet.pickT rfl rfl) rfl (G.grun (t := 150) rfl rfl rfl (G.q (Quiet.not rfl) rfl (G.q (Quiet.pickT rfl rfl) rfl (G.nil (G.then_n (G.condF rfl (G.skip (G.then_n ?_)))))))))
       exact G.meetK ((oneW (effK es d pa k0) pa, false)) ((by have z := hS1.arm him; rw [hT, if_neg (by decide)] at z; exact z)) ⟨rfl, rfl, rfl, rfl, rfl, rfl, rfl, rfl, rfl, rfl, rfl, rfl, rfl, rfl, rfl, rfl, trivial⟩ (by (repeat' constructor)) (by ((repeat (apply Have.cons; (repeat (first | exact Pick.here | apply Pick.there)))); apply Have.base; repeat' constructor))
    ·refine G.skip (G.then_n ?_)
     exact G.meetK ((ω2, thn)) (hS1.skip2 (by omega)) ⟨rfl, rfl, rfl, rfl, rfl, rfl, rfl, rfl, rfl, rfl, rfl, rfl, rfl, rfl, rfl, rfl, trivial⟩ (by (repeat' constructor)) (by ((repeat (apply Have.cons; (repeat (first | exact Pick.here | apply Pick.there)))); apply Have.base; repeat' constructor))
   ·rintro ⟨ω3, thn1⟩ hS2
    dsimp only
    dsimp only at hS2
    refine G.seq (G.seq (G.region (G.q (Quiet.move rfl) rfl (G.q (Quiet.move rfl) rfl (G.q (Quiet.slen rfl Tryz.underlying24 rfl) rfl (G.q (Quiet.int rfl rfl rfl) rfl (G.nil (G.then_n ?_))))))))
    refine G.condD rfl (fun h165 => ?_) (fun h165 => ?_)
    ·refine G.exit (G.then_e (G.blk_o rfl (G.then_e (G.then_e (G.blk_e (G.then_n (G.seq (G.region (G.q (Quiet.assign rfl) rfl (G.nil (G.then_n (G.ret ?_))))))))))))
     exact G.done (l := [.tmp 10]) rfl rfl ⟨rfl, rfl⟩ (by (repeat' constructor)) (by (repeat' constructor))
    ·have hi2 : i < es.length := by omega
     refine G.slShape (T := 39) (sz := 11) (v := .slice au es.length cu) (xs := es.flatMap enC) (by (repeat' constructor)) (by omega) fun be be' e0 mbe _ => ?_
     simp only [Value.slice.injEq, true_and] at e0
     obtain ⟨rfl, rfl⟩ := e0
     refine G.skip (G.then_n (G.seq (G.region (G.q (Quiet.move rfl) rfl (G.q (Quiet.move rfl) rfl (G.q (Quiet.move rfl) rfl ?_))))))
     refine G.q (Quiet.indexAddr rfl rfl el_24 (by omega)) rfl ?_
     refine G.q (Quiet.loadRdA (sz := 11) (j := i * 11) (k := 11) (p := slR 39 11 _ es.length (es.flatMap enC)) (vs := enC es[i]) rfl ag_39 (by (repeat' constructor)) (fun h hp => slR_rd hp) (by simp) (by omega) (by omega) (flatMap_at (f := enC) (sz := 11) (fun _ _ => rfl) (by omega))) rfl ?_
     refine G.op (OpSpec.call Tryz.func14 rfl rfl (vs := [_, _]) rfl (trapply_spec t (tauI es i) es[i].zx es[i].ses es[i].xid es[i].x es[i].subs (ensA es) (hh.tx i hi2) 60 hok2 (by have := hh.few hi2; omega))) (by (repeat' constructor)) rfl ?nx231
     rintro v L' ⟨ue, ee, rfl, he, ⟨a26, c26, hue⟩, rfl⟩; rw [show (applyZ (tauI es i) es[i].zx es[i].x es[i].subs).2.1 = evsI es i by unfold evsI; rw [getD_in hi2]] at hue ⊢; subst hue
     refine G.q (Quiet.move rfl) rfl (G.q (Quiet.extract rfl rfl) rfl (G.q (Quiet.extract rfl rfl) rfl (G.q (Quiet.assign rfl) rfl (G.q (Quiet.assign rfl) rfl (G.nil ?_)))))
     refine G.trCast (t := t) (τ' := (tauI es (i + 1))) (by (repeat' constructor)) (by unfold tauI; rw [appL_step _ hi2]; rfl) ?_
     obtain ⟨hf1, hf3⟩ := hS2.few
     have hel : (evsI es i).length ≤ 1048576 := by have h1 := apE_len (tauI es i) es[i].zx es[i].x es[i].subs; rw [show (applyZ (tauI es i) es[i].zx es[i].x es[i].subs).2.1 = evsI es i by unfold evsI; rw [getD_in hi2]] at h1; have := hh.few hi2; omega
     obtain ⟨hka, hkb, hkc⟩ := hS2.ask hdm
     refine G.then_n (G.seq (G.region (G.q (Quiet.move rfl) rfl (G.q (Quiet.move rfl) rfl ?_))))
     refine G.op (OpSpec.call Tryz.func37 rfl rfl (vs := [_, _]) rfl (wfire_spec hm1 ω1 _ (evsI es i) (slR 75 3 (.slice a26 (evsI es i).length c26) (evsI es i).length ((evsI es i).flatMap evC)) (fun h hp => slR_rd hp) (by omega) hel)) (by (repeat' constructor)) rfl ?nx236
     rintro v L' ⟨a38, c38, rfl, rfl⟩
     refine G.q (Quiet.assign rfl) rfl (G.nil (G.then_n (G.seq (G.region (G.q (Quiet.move rfl) rfl (G.q (Quiet.move rfl) rfl ?_))))))
     refine G.op (OpSpec.call Tryz.func37 rfl rfl (vs := [_, _]) rfl (wfire_spec aw ω3 _ (evsI es i) (slR 75 3 (.slice a26 (evsI es i).length c26) (evsI es i).length ((evsI es i).flatMap evC)) (fun h hp => slR_rd hp) (by omega) hel)) (by (repeat' constructor)) rfl ?nx239
     rintro v L' ⟨a39, c39, rfl, rfl⟩
     refine G.q (Quiet.assign rfl) rfl (G.nil (G.then_n (G.seq (G.seq (G.region ?_)))))
     rcases thn1 with _ | _
     ·refine G.q (Quiet.move rfl) rfl ?_
      rcases got with _ | _
      ·refine G.q (Quiet.move rfl) rfl (G.q (Quiet.int rfl rfl rfl) rfl (G.q (Quiet.move rfl) rfl ?_))
       refine G.dec (t := 184) rfl (fun h40_184 => ?_) (fun h40_184 => ?_)
       ·refine G.kDT (t := 183) rfl h40_184 (G.grun (t := 184) rfl rfl rfl (G.q (Quiet.move rfl) rfl (G.grun (t := 184) rfl rfl rfl (G.q (Quiet.not rfl) rfl (G.q (Quiet.pickT rfl rfl) rfl (G.q (Quiet.move rfl) rfl (G.grun (t := 188) rfl rfl rfl (G.q (Quiet.move rfl) rfl (G.grun (t := 188) rfl rfl rfl (G.q (Quiet.not rfl) rfl (G.q (Quiet.pickT rfl rfl) rfl (G.q (Quiet.move rfl) rfl (G.grun (t := 192) rfl rfl rfl (G.q (Quiet.move rfl) rfl (G.grun (t := 192) rfl rfl rfl (G.q (Quiet.slen rfl Tryz.underlying76 rfl) rfl (G.grun (t := 192) rfl rfl rfl (G.q (Quiet.move rfl) rfl (G.grun (t := 192) rfl rfl rfl (G.q (Quiet.slen rfl Tryz.underlying76 rfl) rfl (G.grun (t := 192) rfl rfl rfl ?_)))))))))))))))))))))
        refine G.q (Quiet.as (v' := .bool false) (by rw [hka (by omega) rfl rfl]; simp) (Quiet.int rfl rfl rfl)) rfl ?_
        refine G.q (Quiet.pickT rfl rfl) rfl (G.q (Quiet.move rfl) rfl (G.grun (t := 199) rfl rfl rfl (G.q (Quiet.move rfl) rfl (G.grun (t := 199) rfl rfl rfl (G.q (Quiet.move rfl) rfl (G.grun (t := 199) rfl rfl rfl ?_))))))
        refine G.q (Quiet.as (v' := .bool false) (by simp; omega) (Quiet.int rfl rfl rfl)) rfl ?_
        refine G.grun (t := 199) rfl rfl rfl (G.q (Quiet.move rfl) rfl (G.gskip (t := 203) rfl rfl rfl rfl (G.gskip (t := 203) rfl rfl rfl rfl (G.gskip (t := 203) rfl rfl rfl rfl (G.grun (t := 199) rfl rfl rfl (G.q (Quiet.pickF rfl rfl) rfl (G.q (Quiet.pickF rfl rfl) rfl (G.nil (G.then_n (G.condF rfl (G.skip (G.then_n (G.seq (G.region (G.q (Quiet.move rfl) rfl (G.q (Quiet.move rfl) rfl (G.grun (t := 210) rfl rfl rfl (G.q (Quiet.move rfl) rfl (G.grun (t := 210) rfl rfl rfl (G.q (Quiet.slen rfl Tryz.underlying76 rfl) rfl (G.grun (t := 210) rfl rfl rfl (G.q (Quiet.int rfl rfl rfl) rfl (G.q (Quiet.pickF rfl rfl) rfl (G.q (Quiet.assign rfl) rfl (G.nil (G.then_n (G.seq (G.region (G.q (Quiet.move rfl) rfl (G.q (Quiet.slen rfl Tryz.underlying76 rfl) rfl (G.q (Quiet.int rfl rfl rfl) rfl (G.nil (G.then_n ?_)))))))))))))))))))))))))))))))))
        refine G.condD rfl (fun h217 => ?_) (fun h217 => ?_)
        ·refine G.seq (G.seq ?_)
         have htl := (hkc (by omega)).2
         subst htl
         refine G.region (G.q (Quiet.move rfl) rfl (G.q (Quiet.move rfl) rfl (G.grun (t := 219) rfl rfl rfl (G.q (Quiet.move rfl) rfl (G.q (Quiet.pickF rfl rfl) rfl (G.nil (G.then_n (G.condF rfl (G.skip (G.then_n (G.region (G.q (Quiet.assign rfl) rfl (G.nil (G.blk_n (G.then_n (G.region (G.q (Quiet.move rfl) rfl ?_)))))))))))))))))
         refine G.q (Quiet.add rfl rfl (by omega)) rfl ?_
         refine G.q (Quiet.assign rfl) rfl (G.nil (G.then_n ?_))
         exact G.roundK ((i + 1, (fireL ω1 (evsI es i)).1, (fireL ω3 (evsI es i)).1, (decide (((fireL ω1 (evsI es i)).2.length : Int) > 0)), false, true, th1, k1, a1)) (⟨by dsimp only; omega, by have z := hS2.next (b := true) (by rw [decide_eq_true (show 0 < (fireL ω3 (evsI es i)).2.length by omega)]; rfl); rw [show (false || decide (0 < (fireL ω1 (evsI es i)).2.length)) = (decide (((fireL ω1 (evsI es i)).2.length : Int) > 0)) by rw [Bool.false_or]; exact decide_eq_decide.2 (by omega)] at z; exact z⟩) (by dsimp only; omega) ⟨rfl, rfl, rfl, rfl, rfl, rfl, rfl, rfl, rfl, rfl, rfl, rfl, rfl, rfl, trivial⟩ (by (repeat' constructor)) (by ((repeat (apply Have.cons; (repeat (first | exact Pick.here | apply Pick.there)))); apply Have.base; repeat' constructor))
        ·refine G.skip (G.blk_n (G.then_n (G.region (G.q (Quiet.move rfl) rfl ?_))))
         refine G.q (Quiet.add rfl rfl (by omega)) rfl ?_
         refine G.q (Quiet.assign rfl) rfl (G.nil (G.then_n ?_))
         exact G.roundK ((i + 1, (fireL ω1 (evsI es i)).1, (fireL ω3 (evsI es i)).1, (decide (((fireL ω1 (evsI es i)).2.length : Int) > 0)), false, told, th1, k1, a1)) (⟨by dsimp only; omega, by have z := hS2.next (b := told) (by rw [decide_eq_false (show ¬ 0 < (fireL ω3 (evsI es i)).2.length by omega), Bool.or_false]); rw [show (false || decide (0 < (fireL ω1 (evsI es i)).2.length)) = (decide (((fireL ω1 (evsI es i)).2.length : Int) > 0)) by rw [Bool.false_or]; exact decide_eq_decide.2 (by omega)] at z; exact z⟩) (by dsimp only; omega) ⟨rfl, rfl, rfl, rfl, rfl, rfl, rfl, rfl, rfl, rfl, rfl, rfl, rfl, rfl, trivial⟩ (by (repeat' constructor)) (by ((repeat (apply Have.cons; (repeat (first | exact Pick.here | apply Pick.there)))); apply Have.base; repeat' constructor))
       ·refine G.kDF (t := 183) rfl h40_184 (G.gskip (t := 184) rfl rfl rfl rfl (G.gskip (t := 184) rfl rfl rfl rfl (G.q (Quiet.pickF rfl rfl) rfl (G.q (Quiet.move rfl) rfl (G.gskip (t := 188) rfl rfl rfl rfl (G.gskip (t := 188) rfl rfl rfl rfl (G.q (Quiet.pickF rfl rfl) rfl (G.q (Quiet.move rfl) rfl (G.gskip (t := 192) rfl rfl rfl rfl (G.gskip (t := 192) rfl rfl rfl rfl (G.gskip (t := 192) rfl rfl rfl rfl (G.gskip (t := 192) rfl rfl rfl rfl (G.gskip (t := 192) rfl rfl rfl rfl (G.q (Quiet.pickF rfl rfl) rfl (G.q (Quiet.move rfl) rfl (G.grun (t := 199) rfl rfl rfl (G.q (Quiet.move rfl) rfl (G.grun (t := 199) rfl rfl rfl (G.q (Quiet.move rfl) rfl (G.grun (t := 199) rfl rfl rfl ?_))))))))))))))))))))
        refine G.q (Quiet.as (v' := .bool true) (by simp; omega) (Quiet.int rfl rfl rfl)) rfl ?_
        refine G.grun (t := 199) rfl rfl rfl (G.q (Quiet.move rfl) rfl (G.grun (t := 203) rfl rfl rfl (G.q (Quiet.move rfl) rfl (G.grun (t := 203) rfl rfl rfl (G.q (Quiet.slen rfl Tryz.underlying76 rfl) rfl (G.grun (t := 203) rfl rfl rfl ?_))))))
        refine G.q (Quiet.as (v' := .bool false) (by rw [hkb (by omega)]; rfl) (Quiet.int rfl rfl rfl)) rfl ?_
        refine G.grun (t := 199) rfl rfl rfl (G.q (Quiet.pickT rfl rfl) rfl (G.q (Quiet.pickF rfl rfl) rfl (G.nil (G.then_n (G.condF rfl (G.skip (G.then_n (G.seq (G.region (G.q (Quiet.move rfl) rfl (G.q (Quiet.move rfl) rfl (G.grun (t := 210) rfl rfl rfl (G.q (Quiet.move rfl) rfl (G.grun (t := 210) rfl rfl rfl (G.q (Quiet.slen rfl Tryz.underlying76 rfl) rfl (G.grun (t := 210) rfl rfl rfl (G.q (Quiet.int rfl rfl rfl) rfl (G.q (Quiet.pickF rfl rfl) rfl (G.q (Quiet.assign rfl) rfl (G.nil (G.then_n (G.seq (G.region (G.q (Quiet.move rfl) rfl (G.q (Quiet.slen rfl Tryz.underlying76 rfl) rfl (G.q (Quiet.int rfl rfl rfl) rfl (G.nil (G.then_n ?_))))))))))))))))))))))))))))
        refine G.condD rfl (fun h217 => ?_) (fun h217 => ?_)
        ·refine G.seq (G.seq ?_)
         have htl := (hkc (by omega)).2
         subst htl
         refine G.region (G.q (Quiet.move rfl) rfl (G.q (Quiet.move rfl) rfl (G.grun (t := 219) rfl rfl rfl (G.q (Quiet.move rfl) rfl (G.q (Quiet.pickF rfl rfl) rfl (G.nil (G.then_n (G.condF rfl (G.skip (G.then_n (G.region (G.q (Quiet.assign rfl) rfl (G.nil (G.blk_n (G.then_n (G.region (G.q (Quiet.move rfl) rfl ?_)))))))))))))))))
         refine G.q (Quiet.add rfl rfl (by omega)) rfl ?_
         refine G.q (Quiet.assign rfl) rfl (G.nil (G.then_n ?_))
         exact G.roundK ((i + 1, (fireL ω1 (evsI es i)).1, (fireL ω3 (evsI es i)).1, (decide (((fireL ω1 (evsI es i)).2.length : Int) > 0)), false, true, th1, k1, a1)) (⟨by dsimp only; omega, by have z := hS2.next (b := true) (by rw [decide_eq_true (show 0 < (fireL ω3 (evsI es i)).2.length by omega)]; rfl); rw [show (false || decide (0 < (fireL ω1 (evsI es i)).2.length)) = (decide (((fireL ω1 (evsI es i)).2.length : Int) > 0)) by rw [Bool.false_or]; exact decide_eq_decide.2 (by omega)] at z; exact z⟩) (by dsimp only; omega) ⟨rfl, rfl, rfl, rfl, rfl, rfl, rfl, rfl, rfl, rfl, rfl, rfl, rfl, rfl, trivial⟩ (by (repeat' constructor)) (by ((repeat (apply Have.cons; (repeat (first | exact Pick.here | apply Pick.there)))); apply Have.base; repeat' constructor))
        ·refine G.skip (G.blk_n (G.then_n (G.region (G.q (Quiet.move rfl) rfl ?_))))
         refine G.q (Quiet.add rfl rfl (by omega)) rfl ?_
         refine G.q (Quiet.assign rfl) rfl (G.nil (G.then_n ?_))
         exact G.roundK ((i + 1, (fireL ω1 (evsI es i)).1, (fireL ω3 (evsI es i)).1, (decide (((fireL ω1 (evsI es i)).2.length : Int) > 0)), false, told, th1, k1, a1)) (⟨by dsimp only; omega, by have z := hS2.next (b := told) (by rw [decide_eq_false (show ¬ 0 < (fireL ω3 (evsI es i)).2.length by omega), Bool.or_false]); rw [show (false || decide (0 < (fireL ω1 (evsI es i)).2.length)) = (decide (((fireL ω1 (evsI es i)).2.length : Int) > 0)) by rw [Bool.false_or]; exact decide_eq_decide.2 (by omega)] at z; exact z⟩) (by dsimp only; omega) ⟨rfl, rfl, rfl, rfl, rfl, rfl, rfl, rfl, rfl, rfl, rfl, rfl, rfl, rfl, trivial⟩ (by (repeat' constructor)) (by ((repeat (apply Have.cons; (repeat (first | exact Pick.here | apply Pick.there)))); apply Have.base; repeat' constructor))
      ·refine G.q (Quiet.move rfl) rfl (G.q (Quiet.int rfl rfl rfl) rfl (G.q (Quiet.move rfl) rfl ?_))
       refine G.dec (t := 184) rfl (fun h40_184 => ?_) (fun h40_184 => ?_)
       ·refine G.kDT (t := 183) rfl h40_184 (G.grun (t := 184) rfl rfl rfl (G.q (Quiet.move rfl) rfl (G.grun (t := 184) rfl rfl rfl (G.q (Quiet.not rfl) rfl (G.q (Quiet.pickT rfl rfl) rfl (G.q (Quiet.move rfl) rfl (G.grun (t := 188) rfl rfl rfl (G.q (Quiet.move rfl) rfl (G.grun (t := 188) rfl rfl rfl (G.q (Quiet.not rfl) rfl (G.q (Quiet.pickT rfl rfl) rfl (G.q (Quiet.move rfl) rfl (G.gskip (t := 192) rfl rfl rfl rfl (G.gskip (t := 192) rfl rfl rfl rfl (G.gskip (t := 192) rfl rfl rfl rfl (G.gskip (t := 192) rfl rfl rfl rfl (G.gskip (t := 192) rfl rfl rfl rfl (G.q (Quiet.pickF rfl rfl) rfl (G.q (Quiet.move rfl) rfl (G.grun (t := 199) rfl rfl rfl (G.q (Quiet.move rfl) rfl (G.grun (t := 199) rfl rfl rfl (G.q (Quiet.move rfl) rfl (G.grun (t := 199) rfl rfl rfl ?_))))))))))))))))))))))))
        refine G.q (Quiet.as (v' := .bool false) (by simp; omega) (Quiet.int rfl rfl rfl)) rfl ?_
        refine G.grun (t := 199) rfl rfl rfl (G.q (Quiet.move rfl) rfl (G.gskip (t := 203) rfl rfl rfl rfl (G.gskip (t := 203) rfl rfl rfl rfl (G.gskip (t := 203) rfl rfl rfl rfl (G.grun (t := 199) rfl rfl rfl (G.q (Quiet.pickF rfl rfl) rfl (G.q (Quiet.pickF rfl rfl) rfl (G.nil (G.then_n (G.condF rfl (G.skip (G.then_n (G.seq (G.region (G.q (Quiet.move rfl) rfl (G.q (Quiet.move rfl) rfl (G.gskip (t := 210) rfl rfl rfl rfl (G.gskip (t := 210) rfl rfl rfl rfl (G.gskip (t := 210) rfl rfl rfl rfl (G.q (Quiet.pickT rfl rfl) rfl (G.q (Quiet.assign rfl) rfl (G.nil (G.then_n (G.seq (G.region (G.q (Quiet.move rfl) rfl (G.q (Quiet.slen rfl Tryz.underlying76 rfl) rfl (G.q (Quiet.int rfl rfl rfl) rfl (G.nil (G.then_n ?_))))))))))))))))))))))))))))))
        refine G.condD rfl (fun h217 => ?_) (fun h217 => ?_)
        ·refine G.seq (G.seq ?_)
         have htl := (hkc (by omega)).2
         subst htl
         refine G.region (G.q (Quiet.move rfl) rfl (G.q (Quiet.move rfl) rfl (G.grun (t := 219) rfl rfl rfl (G.q (Quiet.move rfl) rfl (G.q (Quiet.pickF rfl rfl) rfl (G.nil (G.then_n (G.condF rfl (G.skip (G.then_n (G.region (G.q (Quiet.assign rfl) rfl (G.nil (G.blk_n (G.then_n (G.region (G.q (Quiet.move rfl) rfl ?_)))))))))))))))))
         refine G.q (Quiet.add rfl rfl (by omega)) rfl ?_
         refine G.q (Quiet.assign rfl) rfl (G.nil (G.then_n ?_))
         exact G.roundK ((i + 1, (fireL ω1 (evsI es i)).1, (fireL ω3 (evsI es i)).1, true, false, true, th1, k1, a1)) (⟨by dsimp only; omega, by have z := hS2.next (b := true) (by rw [decide_eq_true (show 0 < (fireL ω3 (evsI es i)).2.length by omega)]; rfl); rw [show (true || decide (0 < (fireL ω1 (evsI es i)).2.length)) = true by rw [Bool.true_or]] at z; exact z⟩) (by dsimp only; omega) ⟨rfl, rfl, rfl, rfl, rfl, rfl, rfl, rfl, rfl, rfl, rfl, rfl, rfl, rfl, trivial⟩ (by (repeat' constructor)) (by ((repeat (apply Have.cons; (repeat (first | exact Pick.here | apply Pick.there)))); apply Have.base; repeat' constructor))
        ·refine G.skip (G.blk_n (G.then_n (G.region (G.q (Quiet.move rfl) rfl ?_))))
         refine G.q (Quiet.add rfl rfl (by omega)) rfl ?_
         refine G.q (Quiet.assign rfl) rfl (G.nil (G.then_n ?_))
         exact G.roundK ((i + 1, (fireL ω1 (evsI es i)).1, (fireL ω3 (evsI es i)).1, true, false, told, th1, k1, a1)) (⟨by dsimp only; omega, by have z := hS2.next (b := told) (by rw [decide_eq_false (show ¬ 0 < (fireL ω3 (evsI es i)).2.length by omega), Bool.or_false]); rw [show (true || decide (0 < (fireL ω1 (evsI es i)).2.length)) = true by rw [Bool.true_or]] at z; exact z⟩) (by dsimp only; omega) ⟨rfl, rfl, rfl, rfl, rfl, rfl, rfl, rfl, rfl, rfl, rfl, rfl, rfl, rfl, trivial⟩ (by (repeat' constructor)) (by ((repeat (apply Have.cons; (repeat (first | exact Pick.here | apply Pick.there)))); apply Have.base; repeat' constructor))
       ·refine G.kDF (t := 183) rfl h40_184 (G.gskip (t := 184) rfl rfl rfl rfl (G.gskip (t := 184) rfl rfl rfl rfl (G.q (Quiet.pickF rfl rfl) rfl (G.q (Quiet.move rfl) rfl (G.gskip (t := 188) rfl rfl rfl rfl (G.gskip (t := 188) rfl rfl rfl rfl (G.q (Quiet.pickF rfl rfl) rfl (G.q (Quiet.move rfl) rfl (G.gskip (t := 192) rfl rfl rfl rfl (G.gskip (t := 192) rfl rfl rfl rfl (G.gskip (t := 192) rfl rfl rfl rfl (G.gskip (t := 192) rfl rfl rfl rfl (G.gskip (t := 192) rfl rfl rfl rfl (G.q (Quiet.pickF rfl rfl) rfl (G.q (Quiet.move rfl) rfl (G.grun (t := 199) rfl rfl rfl (G.q (Quiet.move rfl) rfl (G.grun (t := 199) rfl rfl rfl (G.q (Quiet.move rfl) rfl (G.grun (t := 199) rfl rfl rfl ?_))))))))))))))))))))
        refine G.q (Quiet.as (v' := .bool true) (by simp; omega) (Quiet.int rfl rfl rfl)) rfl ?_
        refine G.grun (t := 199) rfl rfl rfl (G.q (Quiet.move rfl) rfl (G.grun (t := 203) rfl rfl rfl (G.q (Quiet.move rfl) rfl (G.grun (t := 203) rfl rfl rfl (G.q (Quiet.slen rfl Tryz.underlying76 rfl) rfl (G.grun (t := 203) rfl rfl rfl ?_))))))
        refine G.q (Quiet.as (v' := .bool false) (by rw [hkb (by omega)]; rfl) (Quiet.int rfl rfl rfl)) rfl ?_
        refine G.grun (t := 199) rfl rfl rfl (G.q (Quiet.pickT rfl rfl) rfl (G.q (Quiet.pickF rfl rfl) rfl (G.nil (G.then_n (G.condF rfl (G.skip (G.then_n (G.seq (G.region (G.q (Quiet.move rfl) rfl (G.q (Quiet.move rfl) rfl (G.gskip (t := 210) rfl rfl rfl rfl (G.gskip (t := 210) rfl rfl rfl rfl (G.gskip (t := 210) rfl rfl rfl rfl (G.q (Quiet.pickT rfl rfl) rfl (G.q (Quiet.assign rfl) rfl (G.nil (G.then_n (G.seq (G.region (G.q (Quiet.move rfl) rfl (G.q (Quiet.slen rfl Tryz.underlying76 rfl) rfl (G.q (Quiet.int rfl rfl rfl) rfl (G.nil (G.then_n ?_)))))))))))))))))))))))))
        refine G.condD rfl (fun h217 => ?_) (fun h217 => ?_)
        ·refine G.seq (G.seq ?_)
         have htl := (hkc (by omega)).2
         subst htl
         refine G.region (G.q (Quiet.move rfl) rfl (G.q (Quiet.move rfl) rfl (G.grun (t := 219) rfl rfl rfl (G.q (Quiet.move rfl) rfl (G.q (Quiet.pickF rfl rfl) rfl (G.nil (G.then_n (G.condF rfl (G.skip (G.then_n (G.region (G.q (Quiet.assign rfl) rfl (G.nil (G.blk_n (G.then_n (G.region (G.q (Quiet.move rfl) rfl ?_)))))))))))))))))
         refine G.q (Quiet.add rfl rfl (by omega)) rfl ?_
         refine G.q (Quiet.assign rfl) rfl (G.nil (G.then_n ?_))
         exact G.roundK ((i + 1, (fireL ω1 (evsI es i)).1, (fireL ω3 (evsI es i)).1, true, false, true, th1, k1, a1)) (⟨by dsimp only; omega, by have z := hS2.next (b := true) (by rw [decide_eq_true (show 0 < (fireL ω3 (evsI es i)).2.length by omega)]; rfl); rw [show (true || decide (0 < (fireL ω1 (evsI es i)).2.length)) = true by rw [Bool.true_or]] at z; exact z⟩) (by dsimp only; omega) ⟨rfl, rfl, rfl, rfl, rfl, rfl, rfl, rfl, rfl, rfl, rfl, rfl, rfl, rfl, trivial⟩ (by (repeat' constructor)) (by ((repeat (apply Have.cons; (repeat (first | exact Pick.here | apply Pick.there)))); apply Have.base; repeat' constructor))
        ·refine G.skip (G.blk_n (G.then_n (G.region (G.q (Quiet.move rfl) rfl ?_))))
         refine G.q (Quiet.add rfl rfl (by omega)) rfl ?_
         refine G.q (Quiet.assign rfl) rfl (G.nil (G.then_n ?_))
         exact G.roundK ((i + 1, (fireL ω1 (evsI es i)).1, (fireL ω3 (evsI es i)).1, true, false, told, th1, k1, a1)) (⟨by dsimp only; omega, by have z := hS2.next (b := told) (by rw [decide_eq_false (show ¬ 0 < (fireL ω3 (evsI es i)).2.length by omega), Bool.or_false]); rw [show (true || decide (0 < (fireL ω1 (evsI es i)).2.length)) = true by rw [Bool.true_or]] at z; exact z⟩) (by dsimp only; omega) ⟨rfl, rfl, rfl, rfl, rfl, rfl, rfl, rfl, rfl, rfl, rfl, rfl, rfl, rfl, trivial⟩ (by (repeat' constructor)) (by ((repeat (apply Have.cons; (repeat (first | exact Pick.here | apply Pick.there)))); apply Have.base; repeat' constructor))
     ·refine G.q (Quiet.move rfl) rfl ?_
      rcases got with _ | _
      ·refine G.q (Quiet.move rfl) rfl (G.q (Quiet.int rfl rfl rfl) rfl (G.q (Quiet.move rfl) rfl ?_))
       refine G.dec (t := 184) rfl (fun h40_184 => ?_) (fun h40_184 => ?_)
       ·refine G.kDT (t := 183) rfl h40_184 (G.grun (t := 184) rfl rfl rfl (G.q (Quiet.move rfl) rfl (G.grun (t := 184) rfl rfl rfl (G.q (Quiet.not rfl) rfl (G.q (Quiet.pickT rfl rfl) rfl (G.q (Quiet.move rfl) rfl (G.gskip (t := 188) rfl rfl rfl rfl (G.gskip (t := 188) rfl rfl rfl rfl (G.q (Quiet.pickF rfl rfl) rfl (G.q (Quiet.move rfl) rfl (G.gskip (t := 192) rfl rfl rfl rfl (G.gskip (t := 192) rfl rfl rfl rfl (G.gskip (t := 192) rfl rfl rfl rfl (G.gskip (t := 192) rfl rfl rfl rfl (G.gskip (t := 192) rfl rfl rfl rfl (G.q (Quiet.pickF rfl rfl) rfl (G.q (Quiet.move rfl) rfl (G.grun (t := 199) rfl rfl rfl (G.q (Quiet.move rfl) rfl (G.grun (t := 199) rfl rfl rfl (G.q (Quiet.move rfl) rfl (G.grun (t := 199) rfl rfl rfl ?_))))))))))))))))))))))
        refine G.q (Quiet.as (v' := .bool false) (by simp; omega) (Quiet.int rfl rfl rfl)) rfl ?_
        refine G.grun (t := 199) rfl rfl rfl (G.q (Quiet.move rfl) rfl (G.gskip (t := 203) rfl rfl rfl rfl (G.gskip (t := 203) rfl rfl rfl rfl (G.gskip (t := 203) rfl rfl rfl rfl (G.grun (t := 199) rfl rfl rfl (G.q (Quiet.pickF rfl rfl) rfl (G.q (Quiet.pickF rfl rfl) rfl (G.nil (G.then_n (G.condF rfl (G.skip (G.then_n (G.seq (G.region (G.q (Quiet.move rfl) rfl (G.q (Quiet.move rfl) rfl (G.grun (t := 210) rfl rfl rfl (G.q (Quiet.move rfl) rfl (G.grun (t := 210) rfl rfl rfl (G.q (Quiet.slen rfl Tryz.underlying76 rfl) rfl (G.grun (t := 210) rfl rfl rfl (G.q (Quiet.int rfl rfl rfl) rfl (G.q (Quiet.pickF rfl rfl) rfl (G.q (Quiet.assign rfl) rfl (G.nil (G.then_n (G.seq (G.region (G.q (Quiet.move rfl) rfl (G.q (Quiet.slen rfl Tryz.underlying76 rfl) rfl (G.q (Quiet.int rfl rfl rfl) rfl (G.nil (G.then_n ?_)))))))))))))))))))))))))))))))))
        refine G.condD rfl (fun h217 => ?_) (fun h217 => ?_)
        ·exact absurd (hkc (by omega)).1 (by decide)
        ·refine G.skip (G.blk_n (G.then_n (G.region (G.q (Quiet.move rfl) rfl ?_))))
         refine G.q (Quiet.add rfl rfl (by omega)) rfl ?_
         refine G.q (Quiet.assign rfl) rfl (G.nil (G.then_n ?_))
         exact G.roundK ((i + 1, (fireL ω1 (evsI es i)).1, (fireL ω3 (evsI es i)).1, (decide (((fireL ω1 (evsI es i)).2.length : Int) > 0)), true, told, th1, k1, a1)) (⟨by dsimp only; omega, by have z := hS2.next (b := told) (by rw [decide_eq_false (show ¬ 0 < (fireL ω3 (evsI es i)).2.length by omega), Bool.or_false]); rw [show (false || decide (0 < (fireL ω1 (evsI es i)).2.length)) = (decide (((fireL ω1 (evsI es i)).2.length : Int) > 0)) by rw [Bool.false_or]; exact decide_eq_decide.2 (by omega)] at z; exact z⟩) (by dsimp only; omega) ⟨rfl, rfl, rfl, rfl, rfl, rfl, rfl, rfl, rfl, rfl, rfl, rfl, rfl, rfl, trivial⟩ (by (repeat' constructor)) (by ((repeat (apply Have.cons; (repeat (first | exact Pick.here | apply Pick.there)))); apply Have.base; repeat' constructor))
       ·refine G.kDF (t := 183) rfl h40_184 (G.gskip (t := 184) rfl rfl rfl rfl (G.gskip (t := 184) rfl rfl rfl rfl (G.q (Quiet.pickF rfl rfl) rfl (G.q (Quiet.move rfl) rfl (G.gskip (t := 188) rfl rfl rfl rfl (G.gskip (t := 188) rfl rfl rfl rfl (G.q (Quiet.pickF rfl rfl) rfl (G.q (Quiet.move rfl) rfl (G.gskip (t := 192) rfl rfl rfl rfl (G.gskip (t := 192) rfl rfl rfl rfl (G.gskip (t := 192) rfl rfl rfl rfl (G.gskip (t := 192) rfl rfl rfl rfl (G.gskip (t := 192) rfl rfl rfl rfl (G.q (Quiet.pickF rfl rfl) rfl (G.q (Quiet.move rfl) rfl (G.grun (t := 199) rfl rfl rfl (G.q (Quiet.move rfl) rfl (G.grun (t := 199) rfl rfl rfl (G.q (Quiet.move rfl) rfl (G.grun (t := 199) rfl rfl rfl ?_))))))))))))))))))))
        refine G.q (Quiet.as (v' := .bool true) (by simp; omega) (Quiet.int rfl rfl rfl)) rfl ?_
        refine G.grun (t := 199) rfl rfl rfl (G.q (Quiet.move rfl) rfl (G.grun (t := 203) rfl rfl rfl (G.q (Quiet.move rfl) rfl (G.grun (t := 203) rfl rfl rfl (G.q (Quiet.slen rfl Tryz.underlying76 rfl) rfl (G.grun (t := 203) rfl rfl rfl ?_))))))
        refine G.q (Quiet.as (v' := .bool false) (by rw [hkb (by omega)]; rfl) (Quiet.int rfl rfl rfl)) rfl ?_
        refine G.grun (t := 199) rfl rfl rfl (G.q (Quiet.pickT rfl rfl) rfl (G.q (Quiet.pickF rfl rfl) rfl (G.nil (G.then_n (G.condF rfl (G.skip (G.then_n (G.seq (G.region (G.q (Quiet.move rfl) rfl (G.q (Quiet.move rfl) rfl (G.grun (t := 210) rfl rfl rfl (G.q (Quiet.move rfl) rfl (G.grun (t := 210) rfl rfl rfl (G.q (Quiet.slen rfl Tryz.underlying76 rfl) rfl (G.grun (t := 210) rfl rfl rfl (G.q (Quiet.int rfl rfl rfl) rfl (G.q (Quiet.pickF rfl rfl) rfl (G.q (Quiet.assign rfl) rfl (G.nil (G.then_n (G.seq (G.region (G.q (Quiet.move rfl) rfl (G.q (Quiet.slen rfl Tryz.underlying76 rfl) rfl (G.q (Quiet.int rfl rfl rfl) rfl (G.nil (G.then_n ?_))))))))))))))))))))))))))))
        refine G.condD rfl (fun h217 => ?_) (fun h217 => ?_)
        ·exact absurd (hkc (by omega)).1 (by decide)
        ·refine G.skip (G.blk_n (G.then_n (G.region (G.q (Quiet.move rfl) rfl ?_))))
         refine G.q (Quiet.add rfl rfl (by omega)) rfl ?_
         refine G.q (Quiet.assign rfl) rfl (G.nil (G.then_n ?_))
         exact G.roundK ((i + 1, (fireL ω1 (evsI es i)).1, (fireL ω3 (evsI es i)).1, (decide (((fireL ω1 (evsI es i)).2.length : Int) > 0)), true, told, th1, k1, a1)) (⟨by dsimp only; omega, by have z := hS2.next (b := told) (by rw [decide_eq_false (show ¬ 0 < (fireL ω3 (evsI es i)).2.length by omega), Bool.or_false]); rw [show (false || decide (0 < (fireL ω1 (evsI es i)).2.length)) = (decide (((fireL ω1 (evsI es i)).2.length : Int) > 0)) by rw [Bool.false_or]; exact decide_eq_decide.2 (by omega)] at z; exact z⟩) (by dsimp only; omega) ⟨rfl, rfl, rfl, rfl, rfl, rfl, rfl, rfl, rfl, rfl, rfl, rfl, rfl, rfl, trivial⟩ (by (repeat' constructor)) (by ((repeat (apply Have.cons; (repeat (first | exact Pick.here | apply Pick.there)))); apply Have.base; repeat' constructor))
      ·refine G.q (Quiet.move rfl) rfl (G.q (Quiet.int rfl rfl rfl) rfl (G.q (Quiet.move rfl) rfl ?_))
       refine G.dec (t := 184) rfl (fun h40_184 => ?_) (fun h40_184 => ?_)
       ·refine G.kDT (t := 183) rfl h40_184 (G.grun (t := 184) rfl rfl rfl (G.q (Quiet.move rfl) rfl (G.grun (t := 184) rfl rfl rfl (G.q (Quiet.not rfl) rfl (G.q (Quiet.pickT rfl rfl) rfl (G.q (Quiet.move rfl) rfl (G.gskip (t := 188) rfl rfl rfl rfl (G.gskip (t := 188) rfl rfl rfl rfl (G.q (Quiet.pickF rfl rfl) rfl (G.q (Quiet.move rfl) rfl (G.gskip (t := 192) rfl rfl rfl rfl (G.gskip (t := 192) rfl rfl rfl rfl (G.gskip (t := 192) rfl rfl rfl rfl (G.gskip (t := 192) rfl rfl rfl rfl (G.gskip (t := 192) rfl rfl rfl rfl (G.q (Quiet.pickF rfl rfl) rfl (G.q (Quiet.move rfl) rfl (G.grun (t := 199) rfl rfl rfl (G.q (Quiet.move rfl) rfl (G.grun (t := 199) rfl rfl rfl (G.q (Quiet.move rfl) rfl (G.grun (t := 199) rfl rfl rfl ?_))))))))))))))))))))))
        refine G.q (Quiet.as (v' := .bool false) (by simp; omega) (Quiet.int rfl rfl rfl)) rfl ?_
        refine G.grun (t := 199) rfl rfl rfl (G.q (Quiet.move rfl) rfl (G.gskip (t := 203) rfl rfl rfl rfl (G.gskip (t := 203) rfl rfl rfl rfl (G.gskip (t := 203) rfl rfl rfl rfl (G.grun (t := 199) rfl rfl rfl (G.q (Quiet.pickF rfl rfl) rfl (G.q (Quiet.pickF rfl rfl) rfl (G.nil (G.then_n (G.condF rfl (G.skip (G.then_n (G.seq (G.region (G.q (Quiet.move rfl) rfl (G.q (Quiet.move rfl) rfl (G.gskip (t := 210) rfl rfl rfl rfl (G.gskip (t := 210) rfl rfl rfl rfl (G.gskip (t := 210) rfl rfl rfl rfl (G.q (Quiet.pickT rfl rfl) rfl (G.q (Quiet.assign rfl) rfl (G.nil (G.then_n (G.seq (G.region (G.q (Quiet.move rfl) rfl (G.q (Quiet.slen rfl Tryz.underlying76 rfl) rfl (G.q (Quiet.int rfl rfl rfl) rfl (G.nil (G.then_n ?_))))))))))))))))))))))))))))))
        refine G.condD rfl (fun h217 => ?_) (fun h217 => ?_)
        ·exact absurd (hkc (by omega)).1 (by decide)
        ·refine G.skip (G.blk_n (G.then_n (G.region (G.q (Quiet.move rfl) rfl ?_))))
         refine G.q (Quiet.add rfl rfl (by omega)) rfl ?_
         refine G.q (Quiet.assign rfl) rfl (G.nil (G.then_n ?_))
         exact G.roundK ((i + 1, (fireL ω1 (evsI es i)).1, (fireL ω3 (evsI es i)).1, true, true, told, th1, k1, a1)) (⟨by dsimp only; omega, by have z := hS2.next (b := told) (by rw [decide_eq_false (show ¬ 0 < (fireL ω3 (evsI es i)).2.length by omega), Bool.or_false]); rw [show (true || decide (0 < (fireL ω1 (evsI es i)).2.length)) = true by rw [Bool.true_or]] at z; exact z⟩) (by dsimp only; omega) ⟨rfl, rfl, rfl, rfl, rfl, rfl, rfl, rfl, rfl, rfl, rfl, rfl, rfl, rfl, trivial⟩ (by (repeat' constructor)) (by ((repeat (apply Have.cons; (repeat (first | exact Pick.here | apply Pick.there)))); apply Have.base; repeat' constructor))
       ·refine G.kDF (t := 183) rfl h40_184 (G.gskip (t := 184) rfl rfl rfl rfl (G.gskip (t := 184) rfl rfl rfl rfl (G.q (Quiet.pickF rfl rfl) rfl (G.q (Quiet.move rfl) rfl (G.gskip (t := 188) rfl rfl rfl rfl (G.gskip (t := 188) rfl rfl rfl rfl (G.q (Quiet.pickF rfl rfl) rfl (G.q (Quiet.move rfl) rfl (G.gskip (t := 192) rfl rfl rfl rfl (G.gskip (t := 192) rfl rfl rfl rfl (G.gskip (t := 192) rfl rfl rfl rfl (G.gskip (t := 192) rfl rfl rfl rfl (G.gskip (t := 192) rfl rfl rfl rfl (G.q (Quiet.pickF rfl rfl) rfl (G.q (Quiet.move rfl) rfl (G.grun (t := 199) rfl rfl rfl (G.q (Quiet.move rfl) rfl (G.grun (t := 199) rfl rfl rfl (G.q (Quiet.move rfl) rfl (G.grun (t := 199) rfl rfl rfl ?_))))))))))))))))))))
        refine G.q (Quiet.as (v' := .bool true) (by simp; omega) (Quiet.int rfl rfl rfl)) rfl ?_
        refine G.grun (t := 199) rfl rfl rfl (G.q (Quiet.move rfl) rfl (G.grun (t := 203) rfl rfl rfl (G.q (Quiet.move rfl) rfl (G.grun (t := 203) rfl rfl rfl (G.q (Quiet.slen rfl Tryz.underlying76 rfl) rfl (G.grun (t := 203) rfl rfl rfl ?_))))))
        refine G.q (Quiet.as (v' := .bool false) (by rw [hkb (by omega)]; rfl) (Quiet.int rfl rfl rfl)) rfl ?_
        refine G.grun (t := 199) rfl rfl rfl (G.q (Quiet.pickT rfl rfl) rfl (G.q (Quiet.pickF rfl rfl) rfl (G.nil (G.then_n (G.condF rfl (G.skip (G.then_n (G.seq (G.region (G.q (Quiet.move rfl) rfl (G.q (Quiet.move rfl) rfl (G.gskip (t := 210) rfl rfl rfl rfl (G.gskip (t := 210) rfl rfl rfl rfl (G.gskip (t := 210) rfl rfl rfl rfl (G.q (Quiet.pickT rfl rfl) rfl (G.q (Quiet.assign rfl) rfl (G.nil (G.then_n (G.seq (G.region (G.q (Quiet.move rfl) rfl (G.q (Quiet.slen rfl Tryz.underlying76 rfl) rfl (G.q (Quiet.int rfl rfl rfl) rfl (G.nil (G.then_n ?_)))))))))))))))))))))))))
        refine G.condD rfl (fun h217 => ?_) (fun h217 => ?_)
        ·exact absurd (hkc (by omega)).1 (by decide)
        ·refine G.skip (G.blk_n (G.then_n (G.region (G.q (Quiet.move rfl) rfl ?_))))
         refine G.q (Quiet.add rfl rfl (by omega)) rfl ?_
         refine G.q (Quiet.assign rfl) rfl (G.nil (G.then_n ?_))
         exact G.roundK ((i + 1, (fireL ω1 (evsI es i)).1, (fireL ω3 (evsI es i)).1, true, true, told, th1, k1, a1)) (⟨by dsimp only; omega, by have z := hS2.next (b := told) (by rw [decide_eq_false (show ¬ 0 < (fireL ω3 (evsI es i)).2.length by omega), Bool.or_false]); rw [show (true || decide (0 < (fireL ω1 (evsI es i)).2.length)) = true by rw [Bool.true_or]] at z; exact z⟩) (by dsimp only; omega) ⟨rfl, rfl, rfl, rfl, rfl, rfl, rfl, rfl, rfl, rfl, rfl, rfl, rfl, rfl, trivial⟩ (by (repeat' constructor)) (by ((repeat (apply Have.cons; (repeat (first | exact Pick.here | apply Pick.there)))); apply Have.base; repeat' constructor))
 ·refine G.exit (G.then_e (G.then_e (G.blk_e (G.then_n (G.seq (G.region (G.q (Quiet.assign rfl) rfl (G.nil (G.then_n (G.ret ?_))))))))))
  exact G.done (l := [.tmp 10]) rfl rfl ⟨rfl, rfl⟩ (by (repeat' constructor)) (by (repeat' constructor))

end Go.Proofs.YtnnbelmpbmfdnaaGreatDoor

/- Own work: from what a call is given to the atoms of SlCore, and back to what a statement asks. -/

namespace Go.Proofs.YtnnbelmpbmfdnaaGreatDoor
open Go Go.ChangeShapes Go.WideShapes Go.ChangeAt Go.RowKit

section
variable {H : Type} {enc : TypeId × Value → H} {P : Program} {W W' : World}
theorem trodAll_old (hl : laidOutB P = true) (hb : Below W.heap.size W W') (sp : Nat → Bool) : ∀ (ts : List TypeId) (vs : List Value) (ds : List (DataW H)) (p : List MemPlace), (∀ t ∈ ts, P.readableRec t = true ∧ t < P.types.size) →
    DataW.TrodAll enc P W 0 (fun _ => true) true ts vs ds p → (∀ x ∈ p, x.block < W.heap.size) → (∀ x ∈ p, sp x.block = true) → DataW.TrodAll enc P W' 0 sp true ts vs ds p
  | [], vs, ds, p, _, h, _, _ => by
    obtain ⟨rfl, rfl, rfl⟩ := trodAll_nil h
    exact h
  | t :: ts, vs, ds, p, hr, h, hlt, hsp => by
    obtain ⟨v, vs1, d, ds1, a, b, rfl, rfl, rfl, h1, h2⟩ := trodAll_cons h
    have r := hr t (by simp)
    refine ⟨a, b, WideElems.Trod_stays hl r.1 r.2 h1 (fun x hx => hb.same (hlt x (by simp [hx]))) (fun x hx => hsp x (by simp [hx])), ?_, rfl⟩
    exact trodAll_old hl hb sp ts vs1 ds1 b (fun t ht => hr t (by simp [ht])) h2 (fun x hx => hlt x (by simp [hx])) (fun x hx => hsp x (by simp [hx]))
theorem settled {fn : Func} {s : ChangeSpec} {apart fresh handsOn again : Bool} {args : Array Value} {ds gs : List (DataW H)} {before : List MemPlace} {tb : TypeId}
    (hW : DataW.Whole enc P fn.params.toList s.vars apart W args.toList ds gs before) (hvars : s.vars = []) (hspec : ∀ gs', gs' = [] → s.fn H (ds ++ gs') = { results := [.lit (.bool true)], args := ds })
    (hres : fn.resultTypes = #[tb]) (htb : P.underlying tb = some .bool) (hl : laidOutB P = true) (hr : ∀ t ∈ fn.params.toList, P.readableRec t = true ∧ t < P.types.size) (hb : Below W.heap.size W W') :
    s.post enc P fn apart fresh handsOn again W args (.bool true) W' := by
  have hW' := hW
  have hlt := hW.lt
  obtain ⟨p, q, hA, hV, rfl, hfz, hnd⟩ := hW
  rw [hvars] at hV
  obtain ⟨rfl, rfl⟩ := trodVars_none hV
  have hs := hspec [] rfl
  have hargs : ∀ sp : Nat → Bool, (∀ x ∈ p, sp x.block = true) → DataW.TrodAll enc P W' 0 sp true fn.params.toList args.toList ds p := fun sp hsp =>
    trodAll_old hl hb sp _ _ _ _ hr hA (fun x hx => hlt x (by simp [hx])) hsp
  have hbool : ∀ (b : Nat) (sp : Nat → Bool) (hd : Bool), DataW.TrodAll enc P W' b sp hd fn.resultTypes.toList ((Value.bool true).resultList fn.resultTypes.size) [.lit (.bool true)] [] := by
    intro b sp hd
    rw [hres]
    exact trodAll_cons_mk (shut_bool htb _) trodAll_mk0
  refine ⟨ds, [], p ++ [], [], p, [], hW', ?_, ?_, ?_, hb.frame _, fun _ => ⟨ok_one hres rfl (okWide_bool_mk htb _), [.lit (.bool true)] ++ ds, [], p, ⟨p, [], ?_, ?_, by simp, ?_, ?_⟩, ?_⟩⟩
  · rw [hs]; exact hbool _ _ _
  · rw [hs]; exact hargs _ (fun x hx => by simpa using hlt x (by simp [hx]))
  · rw [hs, hvars]; exact hV
  · exact trodAll_append (hargs _ (fun _ _ => rfl)) (hbool _ _ _)
  · rw [hvars]; exact hV
  · intro b off hp
    rw [hb.frozen (p := ⟨b, off, none⟩) (hlt (.cell b off) (by simp [hp]))]
    exact hfz b off (by simp [hp])
  · intro ha
    have := hnd ha
    simpa using this
  · intro x hx _
    simp [hx]
theorem old_calls {f : FuncId} {args : Array Value} (h : Fn P f args [Old W] fun v L => v = .bool true ∧ L = [Old W]) :
    Calls P f args W fun e W' => e = .returned (.bool true) ∧ Below W.heap.size W W' := by
  have h0 : St [Old W] W := ⟨fun b => W.heap[b]?, fun _ => none, fun _ => .inr rfl, fun b o h => h, fun b o h => (by cases h), fun b hb => rfl, trivial⟩
  refine (h [] W h0).mono ?_
  rintro e W' ⟨v, L, ⟨rfl, rfl⟩, rfl, hs, hk⟩
  refine ⟨rfl, hk.os, hk.tape, hk.output, hk.size, fun k hk' => ?_⟩
  obtain ⟨h1, a1, hp⟩ := sep_head hs
  have e1 := hp k hk'
  have : ∃ o, W.heap[k]? = some o := ⟨_, Array.getElem?_eq_getElem hk'⟩
  obtain ⟨o, ho⟩ := this
  rw [ho] at e1 ⊢
  exact a1 _ _ e1
theorem old_rd {a : Addr} {len cap : Nat} {V : Nat → Value} (hc : ∀ i, i < len → W.cell? (a.add i) = some (V i)) (hle : len ≤ cap) : ∀ h : Hp, Old W h → rdS 1 h (.slice (some a) len cap) len ((List.range len).map V) := by
  intro h hold
  rcases Nat.eq_zero_or_pos len with rfl | hpos
  · exact .inl ⟨rfl, rfl, some a, cap, rfl⟩
  · obtain ⟨b, off, spot⟩ := a
    have h0 := hc 0 hpos
    have e0 : (⟨b, off, spot⟩ : Addr).add 0 = ⟨b, off, spot⟩ := by simp [Addr.add]
    rw [e0] at h0
    simp only [World.cell?] at h0
    rcases hw : W.heap[b]? with _ | o
    · rw [hw] at h0; cases h0
    · cases o with
      | cells c T fr =>
        rw [hw] at h0
        dsimp only at h0
        split at h0
        · cases h0
        · rename_i hsp
          have hspot : spot = none := by simpa using hsp
          subst hspot
          have hc' : ∀ i, i < len → c[off + i]? = some (V i) := by
            intro i hi
            have := hc i hi
            have e1 : (⟨b, off, none⟩ : Addr).add i = ⟨b, off + i, none⟩ := by
              simp only [Addr.add]; split
              · rename_i h0; simp [h0]
              · rfl
            rw [e1] at this
            simp only [World.cell?, hw] at this
            simpa using this
          have hlt : b < W.heap.size := by
            rcases Nat.lt_or_ge b W.heap.size with h' | h'
            · exact h'
            · rw [Array.getElem?_eq_none h'] at hw; cases hw
          have hlen : off + len ≤ c.size := by
            have := hc' (len - 1) (by omega)
            rcases Nat.lt_or_ge (off + (len - 1)) c.size with h' | h'
            · omega
            · rw [Array.getElem?_eq_none h'] at this; cases this
          refine .inr ⟨b, off, cap, c.toList, T, fr, rfl, by rw [hold b hlt, hw], ?_, by simpa using hlen, hle⟩
          apply List.ext_getElem?
          intro i
          rw [Nat.mul_one, List.getElem?_take, List.getElem?_map, List.getElem?_drop]
          split
          · rename_i hi
            rw [List.getElem?_range hi]
            simpa using hc' i hi
          · rename_i hi
            rw [List.getElem?_eq_none (by simpa using hi)]; rfl
      | _ => rw [hw] at h0; cases h0
theorem arg_int {t : TypeId} {r : Reach} {b0 : Nat} {v : Value} {d : DataW H} {ps : List MemPlace} (ht : P.underlying t = some (.int .i64)) (hval : Value.okWide P W r b0 t v)
    (h : DataW.Trod enc P W 0 (fun _ => true) true t v d ps) : ∃ n : Int, v = vint n ∧ d = .lit (.int .i64 n) ∧ -9223372036854775808 ≤ n ∧ n ≤ 9223372036854775807 := by
  obtain ⟨n, rfl, rfl, rfl, hwf⟩ := open_int ht hval h
  exact ⟨n, rfl, rfl, bounds_i64 hwf⟩
end
end Go.Proofs.YtnnbelmpbmfdnaaGreatDoor

/- Own work: strings and rows of strings as arguments. -/
namespace Go.Proofs.YtnnbelmpbmfdnaaGreatDoor
open Go Go.ChangeShapes Go.WideShapes Go.ChangeAt Go.RowKit

section
variable {H : Type} {enc : TypeId × Value → H} {P : Program} {W : World}
theorem string_vstr (s : ByteArray) : Value.string s = vstr s.data.toList := by cases s; rfl
end
end Go.Proofs.YtnnbelmpbmfdnaaGreatDoor

/- Own work: nested arguments decoded: slices of structs, and what the row says of their weight. -/

namespace Go.Proofs.YtnnbelmpbmfdnaaGreatDoor
open Go Go.ChangeShapes Go.WideShapes Go.ChangeAt Go.RowKit

section
variable {H : Type} {enc : TypeId × Value → H} {P : Program} {W : World}
/-- No slice and no string in this datum weighs more than the row's reach. -/
def Light (P : Program) (t : TypeId) (d : DataW H) : Prop := ∀ n ∈ d.weights P t, n ≤ reachBytes
theorem flat_at {α : Type} {sz : Nat} (f : Nat → List α) : ∀ n, (∀ i, i < n → (f i).length = sz) → ∀ j, j < n * sz → ((List.range n).flatMap f)[j]? = (f (j / sz))[j % sz]? ∧ ((List.range n).flatMap f).length = n * sz := by
  intro n
  induction n with
  | zero => intro _ j hj; omega
  | succ n ih =>
    intro hf j hj
    have hn := hf n (by omega)
    have hlen : ((List.range n).flatMap f).length = n * sz := by
      rcases Nat.eq_zero_or_pos (n * sz) with h0 | h0
      · rcases Nat.eq_zero_or_pos n with h1 | h1
        · subst h1; simp
        · have : sz = 0 := by
            rcases Nat.eq_zero_or_pos sz with h2 | h2
            · exact h2
            · have := Nat.mul_pos h1 h2; omega
          subst this; omega
      · exact (ih (fun i hi => hf i (by omega)) 0 h0).2
    have e : (List.range (n + 1)).flatMap f = (List.range n).flatMap f ++ f n := by simp [List.range_succ]
    have hm : (n + 1) * sz = n * sz + sz := by rw [Nat.add_mul, Nat.one_mul]
    rw [e]
    refine ⟨?_, by rw [List.length_append, hlen, hn, hm]⟩
    rcases Nat.lt_or_ge j (n * sz) with h | h
    · rw [List.getElem?_append_left (by omega)]
      exact (ih (fun i hi => hf i (by omega)) j h).1
    · rw [List.getElem?_append_right (by omega), hlen]
      have hs : 0 < sz := by omega
      have h1 : j / sz = n := by
        have : j < (n + 1) * sz := hj
        have a := Nat.div_lt_of_lt_mul (show j < sz * (n + 1) by rw [Nat.mul_comm]; exact this)
        have b := (Nat.le_div_iff_mul_le hs).2 h
        omega
      have h2 : j % sz = j - n * sz := by
        have := Nat.div_add_mod j sz
        rw [h1, Nat.mul_comm] at this; omega
      rw [h1, h2]
theorem rdS_regroup {sz n c c1 : Nat} {a : Option Addr} {ys : List Value} {h : Hp} (hr : rdS 1 h (.slice a (n * sz) c1) (n * sz) ys) (hc : n ≤ c) (hs : 0 < sz) : rdS sz h (.slice a n c) n ys := by
  rcases hr with ⟨h1, h2, -⟩ | ⟨b, off, cap, l, T, fr, hv, hb, h1, h2, h3⟩
  · have : n = 0 := by
      rcases Nat.eq_zero_or_pos n with h0 | h0
      · exact h0
      · have := Nat.mul_pos h0 hs; omega
    subst this
    exact .inl ⟨rfl, h2, a, c, rfl⟩
  · simp only [Value.slice.injEq] at hv
    obtain ⟨rfl, -, -⟩ := hv
    exact .inr ⟨b, off, c, l, T, fr, rfl, hb, by rw [← h1, Nat.mul_one], by rw [Nat.mul_one] at h2; exact h2, hc⟩
abbrev Reads (enc : TypeId × Value → H) (P : Program) (W : World) (fuel : Nat) (t : TypeId) (cs : List Value) (x : DataW H × List MemPlace) : Prop := DataW.trod enc P W 0 (fun _ => true) true fuel t cs = some x
theorem dec_int {t : TypeId} {fuel : Nat} {cs : List Value} {x : DataW H × List MemPlace} (ht : P.underlying t = some (.int .i64)) (h : Reads enc P W fuel t cs x) : ∃ n : Int, cs = [vint n] ∧ -9223372036854775808 ≤ n ∧ n ≤ 9223372036854775807 := by
  obtain ⟨n, rfl, -, hwf⟩ := DataW.trod_int ht h
  exact ⟨n, rfl, bounds_i64 hwf⟩
end
end Go.Proofs.YtnnbelmpbmfdnaaGreatDoor

/- Own work: arguments of a bounded bulk (the second form's bound), decoded. -/
namespace Go.Proofs.YtnnbelmpbmfdnaaGreatDoor
open Go Go.ChangeShapes Go.WideShapes Go.ChangeAt Go.RowKit

theorem bulk_pos {H : Type} (d : DataW H) : 1 ≤ Rows.uptoBulk d := by
  cases d with
  | lit l => cases l <;> simp [Rows.uptoBulk]
  | _ => simp [Rows.uptoBulk]
theorem bulk_part {H : Type} {d : DataW H} : ∀ {l : List (DataW H)}, d ∈ l → Rows.uptoBulk d ≤ Rows.uptoBulkAll l
  | x :: l, h => by
    unfold Rows.uptoBulkAll
    rcases List.mem_cons.1 h with rfl | h
    · omega
    · have := bulk_part h; omega
theorem bulk_count {H : Type} : ∀ l : List (DataW H), l.length ≤ Rows.uptoBulkAll l
  | [] => by simp
  | x :: l => by
    have h1 := bulk_pos x
    have h2 := bulk_count l
    unfold Rows.uptoBulkAll
    rw [List.length_cons]; omega
theorem bulk_agg {H : Type} {d : DataW H} {l : List (DataW H)} {N : Nat} (h : Rows.uptoBulk (.agg l) ≤ N) (hd : d ∈ l) : Rows.uptoBulk d ≤ N := by
  have := bulk_part hd
  simp only [Rows.uptoBulk] at h
  omega
theorem bulk_small {H : Type} {l : List (DataW H)} (h : Rows.uptoSmall H l = true) {d : DataW H} (hd : d ∈ l) : Rows.uptoBulk d ≤ 1048576 :=
  Nat.le_trans (bulk_part hd) (of_decide_eq_true h)
instance : Inhabited Value := ⟨.bool false⟩
section
variable {H : Type} {enc : TypeId × Value → H} {P : Program} {W : World} {N : Nat}
theorem dec_str {t : TypeId} {fuel : Nat} {cs : List Value} {x : DataW H × List MemPlace} (ht : P.underlying t = some .string) (h : Reads enc P W fuel t cs x) (hb : Rows.uptoBulk x.1 ≤ N) : ∃ s : List UInt8, cs = [vstr s] ∧ s.length ≤ N := by
  obtain ⟨s, rfl, rfl, -⟩ := DataW.trod_string ht h
  simp only [Rows.uptoBulk] at hb
  exact ⟨s.data.toList, by rw [string_vstr], by omega⟩
theorem dec_int' {t : TypeId} {fuel : Nat} {cs : List Value} {x : DataW H × List MemPlace} (ht : P.underlying t = some (.int .i64)) (h : Reads enc P W fuel t cs x) : ∃ n : Int, cs = [vint n] ∧ (-9223372036854775808 ≤ n ∧ n ≤ 9223372036854775807) := by
  obtain ⟨n, h1, h2⟩ := dec_int ht h; exact ⟨n, h1, h2⟩
theorem slice_cell {t e : TypeId} {fuel : Nat} {v : Value} {x : DataW H × List MemPlace} (ht : P.underlying t = some (.slice e)) (h : Reads enc P W fuel t [v] x) : isCell v = true := by
  rcases Go.Deep.open_slice ht h with ⟨hv, -⟩ | ⟨a, len, cap, m, n, Dd, Pl, hv, -⟩
  · rw [List.cons.injEq] at hv; rw [hv.1]; rfl
  · rw [List.cons.injEq] at hv; rw [hv.1]; rfl
/-- A slice, each of whose elements is decoded. -/
theorem dec_sliceU {Z : Type} [Inhabited Z] (toC : Z → List Value) (Q : Z → Prop) {t e : TypeId} {sz : Nat} {fuel : Nat} {cs : List Value} {x : DataW H × List MemPlace} (ht : P.underlying t = some (.slice e)) (hc : P.cellsOf e = sz) (hs : 0 < sz)
    (hdec : ∀ (n : Nat) (cs : List Value) (y : DataW H × List MemPlace), Reads enc P W n e cs y → Rows.uptoBulk y.1 ≤ N → ∃ z, cs = toC z ∧ Q z) (h : Reads enc P W fuel t cs x) (hb : Rows.uptoBulk x.1 ≤ N) :
    ∃ z : Value × List Z, cs = [z.1] ∧ (∀ h : Hp, Old W h → rdS sz h z.1 z.2.length (z.2.flatMap toC)) ∧ z.2.length ≤ N ∧ ∀ y ∈ z.2, Q y := by
  subst hc
  rcases Go.Deep.open_slice ht h with ⟨rfl, rfl⟩ | ⟨a, len, cap, m, n, Dd, Pl, rfl, -, hl, hm, hmm, rfl, hx⟩
  · exact ⟨(_, []), rfl, fun h _ => .inl ⟨rfl, rfl, none, 0, rfl⟩, by simp, by simp⟩
  · simp only [if_true] at hmm
    subst hmm
    have hbl : len ≤ N := by
      have := bulk_count ((List.range len).map Dd)
      simp only [Rows.uptoBulk] at hb
      rw [List.length_map, List.length_range] at this
      omega
    have hbe : ∀ i, i < len → Rows.uptoBulk (Dd i) ≤ N := fun i hi => by
      have := bulk_part (d := Dd i) (l := (List.range len).map Dd) (List.mem_map_of_mem (by simpa using hi))
      simp only [Rows.uptoBulk] at hb
      omega
    obtain ⟨Zf, hZ⟩ := Go.Deep.choose_lt (α := Z) (p := fun i z => W.cells? 0 (a.add (i * P.cellsOf e)) (P.cellsOf e) = some (toC z) ∧ Q z) (n := len) (fun i hi => by
      obtain ⟨cs', h1, h2⟩ := hx i (by omega)
      obtain ⟨z, rfl, h3⟩ := hdec _ _ _ h2 (hbe i hi)
      exact ⟨z, h1, h3⟩)
    have hlenf : ∀ i, i < len → (toC (Zf i)).length = P.cellsOf e := fun i hi => (World.cells?_some (hZ i hi).1).2.1
    have hflat := flat_at (fun i => toC (Zf i)) len hlenf
    refine ⟨(_, (List.range len).map Zf), rfl, ?_, ?_, ?_⟩
    · intro h hold
      dsimp only
      rw [List.length_map, List.length_range]
      refine rdS_regroup (c1 := len * P.cellsOf e) ?_ hl hs
      have e1 : ((List.range len).map Zf).flatMap toC = (List.range (len * P.cellsOf e)).map (fun j => ((List.range len).flatMap fun i => toC (Zf i)).getD j (.bool false)) := by
        rw [List.flatMap_map]
        apply List.ext_getElem?
        intro j
        rcases Nat.lt_or_ge j (len * P.cellsOf e) with hj | hj
        · rw [List.getElem?_map, List.getElem?_range hj]
          have := (hflat j hj).2
          have hjl : j < ((List.range len).flatMap fun i => toC (Zf i)).length := by omega
          simp only [Option.map_some, List.getD_eq_getElem?_getD, List.getElem?_eq_getElem hjl, Option.getD_some]
        · have : ((List.range len).flatMap fun i => toC (Zf i)).length = len * P.cellsOf e := by
            rcases Nat.eq_zero_or_pos (len * P.cellsOf e) with h0 | h0
            · have : len = 0 := by
                rcases Nat.eq_zero_or_pos len with h1 | h1
                · exact h1
                · have := Nat.mul_pos h1 hs; omega
              subst this; simp
            · exact (hflat 0 h0).2
          rw [List.getElem?_eq_none (by omega), List.getElem?_eq_none (by simpa using hj)]
      rw [e1]
      refine old_rd (W := W) (fun j hj => ?_) (Nat.le_refl _) h hold
      have hi : j / P.cellsOf e < len := Nat.div_lt_of_lt_mul (by rw [Nat.mul_comm]; exact hj)
      have hcell := (World.cells?_some (hZ (j / P.cellsOf e) hi).1).2.2 (j % P.cellsOf e) (Nat.mod_lt _ hs)
      rw [Addr.add_add, Nat.mul_comm, Nat.div_add_mod] at hcell
      rw [hcell]
      obtain ⟨f1, f2⟩ := hflat j hj
      rw [List.getD_eq_getElem?_getD, f1]
      have : j % P.cellsOf e < (toC (Zf (j / P.cellsOf e))).length := by rw [hlenf _ hi]; exact Nat.mod_lt _ hs
      simp [this]
    · dsimp only; rw [List.length_map, List.length_range]; exact hbl
    · intro z hz
      obtain ⟨i, hi, rfl⟩ := List.mem_map.1 hz
      exact (hZ i (by simpa using hi)).2
end
end Go.Proofs.YtnnbelmpbmfdnaaGreatDoor

/- Own work, by program: what the arguments are. -/
namespace Go.Proofs.YtnnbelmpbmfdnaaGreatDoor
open Go Go.ChangeShapes Go.WideShapes Go.ChangeAt Go.RowKit
theorem cells_3 : Tryz.prog.cellsOf 3 = 1 := by kernel_rfl
theorem cells_9 : Tryz.prog.cellsOf 9 = 1 := by kernel_rfl
theorem cells_22 : Tryz.prog.cellsOf 22 = 1 := by kernel_rfl
theorem cells_94 : Tryz.prog.cellsOf 94 = 5 := by kernel_rfl
def okAct (N : Nat) (_p : HP) (z : Ac0) : Prop := (-9223372036854775808 ≤ z.1 ∧ z.1 ≤ 9223372036854775807) ∧ (-9223372036854775808 ≤ z.2.1 ∧ z.2.1 ≤ 9223372036854775807) ∧ (-9223372036854775808 ≤ z.2.2.1 ∧ z.2.2.1 ≤ 9223372036854775807) ∧ z.2.2.2.1.length ≤ N ∧ isCell z.2.2.2.2 = true
set_option maxRecDepth 100000 in
theorem dec_Act {H : Type} {enc : TypeId × Value → H} {W : World} {N : Nat} (n : Nat) (cs : List Value) (y : DataW H × List MemPlace) (h : Reads enc Tryz.prog W n 94 cs y) (hb : Rows.uptoBulk y.1 ≤ N) : ∃ z : Ac0, cs = ac0C z ∧ okAct N (Old W) z := by
  obtain ⟨xs, m, -, rfl, hlen, hxs, hf⟩ := DataW.trod_struct Tryz.underlying94 h
  rw [cells_94] at hlen
  obtain ⟨a0, a1, a2, a3, a4, rfl⟩ : ∃ a0 a1 a2 a3 a4, cs = [a0, a1, a2, a3, a4] := by
    match cs, hlen with
    | [a0, a1, a2, a3, a4], _ => exact ⟨a0, a1, a2, a3, a4, rfl⟩
  obtain ⟨y0, y1, y2, y3, y4, rfl⟩ : ∃ y0 y1 y2 y3 y4, xs = [y0, y1, y2, y3, y4] := by
    match xs, hxs with
    | [y0, y1, y2, y3, y4], _ => exact ⟨y0, y1, y2, y3, y4, rfl⟩
  have f0 := hf 0 _ rfl
  have g0 : Reads enc Tryz.prog W m 3 (([a0, a1, a2, a3, a4] : List Value).drop 0 |>.take (Tryz.prog.cellsOf 3)) y0 := f0
  rw [cells_3] at g0
  have b0 : Rows.uptoBulk y0.1 ≤ N := bulk_agg hb (by simp)
  obtain ⟨z0, e0, q0⟩ := dec_int' Tryz.underlying3 g0
  simp at e0
  have f1 := hf 1 _ rfl
  have g1 : Reads enc Tryz.prog W m 3 (([a0, a1, a2, a3, a4] : List Value).drop 1 |>.take (Tryz.prog.cellsOf 3)) y1 := f1
  rw [cells_3] at g1
  have b1 : Rows.uptoBulk y1.1 ≤ N := bulk_agg hb (by simp)
  obtain ⟨z1, e1, q1⟩ := dec_int' Tryz.underlying3 g1
  simp at e1
  have f2 := hf 2 _ rfl
  have g2 : Reads enc Tryz.prog W m 3 (([a0, a1, a2, a3, a4] : List Value).drop 2 |>.take (Tryz.prog.cellsOf 3)) y2 := f2
  rw [cells_3] at g2
  have b2 : Rows.uptoBulk y2.1 ≤ N := bulk_agg hb (by simp)
  obtain ⟨z2, e2, q2⟩ := dec_int' Tryz.underlying3 g2
  simp at e2
  have f3 := hf 3 _ rfl
  have g3 : Reads enc Tryz.prog W m 9 (([a0, a1, a2, a3, a4] : List Value).drop 3 |>.take (Tryz.prog.cellsOf 9)) y3 := f3
  rw [cells_9] at g3
  have b3 : Rows.uptoBulk y3.1 ≤ N := bulk_agg hb (by simp)
  obtain ⟨z3, e3, q3⟩ := dec_str Tryz.underlying9 g3 b3
  simp at e3
  have f4 := hf 4 _ rfl
  have g4 : Reads enc Tryz.prog W m 22 (([a0, a1, a2, a3, a4] : List Value).drop 4 |>.take (Tryz.prog.cellsOf 22)) y4 := f4
  rw [cells_22] at g4
  obtain ⟨z4, e4, q4⟩ : ∃ z : Value, a4 = z ∧ isCell z = true := ⟨_, rfl, slice_cell Tryz.underlying22 g4⟩
  subst e0
  subst e1
  subst e2
  subst e3
  replace e4 := e4.symm
  subst e4
  exact ⟨(z0, z1, z2, z3, z4), rfl, q0, q1, q2, q3, q4⟩
def okAct1 (N : Nat) (_p : HP) (z : Ac0) : Prop := (-9223372036854775808 ≤ z.1 ∧ z.1 ≤ 9223372036854775807) ∧ (-9223372036854775808 ≤ z.2.1 ∧ z.2.1 ≤ 9223372036854775807) ∧ (-9223372036854775808 ≤ z.2.2.1 ∧ z.2.2.1 ≤ 9223372036854775807) ∧ z.2.2.2.1.length ≤ N ∧ (∃ l : List Ac0, (∀ h : Hp, _p h → rdS 5 h z.2.2.2.2 l.length (l.flatMap (ac0C))) ∧ l.length ≤ N ∧ ∀ y ∈ l, okAct N _p y)
set_option maxRecDepth 100000 in
theorem dec_Act1 {H : Type} {enc : TypeId × Value → H} {W : World} {N : Nat} (n : Nat) (cs : List Value) (y : DataW H × List MemPlace) (h : Reads enc Tryz.prog W n 94 cs y) (hb : Rows.uptoBulk y.1 ≤ N) : ∃ z : Ac0, cs = ac0C z ∧ okAct1 N (Old W) z := by
  obtain ⟨xs, m, -, rfl, hlen, hxs, hf⟩ := DataW.trod_struct Tryz.underlying94 h
  rw [cells_94] at hlen
  obtain ⟨a0, a1, a2, a3, a4, rfl⟩ : ∃ a0 a1 a2 a3 a4, cs = [a0, a1, a2, a3, a4] := by
    match cs, hlen with
    | [a0, a1, a2, a3, a4], _ => exact ⟨a0, a1, a2, a3, a4, rfl⟩
  obtain ⟨y0, y1, y2, y3, y4, rfl⟩ : ∃ y0 y1 y2 y3 y4, xs = [y0, y1, y2, y3, y4] := by
    match xs, hxs with
    | [y0, y1, y2, y3, y4], _ => exact ⟨y0, y1, y2, y3, y4, rfl⟩
  have f0 := hf 0 _ rfl
  have g0 : Reads enc Tryz.prog W m 3 (([a0, a1, a2, a3, a4] : List Value).drop 0 |>.take (Tryz.prog.cellsOf 3)) y0 := f0
  rw [cells_3] at g0
  have b0 : Rows.uptoBulk y0.1 ≤ N := bulk_agg hb (by simp)
  obtain ⟨z0, e0, q0⟩ := dec_int' Tryz.underlying3 g0
  simp at e0
  have f1 := hf 1 _ rfl
  have g1 : Reads enc Tryz.prog W m 3 (([a0, a1, a2, a3, a4] : List Value).drop 1 |>.take (Tryz.prog.cellsOf 3)) y1 := f1
  rw [cells_3] at g1
  have b1 : Rows.uptoBulk y1.1 ≤ N := bulk_agg hb (by simp)
  obtain ⟨z1, e1, q1⟩ := dec_int' Tryz.underlying3 g1
  simp at e1
  have f2 := hf 2 _ rfl
  have g2 : Reads enc Tryz.prog W m 3 (([a0, a1, a2, a3, a4] : List Value).drop 2 |>.take (Tryz.prog.cellsOf 3)) y2 := f2
  rw [cells_3] at g2
  have b2 : Rows.uptoBulk y2.1 ≤ N := bulk_agg hb (by simp)
  obtain ⟨z2, e2, q2⟩ := dec_int' Tryz.underlying3 g2
  simp at e2
  have f3 := hf 3 _ rfl
  have g3 : Reads enc Tryz.prog W m 9 (([a0, a1, a2, a3, a4] : List Value).drop 3 |>.take (Tryz.prog.cellsOf 9)) y3 := f3
  rw [cells_9] at g3
  have b3 : Rows.uptoBulk y3.1 ≤ N := bulk_agg hb (by simp)
  obtain ⟨z3, e3, q3⟩ := dec_str Tryz.underlying9 g3 b3
  simp at e3
  have f4 := hf 4 _ rfl
  have g4 : Reads enc Tryz.prog W m 22 (([a0, a1, a2, a3, a4] : List Value).drop 4 |>.take (Tryz.prog.cellsOf 22)) y4 := f4
  rw [cells_22] at g4
  have b4 : Rows.uptoBulk y4.1 ≤ N := bulk_agg hb (by simp)
  obtain ⟨w4, e4, q4⟩ := dec_sliceU (N := N) (ac0C) (fun y => okAct N (Old W) y) Tryz.underlying22 cells_94 (by decide) (fun n cs y h hb => dec_Act n cs y h hb) g4 b4
  simp at e4
  obtain ⟨z4, l4⟩ := w4
  dsimp only at e4 q4
  subst e0
  subst e1
  subst e2
  subst e3
  replace e4 := e4.symm
  subst e4
  exact ⟨(z0, z1, z2, z3, z4), rfl, q0, q1, q2, q3, ⟨l4, q4⟩⟩
theorem acts1_of {p : HP} {v : Value} {xs : List Ac0} (q : (∀ h : Hp, p h → rdS 5 h v xs.length (xs.flatMap ac0C)) ∧ xs.length ≤ 1048576 ∧ ∀ y ∈ xs, okAct1 1048576 p y) : Acts1 p v xs := by
  obtain ⟨q1, q2, q3⟩ := q
  refine ⟨⟨q1, q2, fun a ha => ?_⟩, fun a ha => ?_⟩
  · obtain ⟨h1, h2, h3, h4, -⟩ := q3 a ha
    exact ⟨h1, h2, h3, h4⟩
  · obtain ⟨-, -, -, -, l, g1, g2, g3⟩ := q3 a ha
    refine ⟨l, ⟨g1, g2, fun s hs => ?_⟩, fun s hs => (g3 s hs).2.2.2.2⟩
    obtain ⟨h1, h2, h3, h4, -⟩ := g3 s hs
    exact ⟨h1, h2, h3, h4⟩
end Go.Proofs.YtnnbelmpbmfdnaaGreatDoor

/- Own work: watchMoves: the walk, brought to the given second form and its card. -/

namespace Go.Proofs.YtnnbelmpbmfdnaaGreatDoor.watchMoves
open Go Go.ChangeShapes Go.WideShapes Go.ChangeAt Go.RowKit
theorem own : ownKnob Tryz.prog.godebug = none := by kernel_rfl
theorem laid : laidOutB Tryz.prog = true := by kernel_rfl
theorem readable : ∀ t ∈ Tryz.f9.params.toList, Tryz.prog.readableRec t = true ∧ t < Tryz.prog.types.size := by
  have h : (Tryz.f9.params.toList.all fun t => Tryz.prog.readableRec t && decide (t < Tryz.prog.types.size)) = true := by kernel_rfl
  intro t ht
  simpa using List.all_eq_true.1 h t ht
set_option maxRecDepth 100000 in
theorem contract (H : Type) (enc : TypeId × Value → H) (W : World) (base : Nat) (args : Array Value) (ds gs : List (DataW H)) (before : List MemPlace)
    (hval : ∀ (j : Nat) t v, Tryz.f9.params[j]? = some t → args[j]? = some v → Value.okWide Tryz.prog W .any base t v)
    (hW : DataW.Whole enc Tryz.prog Tryz.f9.params.toList Rows.watchMovesSpec.vars false W args.toList ds gs before) (hk : Rows.uptoSmall H (ds ++ gs) = true) :
    Calls Tryz.prog 9 args W fun e W' => ∃ v, e = .returned v ∧ Rows.watchMovesSpec.post enc Tryz.prog Tryz.f9 false true false false W args v W' := by
  have hW' := hW
  obtain ⟨p, q, hA, hV, rfl, hfz, hnd⟩ := hW
  obtain ⟨rfl, -⟩ := trodVars_none hV
  rw [List.append_nil] at hk
  have hpar : Tryz.f9.params = #[22, 9, 3, 3, 3] := Tryz.params9
  rw [hpar] at hval
  have hA' := hA
  rw [hpar] at hA'
  obtain ⟨v0, vs0, d0, ds0, p0, r0, ha0, rfl, rfl, h0, t0⟩ := trodAll_cons hA'
  obtain ⟨v1, vs1, d1, ds1, p1, r1, ha1, rfl, rfl, h1, t1⟩ := trodAll_cons t0
  obtain ⟨v2, vs2, d2, ds2, p2, r2, ha2, rfl, rfl, h2, t2⟩ := trodAll_cons t1
  obtain ⟨v3, vs3, d3, ds3, p3, r3, ha3, rfl, rfl, h3, t3⟩ := trodAll_cons t2
  obtain ⟨v4, vs4, d4, ds4, p4, r4, ha4, rfl, rfl, h4, t4⟩ := trodAll_cons t3
  obtain ⟨hv, rfl, rfl⟩ := trodAll_nil t4
  obtain rfl : args = #[v0, v1, v2, v3, v4] := by
    have e : args.toList = [v0, v1, v2, v3, v4] := by rw [ha0, ha1, ha2, ha3, ha4, hv]
    cases args; simp_all
  have b0 := bulk_small hk (d := d0) (by simp)
  obtain ⟨ad0, nn0, cp0, rfl⟩ := okWide_slice Tryz.underlying22 (hval 0 _ _ rfl rfl)
  obtain ⟨fu0, g0⟩ := h0
  obtain ⟨z0, e0, q0⟩ := dec_sliceU (N := 1048576) (ac0C) (fun y => okAct1 1048576 (Old W) y) Tryz.underlying22 cells_94 (by decide) (fun n cs y h hb => dec_Act1 n cs y h hb) g0 b0
  simp [Value.cells] at e0
  obtain ⟨v0, xs0⟩ := z0
  dsimp only at e0 q0
  subst e0
  have b1 := bulk_small hk (d := d1) (by simp)
  obtain ⟨fu1, g1⟩ := h1
  obtain ⟨s1, e1, q1⟩ := dec_str Tryz.underlying9 g1 b1
  obtain ⟨s1', rfl⟩ := okWide_string Tryz.underlying9 (hval 1 _ _ rfl rfl)
  obtain rfl : s1' = bs s1 := by simpa [vstr, Value.cells] using e1
  have b2 := bulk_small hk (d := d2) (by simp)
  obtain ⟨n2, rfl, -, q2⟩ := arg_int Tryz.underlying3 (hval 2 _ _ rfl rfl) h2
  have b3 := bulk_small hk (d := d3) (by simp)
  obtain ⟨n3, rfl, -, q3⟩ := arg_int Tryz.underlying3 (hval 3 _ _ rfl rfl) h3
  have b4 := bulk_small hk (d := d4) (by simp)
  obtain ⟨n4, rfl, -, q4⟩ := arg_int Tryz.underlying3 (hval 4 _ _ rfl rfl) h4
  refine (old_calls (wmoves11_spec _ xs0 s1 n2 n3 n4 (Old W) (acts1_of q0) q1 q2 q3 q4)).mono fun e W' ⟨he, hb⟩ => ⟨_, he, ?_⟩
  exact settled hW' rfl (fun gs' h => by subst h; rfl) rfl Tryz.underlying4 laid readable hb
/-- A world for the witness: the two tables that the row lists, as they are laid. -/
def cellsTo (l : List Value) : Obj → Obj
  | .cells _ t frozen => .cells l.toArray t frozen
  | o => o
noncomputable def laidWorld (os : Os) : World :=
  let w := World.holding Tryz.prog os ⟨#[], #[], []⟩
  { w with heap := (w.heap.modify 1 (cellsTo (Pinned.utf8FirstZ.map fun (n : Nat) => Value.int .u8 n))).modify 2 (cellsTo [.int .u8 128, .int .u8 191, .int .u8 160, .int .u8 191, .int .u8 128, .int .u8 159, .int .u8 144, .int .u8 191, .int .u8 128, .int .u8 143, .int .u8 0, .int .u8 0, .int .u8 0, .int .u8 0, .int .u8 0, .int .u8 0, .int .u8 0, .int .u8 0, .int .u8 0, .int .u8 0, .int .u8 0, .int .u8 0, .int .u8 0, .int .u8 0, .int .u8 0, .int .u8 0, .int .u8 0, .int .u8 0, .int .u8 0, .int .u8 0, .int .u8 0, .int .u8 0]) }
theorem laid_met (os : Os) : laidMet Tryz.prog Rows.watchMovesUptoRow.laid ((laidWorld os).forCall (fun _ _ => 0) ⟨#[], #[.slice none 0 0, vstr [], .int .i64 0, .int .i64 0, .int .i64 0], []⟩).memory :=
  laidMet_of_run' 8 (by kernel_rfl) (by kernel_rfl)
theorem reads (os : Os) {H : Type} (enc : TypeId × Value → H) : ∃ places, DataW.whole enc Tryz.prog ((laidWorld os).forCall (fun _ _ => 0) ⟨#[], #[.slice none 0 0, vstr [], .int .i64 0, .int .i64 0, .int .i64 0], []⟩).memory Tryz.f9.params.toList Rows.watchMovesSpec.vars false (#[.slice none 0 0, vstr [], .int .i64 0, .int .i64 0, .int .i64 0] : Array Value).toList 8 = some ([.nil, .lit (.string []), .lit (.int .i64 0), .lit (.int .i64 0), .lit (.int .i64 0)], [], places) :=
  ⟨[], by kernel_rfl⟩
set_option maxRecDepth 100000 in
theorem lifted (os : Os) (started : os.Started) (H : Type) (enc : TypeId × Value → H) (F : Stop.Interp) :
    ReturnsInHanded {} Tryz.checked os 9 .any ((Rows.OpenSpec.upto Rows.watchMovesSpec).preRow enc Tryz.prog Tryz.f9 Rows.watchMovesUptoRow.domain false Rows.watchMovesUptoRow.laid) (((Rows.OpenSpec.upto Rows.watchMovesSpec).at F).post enc Tryz.prog Tryz.f9 false true false false) := by
  obtain ⟨places, hx⟩ := reads os enc
  refine returnsInHanded_of_row (C := Tryz.checked) (s := Rows.OpenSpec.upto Rows.watchMovesSpec) own started (by kernel_rfl) Tryz.func9
    (witness_row_at (enc := enc) (C := Tryz.checked) false (laidWorld os) #[.slice none 0 0, vstr [], .int .i64 0, .int .i64 0, .int .i64 0] rfl (by kernel_rfl) (by kernel_rfl) (by kernel_rfl)
      (OpenSpec.preRow_of_cond 8 hx (by kernel_rfl) (fun k hk => by cases hk; kernel_rfl) (by kernel_rfl) (laid_met os))) ?_
  intro W base args ds gs before hval hW _ hcond _ _ _ _
  exact contract H enc W base args ds gs before hval hW (hcond _ rfl)
theorem saidUpto : Rows.WatchMovesUptoSaid :=
  OpenClaim.holds_of_cond 9 Tryz.f9 rfl rfl rfl rfl rfl rfl rfl ⟨rfl, rfl, rfl, rfl, rfl⟩ rfl rfl rfl rfl rfl (by kernel_rfl) Tryz.func9 (by kernel_rfl)
    (of_decide_eq_true (by kernel_rfl)) (by unfold Func.isWrapper; first | (rw [if_pos (by decide +kernel)]; kernel_rfl) | (rw [if_neg (by decide +kernel)]; exact ⟨rfl, rfl⟩))
    (fun os started H enc _ F => by rw [OpenClaim.pre_eq_preRow]; exact lifted os started H enc F)
theorem plain (f : FuncId) (fn : Func) (hf : Tryz.pinned.checked.prog.funcNamed "arboretum/arboretumlaw11.WatchMoves" = some f) (hfn : Tryz.pinned.checked.prog.funcs[f]? = some fn) :
    true = Tryz.pinned.checked.prog.looks [] ∧ ∀ (j : Nat) t, fn.params[j]? = some t → Tryz.pinned.checked.prog.wantsStandIn t = false := by
  obtain rfl : f = 9 := Option.some.inj ((show Tryz.prog.funcNamed "arboretum/arboretumlaw11.WatchMoves" = some 9 by kernel_rfl).symm.trans hf) |>.symm
  obtain rfl : fn = Tryz.f9 := (Option.some.inj (Tryz.func9.symm.trans hfn)).symm
  refine ⟨by kernel_rfl, fun j t ht => ?_⟩
  have h : (Tryz.f9.params.toList.all fun t => !Tryz.pinned.checked.prog.wantsStandIn t) = true := by kernel_rfl
  have h2 := List.all_eq_true.1 h t (Array.mem_def.1 (Array.mem_of_getElem? ht))
  simpa using h2
theorem proved : Rows.WatchMovesUptoCardSaid :=
  Claim7.holds_tied_plain_at .later [] _ _ _ _ saidUpto (fun _ h => by cases h) (by kernel_rfl) (fun _ h => by cases h) watchMovesUpto_row_tie rfl ⟨rfl, rfl⟩ (by kernel_rfl) rfl plain (by kernel_rfl)
end Go.Proofs.YtnnbelmpbmfdnaaGreatDoor.watchMoves

