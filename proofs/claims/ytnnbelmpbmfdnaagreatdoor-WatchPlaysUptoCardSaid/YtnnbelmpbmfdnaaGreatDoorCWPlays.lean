/- Own work, some of it printed by program, texts that were built one by one and are laid one behind the other here: law 11: arms, steps, WatchPlays: walked. | from what a call is given to the atoms of SlCore, and back to what a statement asks. | strings and rows of strings as arguments. | nested arguments decoded: slices of structs, and what the row says of their weight. | arguments of a bounded bulk (the second form's bound), decoded. | what the arguments are. | watchPlays: the walk, brought to the given second form and its card. -/
import Derived.Test.YtnnbelmpbmfdnaaGreatDoorCWPlaysP4
import Derived.Test.YtnnbelmpbmfdnaaGreatDoorCWPlaysP0
import Derived.Test.YtnnbelmpbmfdnaaGreatDoorRows
import Derived.WalkKit
import Derived.ProofKit
import Derived.OpenShut
import Derived.JoinedCond
import Derived.Carry
import Derived.Deep.Grids
import Derived.Handed
import Derived.Deep.Strs
import Derived.Test.YtnnbelmpbmfdnaaGreatDoorCards
import Derived.Test.YtnnbelmpbmfdnaaGreatDoorTie
import Derived.Deep.DeepHandedRow
import Derived.Lib.LaidTab
set_option linter.unusedSimpArgs false
set_option linter.unusedVariables false
/- Own work, by program: law 11: arms, steps, WatchPlays: walked. -/

namespace Go.Proofs.YtnnbelmpbmfdnaaGreatDoor
open Go
set_option maxRecDepth 100000 in
theorem arms11_spec (s w t x y : Nat) (ω : List Wt) (τ : Tr) (se : Int) (va : Value) (l : List Arm) (p : HP) (hl : ArmsA p va l) (N : Nat) (ho : τ.Ok N) (hN : N ≤ 1073741824) (M : Nat) (hk : Wk ω M) (hM : M + l.length ≤ 1048576) (hse : se ≤ 9223372036854775807) : Fn Tryz.prog 88 #[vptr s, vint se, vptr t, va] [ptc s [vptr w, vptr t, vptr x, vptr y] 88, tbR w ω, treeR t τ, rwR x ω, refR y τ, p] fun r L => r = .bool true ∧ L = [ptc s [vptr w, vptr t, vptr x, vptr y] 88, tbR w (armZ τ se ω l).1, treeR t τ, rwR x (armZ τ se ω l).1, refR y τ, p] := by
 refine Fn.intro (vs := [vptr s, vint se, vptr t, va]) Tryz.func88 rfl rfl ?_
 intro F W
 refine G.rdAny (p := p) hl.cells (by (repeat' constructor)) fun aa ca e0 _ => ?_
 subst e0
 have hll := hl.len
 have hzl := armZ_len τ se ω l
 refine G.seq (G.region (G.q (Quiet.assign rfl) rfl (G.nil (G.then_n (G.seq (G.add (slR_nil 70 5) (G.region (G.q (Quiet.move rfl) rfl ?_))))))))
 refine G.op (OpSpec.append (n := 0) (m := l.length) (ys := l.flatMap armC) (p := p) rfl rfl rfl el_82 (.inl ⟨_, Tryz.underlying82⟩) ze_70 rfl rfl ?hc3 hl.cells ?hb4 (by decide)) (by (repeat' constructor)) rfl ?nx5
 case hc3 => exact armC_cells _
 case hb4 => omega
 rintro v L' ⟨⟨a3, c3, rfl⟩, rfl⟩; rw [Nat.zero_add, List.nil_append]
 refine G.q (Quiet.to (v' := .agg (armC arm77).toArray) (Quiet.build (us := [(0, _)]) fl_70 ze_70 rfl rfl (by simp [isCell])) rfl) rfl ?_
 refine G.op (OpSpec.buildSlice (vs := [_]) el_82 ze_70 rfl rfl rfl rfl (by first | (simp [Value.cells]; done) | (intro v hv; simp only [List.mem_cons, List.not_mem_nil, or_false] at hv; (repeat (first | (subst hv; rfl) | (rcases hv with hv | hv; (subst hv; rfl)))))) (by decide)) (by (repeat' constructor)) rfl ?nx8
 rintro v L' ⟨b4, rfl, rfl⟩
 refine G.op (OpSpec.shapedW (k := l.length + 1) ?hk10 (OpSpec.append1 rfl rfl rfl el_82 ze_70 rfl rfl ?h111 ?h212 (Nat.le_refl _) ?h313 (by decide))) (by (repeat' constructor)) rfl ?nx14
 case hk10 => omega
 case h111 => simp only [List.map_cons, List.map_nil, List.flatten_cons, List.flatten_nil, List.append_nil]; simp [Value.cells, armC, isCell]
 case h212 => rfl
 case h313 => omega
 rintro v L' ⟨b6, c6, hc6, rfl, rfl⟩
 refine G.q (Quiet.move rfl) rfl (G.q (Quiet.slen rfl Tryz.underlying82 rfl) rfl ?_)
 refine G.q (Quiet.to (v' := (.slice (some ⟨b6, 0, none⟩) l.length c6)) (Quiet.slTo rfl el_82 rfl (by omega) (.inr ⟨_, _, rfl⟩)) (by simp)) rfl ?_
 refine G.q (Quiet.assign rfl) rfl (G.nil ?_)
 refine G.slCast (T := 70) (sz := 5) (m' := l.length + 1) (xs' := (l ++ [arm77]).flatMap armC) (by (repeat' constructor)) rfl (by rw [List.flatMap_append]; rfl) ?_
 refine G.then_n (G.seq (G.region (G.q (Quiet.move rfl) rfl (G.q (Quiet.nilp rfl) rfl (G.q (Quiet.fieldAddr rfl fo_88_0) rfl ?_)))))
 refine G.q (Quiet.load rfl ag_67 (by (repeat' constructor)) (rfl)) rfl ?_
 refine G.q (Quiet.move rfl) rfl (G.q (Quiet.move rfl) rfl (G.q (Quiet.move rfl) rfl ?_))
 refine G.op (OpSpec.call Tryz.func36 rfl rfl (vs := [_, _, _, _]) rfl (warmZ_spec w t ω τ se _ l (slR 70 5 (.slice (some ⟨b6, 0, none⟩) (l.length + 1) c6) (l.length + 1) ((l ++ [arm77]).flatMap armC)) ⟨lent_rdA, hl.len, hl.paths⟩ N ho (by omega) hse)) (by (repeat' constructor)) rfl ?nx25
 rintro v L' ⟨a2, c2, rfl, rfl⟩
 refine G.q (Quiet.assign rfl) rfl (G.nil (G.then_n (G.seq (G.region (G.q (Quiet.move rfl) rfl (G.q (Quiet.move rfl) rfl (G.q (Quiet.slen rfl Tryz.underlying82 rfl) rfl ?_)))))))
 refine G.q (Quiet.add rfl rfl (by omega)) rfl ?_
 refine G.q (Quiet.to (v' := (.slice (some ⟨b6, 0, none⟩) (l.length + 1) c6)) (Quiet.slTo rfl el_82 rfl (by omega) (.inr ⟨_, _, rfl⟩)) (by simp)) rfl ?_
 refine G.q (Quiet.move rfl) rfl (G.q (Quiet.slen rfl Tryz.underlying82 rfl) rfl ?_)
 refine G.q (Quiet.indexAddr rfl rfl el_82 (by omega)) rfl ?_
 refine G.q (Quiet.fieldAddr rfl fo_70_0) rfl ?_
 refine G.q (Quiet.loadRd (sz := 5) (j := l.length * 5 + 0) (p := slR 70 5 (.slice (some ⟨b6, 0, none⟩) (l.length + 1) c6) (l.length + 1) ((l ++ [arm77]).flatMap armC)) (v := vint 77) rfl ag_3 (by (repeat' constructor)) (fun h hp => slR_rd hp) (by omega) (overA_at l)) rfl ?_
 refine G.q (Quiet.as (v' := .bool true) (by rfl) (Quiet.int rfl rfl rfl)) rfl ?_
 refine G.q (Quiet.assign rfl) rfl (G.nil (G.then_n (G.seq (G.seq (G.region (G.q (Quiet.assign rfl) rfl (G.nil (G.then_n (G.block ?_)))))))))
 refine G.loopK (ι := Nat) (fun q E => (12, vint q) :: (11, .bool true) :: E) (fun q => []) (fun q => q ≤ l.length) (fun q => l.length - q) (0) (ts := [0, 1, 2, 3, 8, 9, 10]) (.cons rfl (.cons rfl (.cons rfl (.cons rfl (.cons rfl (.cons rfl (.cons rfl (.nil)))))))) (Nat.zero_le _) ⟨rfl, rfl, rfl, rfl, rfl, rfl, rfl, rfl, rfl, trivial⟩ (by (repeat' constructor)) ?_
 rintro i hi
 refine G.seq (G.seq (G.region (G.q (Quiet.move rfl) rfl (G.q (Quiet.move rfl) rfl (G.q (Quiet.slen rfl Tryz.underlying82 rfl) rfl (G.q (Quiet.int rfl rfl rfl) rfl (G.nil (G.then_n ?_))))))))
 refine G.condD rfl (fun h46 => ?_) (fun h46 => ?_)
 ·have hi2 : i < l.length := by omega
  refine G.rdShape (p := p) hl.cells (by (repeat' constructor)) (by omega) fun bl ol e1 => ?_
  subst e1
  refine G.skip (G.then_n (G.seq (G.block ?_)))
  refine G.draw [] [[0, 1, 2, 3, 4, 5, 6, 7, 8, 9, 10, 11, 12]] mixed (by kernel_rfl) ?_
  refine Phases.go [] (by (repeat' constructor)) ?_
  refine D.qw [1, 2, 3, 4, 5, 6, 7, 8, 9, 10, 11, 12] rfl (by kernel_rfl) (Quiet.move rfl) ?_
  refine D.qw [2, 3, 4, 5, 6, 7, 8, 9, 10, 11, 12] rfl (by kernel_rfl) (Quiet.move rfl) ?_
  refine D.gqw [4, 5, 10, 11, 12] (t := 50) rfl rfl rfl (by kernel_rfl) (Quiet.move rfl) ?_
  refine D.gqw [4, 5, 10, 11, 12] (t := 50) rfl rfl rfl (by kernel_rfl) (Quiet.move rfl) ?_
  refine D.gqw [5, 10, 11, 12] (t := 50) rfl rfl rfl (by kernel_rfl) (Quiet.indexAddr rfl rfl el_82 (by omega)) ?_
  refine D.gqw [10, 11, 12] (t := 50) rfl rfl rfl (by kernel_rfl) (Quiet.loadRdA (sz := 5) (j := i * 5) (k := 5) (p := slR 70 5 (.slice (some ⟨b6, 0, none⟩) (l.length + 1) c6) (l.length + 1) ((l ++ [arm77]).flatMap armC)) (vs := armC l[i]) rfl ag_70 (by (repeat' constructor)) (fun h hp => slR_rd hp) (by simp) (by omega) (by omega) (overA_el l hi2)) ?_
  refine D.gqw [8, 9, 10, 11, 12] (t := 50) rfl rfl rfl (by kernel_rfl) (Quiet.move rfl) ?_
  refine D.gqw [8, 9, 10, 11, 12] (t := 50) rfl rfl rfl (by kernel_rfl) (Quiet.move rfl) ?_
  refine D.gqw [9, 10, 11, 12] (t := 50) rfl rfl rfl (by kernel_rfl) (Quiet.indexAddr rfl rfl el_82 (by omega)) ?_
  refine D.gqw [10, 11, 12] (t := 50) rfl rfl rfl (by kernel_rfl) (Quiet.loadRdA (sz := 5) (j := i * 5) (k := 5) (p := p) (vs := armC l[i]) rfl ag_70 (by (repeat' constructor)) hl.cells (by simp) (by omega) (by omega) (flatMap_at (f := armC) (sz := 5) (fun _ _ => rfl) (by omega))) ?_
  refine D.gqw [11, 12] (t := 50) rfl rfl rfl (by kernel_rfl) (Quiet.to (v' := .bool true) (Quiet.structEq (r := decide (l[i] = l[i])) rfl rfl (by kernel_rfl) (arm_eq 9998 _ _)) (by simp)) ?_
  refine D.qw [12] rfl (by kernel_rfl) (Quiet.pickT rfl rfl) ?_
  refine D.qw [] rfl (by kernel_rfl) (Quiet.assign rfl) ?_
  refine D.ph (Phases.fin (G.blk_n (G.then_n (G.region (G.q (Quiet.move rfl) rfl ?_)))))
  refine G.q (Quiet.add rfl rfl (by omega)) rfl ?_
  refine G.q (Quiet.assign rfl) rfl (G.nil (G.then_n ?_))
  exact G.roundK (i + 1) (by omega) (by omega) ⟨rfl, rfl, rfl, rfl, rfl, rfl, rfl, rfl, rfl, trivial⟩ (by (repeat' constructor)) (by ((repeat (apply Have.cons; (repeat (first | exact Pick.here | apply Pick.there)))); apply Have.base; repeat' constructor))
 ·refine G.exit (G.then_e (G.then_e (G.blk_e (G.then_n (G.seq (G.region (G.q (Quiet.assign rfl) rfl (G.nil (G.then_n (G.seq (G.seq (G.region (G.q (Quiet.move rfl) rfl ?_)))))))))))))
  refine G.q (Quiet.as (v' := .bool true) (by rfl) (Quiet.ptrne rfl rfl Tryz.underlying28)) rfl ?_
  refine G.nil (G.then_n (G.condT rfl ?_))
  refine G.draw [10] [[0, 1, 2, 3, 4, 5, 6, 7, 8, 9, 10], [11]] mixed (by kernel_rfl) ?_
  refine Phases.go [] (by (repeat' constructor)) ?_
  refine D.qw [1, 2, 3, 10] rfl (by kernel_rfl) (Quiet.move rfl) ?_
  refine D.qw [2, 3, 10] rfl (by kernel_rfl) (Quiet.nilp rfl) ?_
  refine D.qw [3, 10] rfl (by kernel_rfl) (Quiet.fieldAddr rfl fo_88_2) ?_
  refine D.qw [10] rfl (by kernel_rfl) (Quiet.load rfl ag_86 (by (repeat' constructor)) (rfl)) ?_
  refine D.qw [10] rfl (by kernel_rfl) (Quiet.move rfl) ?_
  refine D.qw [6, 7, 8, 10] rfl (by kernel_rfl) (Quiet.move rfl) ?_
  refine D.qw [7, 8, 10] rfl (by kernel_rfl) (Quiet.nilp rfl) ?_
  refine D.qw [8, 10] rfl (by kernel_rfl) (Quiet.fieldAddr rfl fo_88_3) ?_
  refine D.qw [10] rfl (by kernel_rfl) (Quiet.load rfl ag_25 (by (repeat' constructor)) (rfl)) ?_
  refine D.qw [10] rfl (by kernel_rfl) (Quiet.move rfl) ?_
  refine D.h rfl (by kernel_rfl) (OpSpec.call Tryz.func117 rfl rfl (vs := [_, _, _, _]) rfl (rwarm_spec x y ω τ se _ l p hl N ho hN M hk hM)) (by (repeat' constructor)) ?nx67
  rintro v L' ⟨a5, c5, rfl, rfl⟩
  refine D.ph ?_
  refine Phases.go [] (by (repeat' constructor)) ?_
  refine D.qw [] rfl (by kernel_rfl) (Quiet.assign rfl) ?_
  refine D.ph (Phases.fin (G.then_n (G.seq (G.region (G.q (Quiet.move rfl) rfl (G.q (Quiet.move rfl) rfl ?_))))))
  refine G.op (OpSpec.call Tryz.func42 rfl rfl (vs := [_, _]) rfl (evsR_spec (armZ τ se ω l).2 (armZ τ se ω l).2 _ _ (slR 75 3 (.slice a2 (armZ τ se ω l).2.length c2) (armZ τ se ω l).2.length ((armZ τ se ω l).2.flatMap evC)) (slR 75 3 (.slice a5 (armZ τ se ω l).2.length c5) (armZ τ se ω l).2.length ((armZ τ se ω l).2.flatMap evC)) (fun h hp => slR_rd hp) (fun h hp => slR_rd hp) (by omega))) (by (repeat' constructor)) rfl ?nx70
  rintro v L' ⟨rfl, rfl⟩; rw [decide_eq_true rfl]
  refine G.q (Quiet.assign rfl) rfl (G.nil (G.then_n (G.seq (G.seq (G.region (G.q (Quiet.assign rfl) rfl (G.nil (G.then_n (G.block ?_)))))))))
  refine G.loopK (ι := Nat × (List Value)) (fun q E => (15, vint q.1) :: E) (fun q => [slR 75 3 (.slice a2 (armZ τ se ω l).2.length c2) (armZ τ se ω l).2.length q.2]) (fun q => q.1 ≤ (armZ τ se ω l).2.length) (fun q => (armZ τ se ω l).2.length - q.1) (0, (armZ τ se ω l).2.flatMap evC) (ts := [8, 10, 11, 14]) (.cons rfl (.cons rfl (.cons rfl (.cons rfl (.nil))))) (Nat.zero_le _) ⟨rfl, rfl, rfl, rfl, rfl, trivial⟩ (by (repeat' constructor)) ?_
  rintro ⟨j, ys⟩ hj
  dsimp only
  dsimp only at hj
  refine G.seq (G.seq (G.region (G.q (Quiet.move rfl) rfl (G.q (Quiet.move rfl) rfl (G.q (Quiet.slen rfl Tryz.underlying30 rfl) rfl (G.q (Quiet.int rfl rfl rfl) rfl (G.nil (G.then_n ?_))))))))
  refine G.condD rfl (fun h80 => ?_) (fun h80 => ?_)
  ·have hj2 : j < (armZ τ se ω l).2.length := by omega
   refine G.slShape (T := 75) (sz := 3) (v := .slice a2 (armZ τ se ω l).2.length c2) (xs := ys) (by (repeat' constructor)) (by omega) fun bo bo' e0 mbo _ => ?_
   simp only [Value.slice.injEq, true_and] at e0
   obtain ⟨rfl, rfl⟩ := e0
   refine G.skip (G.then_n (G.seq (G.block (G.region (G.q (Quiet.move rfl) rfl (G.q (Quiet.move rfl) rfl ?_))))))
   refine G.q (Quiet.to (v' := .agg (evC ((-1, ([], 0)) : Ev)).toArray) (Quiet.build (us := [(0, _)]) fl_75 ze_75 rfl rfl (by simp [isCell])) rfl) rfl ?_
   refine G.q (Quiet.indexAddr rfl rfl el_30 (by omega)) rfl ?_
   refine G.op (OpSpec.storeRdA (sz := 3) (j := j * 3) (k := 3) (vs := evC ((-1, ([], 0)) : Ev)) rfl rfl (by simp [evC, isCell]) sz_75 rfl ?ho81 ?hi82) (by (repeat' constructor)) rfl ?nx83
   case ho81 => omega
   case hi82 => omega
   rintro v L' rfl
   refine G.nil (G.blk_n (G.then_n (G.region (G.q (Quiet.move rfl) rfl ?_))))
   refine G.q (Quiet.add rfl rfl (by omega)) rfl ?_
   refine G.q (Quiet.assign rfl) rfl (G.nil (G.then_n ?_))
   exact G.roundK ((j + 1, spl ys (j * 3) (evC ((-1, ([], 0)) : Ev)))) (by dsimp only; omega) (by dsimp only; omega) ⟨rfl, rfl, rfl, rfl, rfl, trivial⟩ (by (repeat' constructor)) (by ((repeat (apply Have.cons; (repeat (first | exact Pick.here | apply Pick.there)))); apply Have.base; repeat' constructor))
  ·refine G.exit (G.then_e (G.then_e (G.blk_e (G.then_n (G.seq (G.region (G.q (Quiet.move rfl) rfl (G.q (Quiet.move rfl) rfl (G.grun (t := 88) rfl rfl rfl (G.q (Quiet.move rfl) rfl (G.q (Quiet.pickT rfl rfl) rfl (G.q (Quiet.assign rfl) rfl (G.nil (G.then_n (G.ret ?_)))))))))))))))
   exact G.done (l := [.tmp 8]) rfl rfl ⟨rfl, rfl⟩ (by (repeat' constructor)) (by (repeat' constructor))

set_option maxRecDepth 100000 in
theorem arms11n_spec (s w t x y : Nat) (se : Int) (va : Value) (l : List Arm) (p : HP) (hl : ArmsA p va l) : Fn Tryz.prog 88 #[vptr s, vint se, .pointer none, va] [ptc s [vptr w, vptr t, vptr x, vptr y] 88, p] fun r L => r = .bool true ∧ L = [ptc s [vptr w, vptr t, vptr x, vptr y] 88, p] := by
 refine Fn.intro (vs := [vptr s, vint se, .pointer none, va]) Tryz.func88 rfl rfl ?_
 intro F W
 refine G.rdAny (p := p) hl.cells (by (repeat' constructor)) fun aa ca e0 _ => ?_
 subst e0
 have hll := hl.len
 refine G.seq (G.region (G.q (Quiet.assign rfl) rfl (G.nil (G.then_n (G.seq (G.add (slR_nil 70 5) (G.region (G.q (Quiet.move rfl) rfl ?_))))))))
 refine G.op (OpSpec.append (n := 0) (m := l.length) (ys := l.flatMap armC) (p := p) rfl rfl rfl el_82 (.inl ⟨_, Tryz.underlying82⟩) ze_70 rfl rfl ?hc3 hl.cells ?hb4 (by decide)) (by (repeat' constructor)) rfl ?nx5
 case hc3 => exact armC_cells _
 case hb4 => omega
 rintro v L' ⟨⟨a3, c3, rfl⟩, rfl⟩; rw [Nat.zero_add, List.nil_append]
 refine G.q (Quiet.to (v' := .agg (armC arm77).toArray) (Quiet.build (us := [(0, _)]) fl_70 ze_70 rfl rfl (by simp [isCell])) rfl) rfl ?_
 refine G.op (OpSpec.buildSlice (vs := [_]) el_82 ze_70 rfl rfl rfl rfl (by first | (simp [Value.cells]; done) | (intro v hv; simp only [List.mem_cons, List.not_mem_nil, or_false] at hv; (repeat (first | (subst hv; rfl) | (rcases hv with hv | hv; (subst hv; rfl)))))) (by decide)) (by (repeat' constructor)) rfl ?nx8
 rintro v L' ⟨b4, rfl, rfl⟩
 refine G.op (OpSpec.shapedW (k := l.length + 1) ?hk10 (OpSpec.append1 rfl rfl rfl el_82 ze_70 rfl rfl ?h111 ?h212 (Nat.le_refl _) ?h313 (by decide))) (by (repeat' constructor)) rfl ?nx14
 case hk10 => omega
 case h111 => simp only [List.map_cons, List.map_nil, List.flatten_cons, List.flatten_nil, List.append_nil]; simp [Value.cells, armC, isCell]
 case h212 => rfl
 case h313 => omega
 rintro v L' ⟨b6, c6, hc6, rfl, rfl⟩
 refine G.q (Quiet.move rfl) rfl (G.q (Quiet.slen rfl Tryz.underlying82 rfl) rfl ?_)
 refine G.q (Quiet.to (v' := (.slice (some ⟨b6, 0, none⟩) l.length c6)) (Quiet.slTo rfl el_82 rfl (by omega) (.inr ⟨_, _, rfl⟩)) (by simp)) rfl ?_
 refine G.q (Quiet.assign rfl) rfl (G.nil ?_)
 refine G.slCast (T := 70) (sz := 5) (m' := l.length + 1) (xs' := (l ++ [arm77]).flatMap armC) (by (repeat' constructor)) rfl (by rw [List.flatMap_append]; rfl) ?_
 refine G.then_n (G.seq (G.region (G.q (Quiet.move rfl) rfl (G.q (Quiet.nilp rfl) rfl (G.q (Quiet.fieldAddr rfl fo_88_0) rfl ?_)))))
 refine G.q (Quiet.load rfl ag_67 (by (repeat' constructor)) (rfl)) rfl ?_
 refine G.q (Quiet.move rfl) rfl (G.q (Quiet.move rfl) rfl (G.q (Quiet.move rfl) rfl ?_))
 refine G.op (OpSpec.call Tryz.func36 rfl rfl (vs := [_, _, _, _]) rfl (warmN_spec _ _ _)) (by (repeat' constructor)) rfl ?nx25
 rintro v L' ⟨rfl, rfl⟩
 refine G.q (Quiet.assign rfl) rfl (G.nil (G.then_n (G.seq (G.region (G.q (Quiet.move rfl) rfl (G.q (Quiet.move rfl) rfl (G.q (Quiet.slen rfl Tryz.underlying82 rfl) rfl ?_)))))))
 refine G.q (Quiet.add rfl rfl (by omega)) rfl ?_
 refine G.q (Quiet.to (v' := (.slice (some ⟨b6, 0, none⟩) (l.length + 1) c6)) (Quiet.slTo rfl el_82 rfl (by omega) (.inr ⟨_, _, rfl⟩)) (by simp)) rfl ?_
 refine G.q (Quiet.move rfl) rfl (G.q (Quiet.slen rfl Tryz.underlying82 rfl) rfl ?_)
 refine G.q (Quiet.indexAddr rfl rfl el_82 (by omega)) rfl ?_
 refine G.q (Quiet.fieldAddr rfl fo_70_0) rfl ?_
 refine G.q (Quiet.loadRd (sz := 5) (j := l.length * 5 + 0) (p := slR 70 5 (.slice (some ⟨b6, 0, none⟩) (l.length + 1) c6) (l.length + 1) ((l ++ [arm77]).flatMap armC)) (v := vint 77) rfl ag_3 (by (repeat' constructor)) (fun h hp => slR_rd hp) (by omega) (overA_at l)) rfl ?_
 refine G.q (Quiet.as (v' := .bool true) (by rfl) (Quiet.int rfl rfl rfl)) rfl ?_
 refine G.q (Quiet.assign rfl) rfl (G.nil (G.then_n (G.seq (G.seq (G.region (G.q (Quiet.assign rfl) rfl (G.nil (G.then_n (G.block ?_)))))))))
 refine G.loopK (ι := Nat) (fun q E => (12, vint q) :: (11, .bool true) :: E) (fun q => []) (fun q => q ≤ l.length) (fun q => l.length - q) (0) (ts := [0, 1, 2, 3, 8, 9, 10]) (.cons rfl (.cons rfl (.cons rfl (.cons rfl (.cons rfl (.cons rfl (.cons rfl (.nil)))))))) (Nat.zero_le _) ⟨rfl, rfl, rfl, rfl, rfl, rfl, rfl, rfl, rfl, trivial⟩ (by (repeat' constructor)) ?_
 rintro i hi
 refine G.seq (G.seq (G.region (G.q (Quiet.move rfl) rfl (G.q (Quiet.move rfl) rfl (G.q (Quiet.slen rfl Tryz.underlying82 rfl) rfl (G.q (Quiet.int rfl rfl rfl) rfl (G.nil (G.then_n ?_))))))))
 refine G.condD rfl (fun h46 => ?_) (fun h46 => ?_)
 ·have hi2 : i < l.length := by omega
  refine G.rdShape (p := p) hl.cells (by (repeat' constructor)) (by omega) fun bl ol e1 => ?_
  subst e1
  refine G.skip (G.then_n (G.seq (G.block ?_)))
  refine G.draw [] [[0, 1, 2, 3, 4, 5, 6, 7, 8, 9, 10, 11, 12]] mixed (by kernel_rfl) ?_
  refine Phases.go [] (by (repeat' constructor)) ?_
  refine D.qw [1, 2, 3, 4, 5, 6, 7, 8, 9, 10, 11, 12] rfl (by kernel_rfl) (Quiet.move rfl) ?_
  refine D.qw [2, 3, 4, 5, 6, 7, 8, 9, 10, 11, 12] rfl (by kernel_rfl) (Quiet.move rfl) ?_
  refine D.gqw [4, 5, 10, 11, 12] (t := 50) rfl rfl rfl (by kernel_rfl) (Quiet.move rfl) ?_
  refine D.gqw [4, 5, 10, 11, 12] (t := 50) rfl rfl rfl (by kernel_rfl) (Quiet.move rfl) ?_
  refine D.gqw [5, 10, 11, 12] (t := 50) rfl rfl rfl (by kernel_rfl) (Quiet.indexAddr rfl rfl el_82 (by omega)) ?_
  refine D.gqw [10, 11, 12] (t := 50) rfl rfl rfl (by kernel_rfl) (Quiet.loadRdA (sz := 5) (j := i * 5) (k := 5) (p := slR 70 5 (.slice (some ⟨b6, 0, none⟩) (l.length + 1) c6) (l.length + 1) ((l ++ [arm77]).flatMap armC)) (vs := armC l[i]) rfl ag_70 (by (repeat' constructor)) (fun h hp => slR_rd hp) (by simp) (by omega) (by omega) (overA_el l hi2)) ?_
  refine D.gqw [8, 9, 10, 11, 12] (t := 50) rfl rfl rfl (by kernel_rfl) (Quiet.move rfl) ?_
  refine D.gqw [8, 9, 10, 11, 12] (t := 50) rfl rfl rfl (by kernel_rfl) (Quiet.move rfl) ?_
  refine D.gqw [9, 10, 11, 12] (t := 50) rfl rfl rfl (by kernel_rfl) (Quiet.indexAddr rfl rfl el_82 (by omega)) ?_
  refine D.gqw [10, 11, 12] (t := 50) rfl rfl rfl (by kernel_rfl) (Quiet.loadRdA (sz := 5) (j := i * 5) (k := 5) (p := p) (vs := armC l[i]) rfl ag_70 (by (repeat' constructor)) hl.cells (by simp) (by omega) (by omega) (flatMap_at (f := armC) (sz := 5) (fun _ _ => rfl) (by omega))) ?_
  refine D.gqw [11, 12] (t := 50) rfl rfl rfl (by kernel_rfl) (Quiet.to (v' := .bool true) (Quiet.structEq (r := decide (l[i] = l[i])) rfl rfl (by kernel_rfl) (arm_eq 9998 _ _)) (by simp)) ?_
  refine D.qw [12] rfl (by kernel_rfl) (Quiet.pickT rfl rfl) ?_
  refine D.qw [] rfl (by kernel_rfl) (Quiet.assign rfl) ?_
  refine D.ph (Phases.fin (G.blk_n (G.then_n (G.region (G.q (Quiet.move rfl) rfl ?_)))))
  refine G.q (Quiet.add rfl rfl (by omega)) rfl ?_
  refine G.q (Quiet.assign rfl) rfl (G.nil (G.then_n ?_))
  exact G.roundK (i + 1) (by omega) (by omega) ⟨rfl, rfl, rfl, rfl, rfl, rfl, rfl, rfl, rfl, trivial⟩ (by (repeat' constructor)) (by ((repeat (apply Have.cons; (repeat (first | exact Pick.here | apply Pick.there)))); apply Have.base; repeat' constructor))
 ·refine G.exit (G.then_e (G.then_e (G.blk_e (G.then_n (G.seq (G.region (G.q (Quiet.assign rfl) rfl (G.nil (G.then_n (G.seq (G.seq (G.region (G.q (Quiet.move rfl) rfl ?_)))))))))))))
  refine G.q (Quiet.as (v' := .bool false) (by rfl) (Quiet.ptrne rfl rfl Tryz.underlying28)) rfl ?_
  refine G.nil (G.then_n (G.condF rfl (G.skip (G.then_n (G.seq (G.add (p := slR 75 3 (.slice none 0 0) ([] : List Ev).length (([] : List Ev).flatMap evC)) (slR_nil _ _) (G.add (p := slR 75 3 (.slice none 0 0) ([] : List Ev).length (([] : List Ev).flatMap evC)) (slR_nil _ _) (G.region (G.q (Quiet.move rfl) rfl (G.q (Quiet.move rfl) rfl ?_))))))))))
  refine G.op (OpSpec.call Tryz.func42 rfl rfl (vs := [_, _]) rfl (evsR_spec [] [] _ _ (slR 75 3 (.slice none 0 0) ([] : List Ev).length (([] : List Ev).flatMap evC)) (slR 75 3 (.slice none 0 0) ([] : List Ev).length (([] : List Ev).flatMap evC)) (fun h hp => slR_rd hp) (fun h hp => slR_rd hp) (by decide))) (by (repeat' constructor)) rfl ?nx58
  rintro v L' ⟨rfl, rfl⟩; rw [decide_eq_true rfl]
  refine G.q (Quiet.assign rfl) rfl (G.nil (G.then_n (G.seq (G.seq (G.region (G.q (Quiet.assign rfl) rfl (G.nil (G.then_n (G.block ?_)))))))))
  refine G.loopK (ι := Nat) (fun q E => (15, vint q) :: E) (fun q => []) (fun q => q ≤ 0) (fun q => 0) (0) (ts := [8, 10, 11, 14]) (.cons rfl (.cons rfl (.cons rfl (.cons rfl (.nil))))) (Nat.le_refl _) ⟨rfl, rfl, rfl, rfl, rfl, trivial⟩ (by (repeat' constructor)) ?_
  rintro j hj
  refine G.seq (G.seq (G.region (G.q (Quiet.move rfl) rfl (G.q (Quiet.move rfl) rfl (G.q (Quiet.slen rfl Tryz.underlying30 rfl) rfl (G.q (Quiet.int rfl rfl rfl) rfl (G.nil (G.then_n ?_))))))))
  refine G.condD rfl (fun h80 => ?_) (fun h80 => ?_)
  · exact absurd h80 (by omega)
  ·refine G.exit (G.then_e (G.then_e (G.blk_e (G.then_n (G.seq (G.region (G.q (Quiet.move rfl) rfl (G.q (Quiet.move rfl) rfl (G.grun (t := 88) rfl rfl rfl (G.q (Quiet.move rfl) rfl (G.q (Quiet.pickT rfl rfl) rfl (G.q (Quiet.assign rfl) rfl (G.nil (G.then_n (G.ret ?_)))))))))))))))
   exact G.done (l := [.tmp 8]) rfl rfl ⟨rfl, rfl⟩ (by (repeat' constructor)) (by (repeat' constructor))

set_option maxHeartbeats 2000000 in
set_option maxRecDepth 100000 in
theorem step11_spec (s w t x y : Nat) (ω : List Wt) (τ : Tr) (o : Op11) (p : HP) (ho : Op11A p o) (N : Nat) (hτ : τ.Ok N) (hN : N + 1 + o.e.subs.length ≤ 1073741823) (M : Nat) (hk : Wk ω M) (hfit : Fit ω) (hM : M + (1 + o.arm.length) ≤ 1048576) : Fn Tryz.prog 39 #[vptr s, .agg (op11C o).toArray] [ptc s [vptr w, vptr t, vptr x, vptr y] 88, tbR w ω, treeR t τ, rwR x ω, refR y τ, p] fun r L => r = .bool true ∧ L = [ptc s [vptr w, vptr t, vptr x, vptr y] 88, tbR w (stepW ω τ o), treeR t (stepT τ o), rwR x (stepW ω τ o), refR y (stepT τ o), p] := by
 refine Fn.intro (vs := [vptr s, .agg (op11C o).toArray]) Tryz.func39 rfl rfl ?_
 intro F W
 have htx := ho.tx
 have hap := apE_len τ o.e.zx o.e.x o.e.subs
 have hsf := htx.few
 have hwl := hk.len
 refine G.seq (G.region ?_)
 refine G.op (OpSpec.box rfl) (by (repeat' constructor)) rfl ?nx1
 rintro v L' ⟨b3, rfl, rfl⟩
 refine G.q (Quiet.assign rfl) rfl (G.nil ?_)
 refine G.ptCast (b := b3) (l' := op11C o) (by (repeat' constructor)) rfl ?_
 refine G.then_n (G.seq (G.seq (G.region (G.q (Quiet.fieldAddr rfl fo_84_0) rfl ?_))))
 refine G.q (Quiet.load rfl ag_3 (by (repeat' constructor)) (rfl)) rfl ?_
 refine G.nil (G.then_n (G.block (G.seq (G.region (G.q (Quiet.int rfl rfl rfl) rfl (G.q (Quiet.assign rfl) rfl (G.nil (G.then_n ?_))))))))
 refine G.condD rfl (fun h9 => ?_) (fun h9 => ?_)
 ·refine G.seq ?_
  refine G.draw [10, 21] [[0, 1, 2, 3, 4, 5, 6, 7, 8, 9, 11, 12, 13, 14, 15, 16, 17, 18, 19, 20, 10], [21], [22, 23]] mixed (by kernel_rfl) ?_
  refine Phases.go [ptc s _ _, ptc b3 _ _] (by (repeat' constructor)) ?_
  refine D.qw [1, 2, 3, 10] rfl (by kernel_rfl) (Quiet.move rfl) ?_
  refine D.qw [2, 3, 10] rfl (by kernel_rfl) (Quiet.nilp rfl) ?_
  refine D.qw [3, 10] rfl (by kernel_rfl) (Quiet.fieldAddr rfl fo_88_0) ?_
  refine D.qw [10] rfl (by kernel_rfl) (Quiet.load rfl ag_67 (by (repeat' constructor)) (rfl)) ?_
  refine D.qw [5, 10] rfl (by kernel_rfl) (Quiet.fieldAddr rfl fo_84_1) ?_
  refine D.qw [10] rfl (by kernel_rfl) (Quiet.load rfl ag_3 (by (repeat' constructor)) (rfl)) ?_
  refine D.qw [7, 10] rfl (by kernel_rfl) (Quiet.fieldAddr rfl fo_84_2) ?_
  refine D.qw [10] rfl (by kernel_rfl) (Quiet.load rfl ag_3 (by (repeat' constructor)) (rfl)) ?_
  refine D.qw [9, 10] rfl (by kernel_rfl) (Quiet.fieldAddr rfl fo_84_3) ?_
  refine D.qw [10] rfl (by kernel_rfl) (Quiet.load rfl ag_9 (by (repeat' constructor)) (rfl)) ?_
  refine D.q rfl (by kernel_rfl) (Quiet.move rfl) ?_
  refine D.q rfl (by kernel_rfl) (Quiet.nilp rfl) ?_
  refine D.q rfl (by kernel_rfl) (Quiet.fieldAddr rfl fo_88_2) ?_
  refine D.q rfl (by kernel_rfl) (Quiet.load rfl ag_86 (by (repeat' constructor)) (rfl)) ?_
  refine D.q rfl (by kernel_rfl) (Quiet.fieldAddr rfl fo_84_1) ?_
  refine D.q rfl (by kernel_rfl) (Quiet.load rfl ag_3 (by (repeat' constructor)) (rfl)) ?_
  refine D.q rfl (by kernel_rfl) (Quiet.fieldAddr rfl fo_84_2) ?_
  refine D.q rfl (by kernel_rfl) (Quiet.load rfl ag_3 (by (repeat' constructor)) (rfl)) ?_
  refine D.q rfl (by kernel_rfl) (Quiet.fieldAddr rfl fo_84_3) ?_
  refine D.q rfl (by kernel_rfl) (Quiet.load rfl ag_9 (by (repeat' constructor)) (rfl)) ?_
  refine D.h rfl (by kernel_rfl) (OpSpec.call Tryz.func34 rfl rfl (vs := [_, _, _, _]) rfl (wadd_spec w ω o.ses o.watch o.path ho.ses ho.plen)) (by (repeat' constructor)) ?nx27
  rintro v L' ⟨rfl, rfl⟩
  refine D.ph ?_
  refine Phases.go [] (by (repeat' constructor)) ?_
  refine D.h rfl (by kernel_rfl) (OpSpec.call Tryz.func86 rfl rfl (vs := [_, _, _, _]) rfl (rwadd_spec x ω o.ses o.watch o.path ho.plen (hk.few _) (by omega))) (by (repeat' constructor)) ?nx29
  rintro v L' ⟨rfl, rfl⟩
  refine D.ph ?_
  refine Phases.go [] (by (repeat' constructor)) ?_
  refine D.qw [23] rfl (by kernel_rfl) (Quiet.as (v' := .bool true) (by simp) (Quiet.int rfl rfl rfl)) ?_
  refine D.qw [] rfl (by kernel_rfl) (Quiet.assign rfl) ?_
  refine D.ph (Phases.fin (G.then_n (G.ret (G.blk_r (G.then_r ?_)))))
  have e1 : stepW ω τ o = (addW ω o.ses o.watch o.path).1 := by unfold stepW; rw [if_pos h9]
  have e2 : stepT τ o = τ := by unfold stepT; rw [if_pos h9]
  rw [e1, e2]
  exact G.done (l := [.tmp 4]) rfl rfl ⟨rfl, rfl⟩ (by (repeat' constructor)) (by (repeat' constructor))
 ·refine G.seq (G.region (G.q (Quiet.int rfl rfl rfl) rfl (G.q (Quiet.assign rfl) rfl (G.nil (G.then_n ?_)))))
  refine G.condD rfl (fun h34 => ?_) (fun h34 => ?_)
  ·refine G.seq (G.region (G.q (Quiet.move rfl) rfl (G.q (Quiet.fieldAddr rfl fo_84_4) rfl ?_)))
   refine G.q (Quiet.load rfl ag_30 (by (repeat' constructor)) (rfl)) rfl ?_
   refine G.op (OpSpec.call Tryz.func87 rfl rfl (vs := [_, _]) rfl (fires11_spec s w t x y ω _ o.evs p ho.evs M hk (by omega) hfit (by have := ho.efew; omega))) (by (repeat' constructor)) rfl ?nx36
   rintro v L' ⟨rfl, rfl⟩
   refine G.q (Quiet.assign rfl) rfl (G.nil (G.then_n (G.ret (G.blk_r (G.then_r ?_)))))
   have e1 : stepW ω τ o = (fireL ω o.evs).1 := by unfold stepW; rw [if_neg h9, if_pos h34]
   have e2 : stepT τ o = τ := by unfold stepT; rw [if_neg h9, if_pos h34]
   rw [e1, e2]
   exact G.done (l := [.tmp 4]) rfl rfl ⟨rfl, rfl⟩ (by (repeat' constructor)) (by (repeat' constructor))
  ·refine G.seq (G.region (G.q (Quiet.int rfl rfl rfl) rfl (G.q (Quiet.assign rfl) rfl (G.nil (G.then_n ?_)))))
   refine G.condD rfl (fun h40 => ?_) (fun h40 => ?_)
   ·refine G.seq ?_
    refine G.draw [9] [[0, 1, 2, 3, 4, 5, 6, 7, 8, 9], [10]] mixed (by kernel_rfl) ?_
    refine Phases.go [] (by (repeat' constructor)) ?_
    refine D.qw [9] rfl (by kernel_rfl) (Quiet.move rfl) ?_
    refine D.qw [2, 9] rfl (by kernel_rfl) (Quiet.fieldAddr rfl fo_84_1) ?_
    refine D.qw [9] rfl (by kernel_rfl) (Quiet.load rfl ag_3 (by (repeat' constructor)) (rfl)) ?_
    refine D.qw [4, 5, 6, 9] rfl (by kernel_rfl) (Quiet.move rfl) ?_
    refine D.qw [5, 6, 9] rfl (by kernel_rfl) (Quiet.nilp rfl) ?_
    refine D.qw [6, 9] rfl (by kernel_rfl) (Quiet.fieldAddr rfl fo_88_1) ?_
    refine D.qw [9] rfl (by kernel_rfl) (Quiet.load rfl ag_28 (by (repeat' constructor)) (rfl)) ?_
    refine D.qw [8, 9] rfl (by kernel_rfl) (Quiet.fieldAddr rfl fo_84_5) ?_
    refine D.qw [9] rfl (by kernel_rfl) (Quiet.load rfl ag_82 (by (repeat' constructor)) (rfl)) ?_
    refine D.h rfl (by kernel_rfl) (OpSpec.call Tryz.func88 rfl rfl (vs := [_, _, _, _]) rfl (arms11_spec s w t x y ω τ o.ses _ o.arm p ho.arm N hτ (by omega) M hk (by omega) ho.ses)) (by (repeat' constructor)) ?nx48
    rintro v L' ⟨rfl, rfl⟩
    refine D.ph ?_
    refine Phases.go [] (by (repeat' constructor)) ?_
    refine D.qw [] rfl (by kernel_rfl) (Quiet.assign rfl) ?_
    refine D.ph (Phases.fin (G.then_n (G.ret (G.blk_r (G.then_r ?_)))))
    have e1 : stepW ω τ o = (armZ τ o.ses ω o.arm).1 := by unfold stepW; rw [if_neg h9, if_neg h34, if_pos h40]
    have e2 : stepT τ o = τ := by unfold stepT; rw [if_neg h9, if_neg h34, if_pos h40]
    rw [e1, e2]
    exact G.done (l := [.tmp 4]) rfl rfl ⟨rfl, rfl⟩ (by (repeat' constructor)) (by (repeat' constructor))
   ·refine G.seq (G.region (G.q (Quiet.int rfl rfl rfl) rfl (G.q (Quiet.assign rfl) rfl (G.nil (G.then_n ?_)))))
    refine G.condD rfl (fun h52 => ?_) (fun h52 => ?_)
    ·refine G.seq ?_
     refine G.draw [6] [[0, 1, 2, 3, 4, 5, 6]] mixed (by kernel_rfl) ?_
     refine Phases.go [] (by (repeat' constructor)) ?_
     refine D.qw [1, 2, 3, 6] rfl (by kernel_rfl) (Quiet.move rfl) ?_
     refine D.qw [2, 3, 6] rfl (by kernel_rfl) (Quiet.nilp rfl) ?_
     refine D.qw [3, 6] rfl (by kernel_rfl) (Quiet.fieldAddr rfl fo_88_0) ?_
     refine D.qw [6] rfl (by kernel_rfl) (Quiet.load rfl ag_67 (by (repeat' constructor)) (rfl)) ?_
     refine D.qw [5, 6] rfl (by kernel_rfl) (Quiet.fieldAddr rfl fo_84_1) ?_
     refine D.qw [6] rfl (by kernel_rfl) (Quiet.load rfl ag_3 (by (repeat' constructor)) (rfl)) ?_
     refine D.h rfl (by kernel_rfl) (OpSpec.call Tryz.func89 rfl rfl (vs := [_, _]) rfl (wdrop_spec w ω o.ses (by omega))) (by (repeat' constructor)) ?nx57
     rintro v L' ⟨rfl, rfl⟩
     refine D.ph (Phases.fin (G.then_n ?_))
     refine G.draw [6] [[0, 1, 2, 3, 4, 5, 6]] mixed (by kernel_rfl) ?_
     refine Phases.go [] (by (repeat' constructor)) ?_
     refine D.qw [1, 2, 3, 6] rfl (by kernel_rfl) (Quiet.move rfl) ?_
     refine D.qw [2, 3, 6] rfl (by kernel_rfl) (Quiet.nilp rfl) ?_
     refine D.qw [3, 6] rfl (by kernel_rfl) (Quiet.fieldAddr rfl fo_88_2) ?_
     refine D.qw [6] rfl (by kernel_rfl) (Quiet.load rfl ag_86 (by (repeat' constructor)) (rfl)) ?_
     refine D.qw [5, 6] rfl (by kernel_rfl) (Quiet.fieldAddr rfl fo_84_1) ?_
     refine D.qw [6] rfl (by kernel_rfl) (Quiet.load rfl ag_3 (by (repeat' constructor)) (rfl)) ?_
     refine D.h rfl (by kernel_rfl) (OpSpec.call Tryz.func90 rfl rfl (vs := [_, _]) rfl (rwdrop_spec x ω o.ses (by omega))) (by (repeat' constructor)) ?nx65
     rintro v L' ⟨rfl, rfl⟩
     refine D.ph (Phases.fin (G.blk_n (G.then_n (G.seq (G.region (G.q (Quiet.assign rfl) rfl (G.nil (G.then_n (G.ret ?_)))))))))
     have e1 : stepW ω τ o = dropW ω o.ses := by unfold stepW; rw [if_neg h9, if_neg h34, if_neg h40, if_pos h52]
     have e2 : stepT τ o = τ := by unfold stepT; rw [if_neg h9, if_neg h34, if_neg h40, if_pos h52]
     rw [e1, e2]
     exact G.done (l := [.tmp 4]) rfl rfl ⟨rfl, rfl⟩ (by (repeat' constructor)) (by (repeat' constructor))
    ·refine G.seq (G.region (G.q (Quiet.int rfl rfl rfl) rfl (G.q (Quiet.assign rfl) rfl (G.nil (G.then_n ?_)))))
     refine G.condD rfl (fun h68 => ?_) (fun h68 => ?_)
     ·refine G.seq ?_
      refine G.draw [6, 13] [[0, 1, 2, 3, 4, 5, 7, 8, 9, 10, 11, 12, 6], [13], [14, 15]] mixed (by kernel_rfl) ?_
      refine Phases.go [ptc s _ _, ptc b3 _ _] (by (repeat' constructor)) ?_
      refine D.qw [1, 2, 3, 6] rfl (by kernel_rfl) (Quiet.move rfl) ?_
      refine D.qw [2, 3, 6] rfl (by kernel_rfl) (Quiet.nilp rfl) ?_
      refine D.qw [3, 6] rfl (by kernel_rfl) (Quiet.fieldAddr rfl fo_88_0) ?_
      refine D.qw [6] rfl (by kernel_rfl) (Quiet.load rfl ag_67 (by (repeat' constructor)) (rfl)) ?_
      refine D.qw [5, 6] rfl (by kernel_rfl) (Quiet.fieldAddr rfl fo_84_1) ?_
      refine D.qw [6] rfl (by kernel_rfl) (Quiet.load rfl ag_3 (by (repeat' constructor)) (rfl)) ?_
      refine D.q rfl (by kernel_rfl) (Quiet.move rfl) ?_
      refine D.q rfl (by kernel_rfl) (Quiet.nilp rfl) ?_
      refine D.q rfl (by kernel_rfl) (Quiet.fieldAddr rfl fo_88_2) ?_
      refine D.q rfl (by kernel_rfl) (Quiet.load rfl ag_86 (by (repeat' constructor)) (rfl)) ?_
      refine D.q rfl (by kernel_rfl) (Quiet.fieldAddr rfl fo_84_1) ?_
      refine D.q rfl (by kernel_rfl) (Quiet.load rfl ag_3 (by (repeat' constructor)) (rfl)) ?_
      refine D.h rfl (by kernel_rfl) (OpSpec.call Tryz.func35 rfl rfl (vs := [_, _]) rfl (wcount_spec w ω o.ses)) (by (repeat' constructor)) ?nx81
      rintro v L' ⟨rfl, rfl⟩
      refine D.ph ?_
      refine Phases.go [] (by (repeat' constructor)) ?_
      refine D.h rfl (by kernel_rfl) (OpSpec.call Tryz.func40 rfl rfl (vs := [_, _]) rfl (rwcount_spec x ω o.ses (by omega))) (by (repeat' constructor)) ?nx83
      rintro v L' ⟨rfl, rfl⟩
      refine D.ph ?_
      refine Phases.go [] (by (repeat' constructor)) ?_
      refine D.qw [15] rfl (by kernel_rfl) (Quiet.as (v' := .bool true) (by simp) (Quiet.int rfl rfl rfl)) ?_
      refine D.qw [] rfl (by kernel_rfl) (Quiet.assign rfl) ?_
      refine D.ph (Phases.fin (G.then_n (G.ret (G.blk_r (G.then_r ?_)))))
      have e1 : stepW ω τ o = ω := by unfold stepW; rw [if_neg h9, if_neg h34, if_neg h40, if_neg h52, if_pos h68]
      have e2 : stepT τ o = τ := by unfold stepT; rw [if_neg h9, if_neg h34, if_neg h40, if_neg h52, if_pos h68]
      rw [e1, e2]
      exact G.done (l := [.tmp 4]) rfl rfl ⟨rfl, rfl⟩ (by (repeat' constructor)) (by (repeat' constructor))
     ·refine G.seq (G.region (G.q (Quiet.int rfl rfl rfl) rfl (G.q (Quiet.assign rfl) rfl (G.nil (G.then_n ?_)))))
      refine G.condD rfl (fun h85 => ?_) (fun h85 => ?_)
      ·refine G.seq ?_
       refine G.draw [6] [[0, 1, 2, 3, 4, 5, 6]] mixed (by kernel_rfl) ?_
       refine Phases.go [] (by (repeat' constructor)) ?_
       refine D.qw [1, 2, 3, 6] rfl (by kernel_rfl) (Quiet.move rfl) ?_
       refine D.qw [2, 3, 6] rfl (by kernel_rfl) (Quiet.nilp rfl) ?_
       refine D.qw [3, 6] rfl (by kernel_rfl) (Quiet.fieldAddr rfl fo_88_1) ?_
       refine D.qw [6] rfl (by kernel_rfl) (Quiet.load rfl ag_28 (by (repeat' constructor)) (rfl)) ?_
       refine D.qw [5, 6] rfl (by kernel_rfl) (Quiet.fieldAddr rfl fo_84_6) ?_
       refine D.qw [6] rfl (by kernel_rfl) (Quiet.loadAs (vs := enC o.e) rfl ag_39 (by (repeat' constructor)) (by simp [op11C, enC, ptC]) rfl) ?_
       refine D.h rfl (by kernel_rfl) (OpSpec.call Tryz.func14 rfl rfl (vs := [_, _]) rfl (trapply_spec t τ o.e.zx o.e.ses o.e.xid o.e.x o.e.subs p htx N hτ (by omega))) (by (repeat' constructor)) ?nx93
       rintro v L' ⟨ue, ee, rfl, he, ⟨au, cu, hu⟩, rfl⟩; subst he; subst hu
       refine D.ph (Phases.fin (G.then_n (G.seq ?_)))
       refine G.draw [6] [[0, 1, 2, 3, 4, 5, 6], [7, 8, 9, 10, 11]] mixed (by kernel_rfl) ?_
       refine Phases.go [] (by (repeat' constructor)) ?_
       refine D.qw [1, 2, 3, 6] rfl (by kernel_rfl) (Quiet.move rfl) ?_
       refine D.qw [2, 3, 6] rfl (by kernel_rfl) (Quiet.nilp rfl) ?_
       refine D.qw [3, 6] rfl (by kernel_rfl) (Quiet.fieldAddr rfl fo_88_3) ?_
       refine D.qw [6] rfl (by kernel_rfl) (Quiet.load rfl ag_25 (by (repeat' constructor)) (rfl)) ?_
       refine D.qw [5, 6] rfl (by kernel_rfl) (Quiet.fieldAddr rfl fo_84_6) ?_
       refine D.qw [6] rfl (by kernel_rfl) (Quiet.loadAs (vs := enC o.e) rfl ag_39 (by (repeat' constructor)) (by simp [op11C, enC, ptC]) rfl) ?_
       refine D.h rfl (by kernel_rfl) (OpSpec.call Tryz.func26 rfl rfl (vs := [_, _]) rfl (rapply_spec y τ o.e.zx o.e.ses o.e.xid o.e.x o.e.subs p htx N hτ (by omega))) (by (repeat' constructor)) ?nx101
       rintro v L' ⟨uf, ef, rfl, hf, ⟨aw, cw, hw⟩, rfl⟩; subst hf; subst hw
       refine D.ph ?_
       refine Phases.go [] (by (repeat' constructor)) ?_
       refine D.qw [8, 9, 10, 11] rfl (by kernel_rfl) (Quiet.move rfl) ?_
       refine D.qw [10, 11] rfl (by kernel_rfl) (Quiet.extract rfl rfl) ?_
       refine D.qw [11] rfl (by kernel_rfl) (Quiet.extract rfl rfl) ?_
       refine D.qw [11] rfl (by kernel_rfl) (Quiet.assign rfl) ?_
       refine D.qw [] rfl (by kernel_rfl) (Quiet.assign rfl) ?_
       refine D.ph (Phases.fin (G.then_n (G.seq (G.region (G.q (Quiet.move rfl) rfl (G.q (Quiet.move rfl) rfl ?_))))))
       refine G.op (OpSpec.call Tryz.func87 rfl rfl (vs := [_, _]) rfl (fires11_spec s w t x y ω _ (applyZ τ o.e.zx o.e.x o.e.subs).2.1 (slR 75 3 (.slice aw (applyZ τ o.e.zx o.e.x o.e.subs).2.1.length cw) (applyZ τ o.e.zx o.e.x o.e.subs).2.1.length ((applyZ τ o.e.zx o.e.x o.e.subs).2.1.flatMap evC)) (fun h hp => slR_rd hp) M hk (by omega) hfit (by omega))) (by (repeat' constructor)) rfl ?nx106
       rintro v L' ⟨rfl, rfl⟩
       refine G.q (Quiet.assign rfl) rfl (G.nil (G.then_n (G.ret (G.blk_r (G.then_r ?_)))))
       have e1 : stepW ω τ o = (fireL ω (applyZ τ o.e.zx o.e.x o.e.subs).2.1).1 := by unfold stepW; rw [if_neg h9, if_neg h34, if_neg h40, if_neg h52, if_neg h68, if_pos h85]
       have e2 : stepT τ o = (applyZ τ o.e.zx o.e.x o.e.subs).1 := by unfold stepT; rw [if_neg h9, if_neg h34, if_neg h40, if_neg h52, if_neg h68, if_pos h85]
       rw [e1, e2]
       exact G.done (l := [.tmp 4]) rfl rfl ⟨rfl, rfl⟩ (by (repeat' constructor)) (by (repeat' constructor))
      ·refine G.seq (G.region (G.q (Quiet.int rfl rfl rfl) rfl (G.q (Quiet.assign rfl) rfl (G.nil (G.then_n ?_)))))
       refine G.condD rfl (fun h107 => ?_) (fun h107 => ?_)
       ·refine G.seq (G.region (G.q (Quiet.move rfl) rfl (G.q (Quiet.fieldAddr rfl fo_84_1) rfl ?_)))
        refine G.q (Quiet.load rfl ag_3 (by (repeat' constructor)) (rfl)) rfl ?_
        refine G.q (Quiet.fieldAddr rfl fo_84_5) rfl ?_
        refine G.q (Quiet.load rfl ag_82 (by (repeat' constructor)) (rfl)) rfl ?_
        refine G.op (OpSpec.call Tryz.func88 rfl rfl (vs := [_, _, _, _]) rfl (arms11n_spec s w t x y o.ses _ o.arm p ho.arm)) (by (repeat' constructor)) rfl ?nx114
        rintro v L' ⟨rfl, rfl⟩
        refine G.q (Quiet.assign rfl) rfl (G.nil (G.then_n (G.ret (G.blk_r (G.then_r ?_)))))
        have e1 : stepW ω τ o = ω := by unfold stepW; rw [if_neg h9, if_neg h34, if_neg h40, if_neg h52, if_neg h68, if_neg h85]
        have e2 : stepT τ o = τ := by unfold stepT; rw [if_neg h9, if_neg h34, if_neg h40, if_neg h52, if_neg h68, if_neg h85]
        rw [e1, e2]
        exact G.done (l := [.tmp 4]) rfl rfl ⟨rfl, rfl⟩ (by (repeat' constructor)) (by (repeat' constructor))
       ·refine G.skip (G.blk_n (G.then_n (G.seq (G.region (G.q (Quiet.assign rfl) rfl (G.nil (G.then_n (G.ret ?_))))))))
        have e1 : stepW ω τ o = ω := by unfold stepW; rw [if_neg h9, if_neg h34, if_neg h40, if_neg h52, if_neg h68, if_neg h85]
        have e2 : stepT τ o = τ := by unfold stepT; rw [if_neg h9, if_neg h34, if_neg h40, if_neg h52, if_neg h68, if_neg h85]
        rw [e1, e2]
        exact G.done (l := [.tmp 4]) rfl rfl ⟨rfl, rfl⟩ (by (repeat' constructor)) (by (repeat' constructor))

set_option maxHeartbeats 2000000 in
set_option maxRecDepth 100000 in
theorem wplays11_spec (v : Value) (os : List Op11) (p : HP) (ho : Ops11A p v os) : Fn Tryz.prog 10 #[v] [p] fun r L => r = .bool true ∧ L = [p] := by
 refine Fn.intro (vs := [v]) Tryz.func10 rfl rfl ?_
 intro F W
 refine G.rdAny (p := p) ho.cells (by (repeat' constructor)) fun ao co e0 _ => ?_
 subst e0
 have hol := ho.len
 have hto := ho.totT
 have htm := ho.totM
 refine G.seq (G.region (G.q (Quiet.assign rfl) rfl (G.nil (G.then_n (G.seq (G.region ?_))))))
 refine G.op (OpSpec.call Tryz.func31 rfl rfl (vs := []) rfl (awake11_spec)) (by (repeat' constructor)) rfl ?nx2
 rintro v L' ⟨rfl, rfl⟩
 refine G.q (Quiet.assign rfl) rfl (G.nil (G.then_n (G.seq (G.region ?_))))
 refine G.op (OpSpec.call Tryz.func38 rfl rfl (vs := []) rfl (made11_spec)) (by (repeat' constructor)) rfl ?nx4
 rintro v L' ⟨sa, wa, ta, xa, ya, rfl, rfl⟩
 refine G.q (Quiet.assign rfl) rfl (G.nil (G.then_n (G.seq (G.region ?_))))
 refine G.op (OpSpec.call Tryz.func38 rfl rfl (vs := []) rfl (made11_spec)) (by (repeat' constructor)) rfl ?nx6
 rintro v L' ⟨sb, wb, tb, xb, yb, rfl, rfl⟩
 refine G.q (Quiet.assign rfl) rfl (G.nil (G.then_n (G.seq (G.seq (G.region (G.q (Quiet.move rfl) rfl (G.q (Quiet.not rfl) rfl (G.q (Quiet.move rfl) rfl (G.grun (t := 15) rfl rfl rfl (G.q (Quiet.move rfl) rfl (G.grun (t := 15) rfl rfl rfl ?_)))))))))))
 refine G.q (Quiet.as (v' := .bool false) (by rfl) (Quiet.ptreq rfl rfl Tryz.underlying80)) rfl ?_
 refine G.q (Quiet.pickF rfl rfl) rfl (G.q (Quiet.move rfl) rfl (G.grun (t := 19) rfl rfl rfl (G.q (Quiet.move rfl) rfl (G.grun (t := 19) rfl rfl rfl ?_))))
 refine G.q (Quiet.as (v' := .bool false) (by rfl) (Quiet.ptreq rfl rfl Tryz.underlying80)) rfl ?_
 refine G.q (Quiet.pickF rfl rfl) rfl (G.nil (G.then_n (G.condF rfl (G.skip (G.then_n (G.seq (G.seq (G.region (G.q (Quiet.assign rfl) rfl (G.nil (G.then_n (G.block ?_))))))))))))
 refine G.loopK (ι := Nat × (List Wt) × Tr × (List Wt) × Tr) (fun q E => (6, vint q.1) :: E) (fun q => [tbR wa q.2.1, treeR ta q.2.2.1, rwR xa q.2.1, refR ya q.2.2.1, tbR wb q.2.2.2.1, treeR tb q.2.2.2.2, rwR xb q.2.2.2.1, refR yb q.2.2.2.2]) (fun q => q.1 ≤ os.length ∧ q.2.2.1.Ok (1 + wtT (os.take q.1)) ∧ q.2.2.2.2.Ok (1 + wtT (os.take q.1)) ∧ Wk q.2.1 (wtM (os.take q.1)) ∧ Fit q.2.1 ∧ Wk q.2.2.2.1 (wtM (os.take q.1)) ∧ Fit q.2.2.2.1) (fun q => os.length - q.1) (0, [], newT, [], newT) (ts := [0, 4, 5]) (.cons rfl (.cons rfl (.cons rfl (.nil)))) (⟨Nat.zero_le _, newT_ok, newT_ok, ⟨fun s => by simp [cntW], Nat.zero_le _⟩, (fun y hy => by cases hy), ⟨fun s => by simp [cntW], Nat.zero_le _⟩, (fun y hy => by cases hy)⟩) ⟨rfl, rfl, rfl, rfl, trivial⟩ (by (repeat' constructor)) ?_
 rintro ⟨i, ω, τ, ψ, υ⟩ ⟨hi, hτ, hυ, hk1, hf1, hk2, hf2⟩
 dsimp only
 dsimp only at hi hτ hυ hk1 hf1 hk2 hf2
 have hwi := wtT_take os i
 have hwm := wtM_take os i
 have hl1 := hk1.len
 have hl2 := hk2.len
 refine G.seq (G.seq (G.region (G.q (Quiet.move rfl) rfl (G.q (Quiet.move rfl) rfl (G.q (Quiet.slen rfl Tryz.underlying79 rfl) rfl (G.q (Quiet.int rfl rfl rfl) rfl (G.nil (G.then_n ?_))))))))
 refine G.condD rfl (fun h26 => ?_) (fun h26 => ?_)
 ·have hi2 : i < os.length := by omega
  have hoi := ho.each _ (List.getElem_mem hi2)
  have hwn := wtT_take os (i + 1)
  rw [wtT_step hi2] at hwn
  have hwn2 := wtM_take os (i + 1)
  rw [wtM_step hi2] at hwn2
  refine G.rdShape (p := p) ho.cells (by (repeat' constructor)) (by omega) fun bo oo e1 => ?_
  subst e1
  refine G.skip (G.then_n (G.seq (G.block (G.seq (G.region (G.q (Quiet.move rfl) rfl (G.q (Quiet.assign rfl) rfl (G.nil (G.then_n (G.seq (G.seq (G.region (G.q (Quiet.move rfl) rfl (G.q (Quiet.move rfl) rfl ?_))))))))))))))
  refine G.q (Quiet.indexAddr rfl rfl el_79 (by omega)) rfl ?_
  refine G.q (Quiet.fieldAddr rfl fo_84_7) rfl ?_
  refine G.q (Quiet.loadRd (sz := 18) (j := i * 18 + 17) (p := p) (v := .bool os[i].other) rfl ag_4 (by (repeat' constructor)) ho.cells (by omega) (by rw [flatMap_cell (f := op11C) (sz := 18) (fun _ _ => rfl) hi2 (by decide)]; rfl)) rfl ?_
  refine G.nil (G.then_n ?_)
  refine G.condB rfl (fun h34 => ?_) (fun h34 => ?_)
  ·refine G.region (G.q (Quiet.move rfl) rfl (G.q (Quiet.assign rfl) rfl (G.nil (G.then_n (G.seq (G.region (G.q (Quiet.move rfl) rfl (G.q (Quiet.move rfl) rfl (G.q (Quiet.move rfl) rfl ?_)))))))))
   refine G.q (Quiet.indexAddr rfl rfl el_79 (by omega)) rfl ?_
   refine G.q (Quiet.loadRdA (sz := 18) (j := i * 18) (k := 18) (p := p) (vs := op11C os[i]) rfl ag_84 (by (repeat' constructor)) ho.cells (by simp) (by omega) (by omega) (flatMap_at (f := op11C) (sz := 18) (fun _ _ => rfl) (by omega))) rfl ?_
   refine G.op (OpSpec.call Tryz.func39 rfl rfl (vs := [_, _]) rfl (step11_spec sb wb tb xb yb ψ υ os[i] p hoi _ hυ (by omega) _ hk2 hf2 (by omega))) (by (repeat' constructor)) rfl ?nx27
   rintro v L' ⟨rfl, rfl⟩
   refine G.q (Quiet.assign rfl) rfl (G.nil (G.then_n (G.seq (G.region (G.q (Quiet.move rfl) rfl (G.q (Quiet.not rfl) rfl (G.nil (G.then_n (G.condF rfl (G.skip (G.blk_n (G.then_n (G.region (G.q (Quiet.move rfl) rfl ?_))))))))))))))
   refine G.q (Quiet.add rfl rfl (by omega)) rfl ?_
   refine G.q (Quiet.assign rfl) rfl (G.nil (G.then_n ?_))
   exact G.roundK ((i + 1, ω, τ, (stepW ψ υ os[i]), (stepT υ os[i]))) (⟨by dsimp only; omega, by dsimp only; rw [wtT_step hi2]; exact (hτ.more (by omega)), by dsimp only; rw [wtT_step hi2]; exact (by have q := step_ok11 hυ hoi; rwa [Nat.add_assoc] at q), by dsimp only; rw [wtM_step hi2]; exact (hk1.more (by omega)), hf1, by dsimp only; rw [wtM_step hi2]; exact (step_wk hk2 υ hoi), (step_fit hf2 υ os[i])⟩) (by dsimp only; omega) ⟨rfl, rfl, rfl, rfl, trivial⟩ (by (repeat' constructor)) (by ((repeat (apply Have.cons; (repeat (first | exact Pick.here | apply Pick.there)))); apply Have.base; repeat' constructor))
  ·refine G.skip (G.then_n (G.seq (G.region (G.q (Quiet.move rfl) rfl (G.q (Quiet.move rfl) rfl (G.q (Quiet.move rfl) rfl ?_))))))
   refine G.q (Quiet.indexAddr rfl rfl el_79 (by omega)) rfl ?_
   refine G.q (Quiet.loadRdA (sz := 18) (j := i * 18) (k := 18) (p := p) (vs := op11C os[i]) rfl ag_84 (by (repeat' constructor)) ho.cells (by simp) (by omega) (by omega) (flatMap_at (f := op11C) (sz := 18) (fun _ _ => rfl) (by omega))) rfl ?_
   refine G.op (OpSpec.call Tryz.func39 rfl rfl (vs := [_, _]) rfl (step11_spec sa wa ta xa ya ω τ os[i] p hoi _ hτ (by omega) _ hk1 hf1 (by omega))) (by (repeat' constructor)) rfl ?nx36
   rintro v L' ⟨rfl, rfl⟩
   refine G.q (Quiet.assign rfl) rfl (G.nil (G.then_n (G.seq (G.region (G.q (Quiet.move rfl) rfl (G.q (Quiet.not rfl) rfl (G.nil (G.then_n (G.condF rfl (G.skip (G.blk_n (G.then_n (G.region (G.q (Quiet.move rfl) rfl ?_))))))))))))))
   refine G.q (Quiet.add rfl rfl (by omega)) rfl ?_
   refine G.q (Quiet.assign rfl) rfl (G.nil (G.then_n ?_))
   exact G.roundK ((i + 1, (stepW ω τ os[i]), (stepT τ os[i]), ψ, υ)) (⟨by dsimp only; omega, by dsimp only; rw [wtT_step hi2]; exact (by have q := step_ok11 hτ hoi; rwa [Nat.add_assoc] at q), by dsimp only; rw [wtT_step hi2]; exact (hυ.more (by omega)), by dsimp only; rw [wtM_step hi2]; exact (step_wk hk1 τ hoi), (step_fit hf1 τ os[i]), by dsimp only; rw [wtM_step hi2]; exact (hk2.more (by omega)), hf2⟩) (by dsimp only; omega) ⟨rfl, rfl, rfl, rfl, trivial⟩ (by (repeat' constructor)) (by ((repeat (apply Have.cons; (repeat (first | exact Pick.here | apply Pick.there)))); apply Have.base; repeat' constructor))
 ·refine G.exit (G.then_e (G.then_e (G.blk_e (G.then_n (G.seq (G.seq (G.region (G.q (Quiet.assign rfl) rfl (G.nil (G.then_n (G.block ?_)))))))))))
  refine G.loopK (ι := Int) (fun q E => (9, vint q) :: E) (fun q => []) (fun q => -1 ≤ q ∧ q ≤ 9) (fun q => (9 - q).toNat) (-1) (ts := [4, 5]) (.cons rfl (.cons rfl (.nil))) (by decide) ⟨rfl, rfl, rfl, trivial⟩ (by (repeat' constructor)) ?_
  rintro k hk
  refine G.seq (G.seq (G.region (G.q (Quiet.move rfl) rfl (G.q (Quiet.int rfl rfl rfl) rfl (G.nil (G.then_n ?_))))))
  refine G.condD rfl (fun h45 => ?_) (fun h45 => ?_)
  ·refine G.skip (G.then_n (G.seq (G.block (G.seq ?_))))
   refine G.draw [] [[0, 1, 2, 3, 4, 5, 6, 7, 8, 9, 10, 11, 12, 13, 14, 15, 16, 17, 18, 19, 20, 21, 22, 23, 24, 25, 26, 27]] mixed (by kernel_rfl) ?_
   refine Phases.go [tbR wa ω, rwR xa ω, tbR wb ψ, rwR xb ψ, ptc sa _ _, ptc sb _ _] (by (repeat' constructor)) ?_
   refine D.qw [1, 2, 3, 5, 11, 12, 13, 14, 15, 16, 17, 18, 19, 20, 21, 22, 23, 24, 25, 26, 27] rfl (by kernel_rfl) (Quiet.move rfl) ?_
   refine D.qw [2, 3, 5, 11, 12, 13, 14, 15, 16, 17, 18, 19, 20, 21, 22, 23, 24, 25, 26, 27] rfl (by kernel_rfl) (Quiet.nilp rfl) ?_
   refine D.qw [3, 5, 11, 12, 13, 14, 15, 16, 17, 18, 19, 20, 21, 22, 23, 24, 25, 26, 27] rfl (by kernel_rfl) (Quiet.fieldAddr rfl fo_88_0) ?_
   refine D.qw [5, 11, 12, 13, 14, 15, 16, 17, 18, 19, 20, 21, 22, 23, 24, 25, 26, 27] rfl (by kernel_rfl) (Quiet.load rfl ag_67 (by (repeat' constructor)) (rfl)) ?_
   refine D.qw [5, 11, 12, 13, 14, 15, 16, 17, 18, 19, 20, 21, 22, 23, 24, 25, 26, 27] rfl (by kernel_rfl) (Quiet.move rfl) ?_
   refine D.m rfl (by kernel_rfl) (OpSpec.call Tryz.func35 rfl rfl (vs := [_, _]) rfl (wcount_spec wa ω k)) (by (repeat' constructor)) ?nx49
   refine D.qw [7, 8, 9, 11, 12, 13, 14, 15, 16, 17, 18, 19, 20, 21, 22, 23, 24, 25, 26, 27] rfl (by kernel_rfl) (Quiet.move rfl) ?_
   refine D.qw [8, 9, 11, 12, 13, 14, 15, 16, 17, 18, 19, 20, 21, 22, 23, 24, 25, 26, 27] rfl (by kernel_rfl) (Quiet.nilp rfl) ?_
   refine D.qw [9, 11, 12, 13, 14, 15, 16, 17, 18, 19, 20, 21, 22, 23, 24, 25, 26, 27] rfl (by kernel_rfl) (Quiet.fieldAddr rfl fo_88_2) ?_
   refine D.qw [11, 12, 13, 14, 15, 16, 17, 18, 19, 20, 21, 22, 23, 24, 25, 26, 27] rfl (by kernel_rfl) (Quiet.load rfl ag_86 (by (repeat' constructor)) (rfl)) ?_
   refine D.qw [11, 12, 13, 14, 15, 16, 17, 18, 19, 20, 21, 22, 23, 24, 25, 26, 27] rfl (by kernel_rfl) (Quiet.move rfl) ?_
   refine D.m rfl (by kernel_rfl) (OpSpec.call Tryz.func40 rfl rfl (vs := [_, _]) rfl (rwcount_spec xa ω k (by omega))) (by (repeat' constructor)) ?nx56
   refine D.qw [13, 14, 15, 16, 17, 18, 19, 20, 21, 22, 23, 24, 25, 26, 27] rfl (by kernel_rfl) (Quiet.as (v' := .bool false) (by simp) (Quiet.int rfl rfl rfl)) ?_
   refine D.qw [14, 15, 16, 17, 18, 19, 20, 21, 22, 23, 24, 25, 26, 27] rfl (by kernel_rfl) (Quiet.move rfl) ?_
   refine D.gqw [15, 16, 17, 19, 25, 26, 27] (t := 61) rfl rfl rfl (by kernel_rfl) (Quiet.move rfl) ?_
   refine D.gqw [16, 17, 19, 25, 26, 27] (t := 61) rfl rfl rfl (by kernel_rfl) (Quiet.nilp rfl) ?_
   refine D.gqw [17, 19, 25, 26, 27] (t := 61) rfl rfl rfl (by kernel_rfl) (Quiet.fieldAddr rfl fo_88_0) ?_
   refine D.gqw [19, 25, 26, 27] (t := 61) rfl rfl rfl (by kernel_rfl) (Quiet.load rfl ag_67 (by (repeat' constructor)) (rfl)) ?_
   refine D.gqw [19, 25, 26, 27] (t := 61) rfl rfl rfl (by kernel_rfl) (Quiet.move rfl) ?_
   refine D.gm (t := 61) rfl rfl rfl (by kernel_rfl) (OpSpec.call Tryz.func35 rfl rfl (vs := [_, _]) rfl (wcount_spec wb ψ k)) (by (repeat' constructor)) ?nx64
   refine D.gqw [21, 22, 23, 25, 26, 27] (t := 61) rfl rfl rfl (by kernel_rfl) (Quiet.move rfl) ?_
   refine D.gqw [22, 23, 25, 26, 27] (t := 61) rfl rfl rfl (by kernel_rfl) (Quiet.nilp rfl) ?_
   refine D.gqw [23, 25, 26, 27] (t := 61) rfl rfl rfl (by kernel_rfl) (Quiet.fieldAddr rfl fo_88_2) ?_
   refine D.gqw [25, 26, 27] (t := 61) rfl rfl rfl (by kernel_rfl) (Quiet.load rfl ag_86 (by (repeat' constructor)) (rfl)) ?_
   refine D.gqw [25, 26, 27] (t := 61) rfl rfl rfl (by kernel_rfl) (Quiet.move rfl) ?_
   refine D.gm (t := 61) rfl rfl rfl (by kernel_rfl) (OpSpec.call Tryz.func40 rfl rfl (vs := [_, _]) rfl (rwcount_spec xb ψ k (by omega))) (by (repeat' constructor)) ?nx71
   refine D.gqw [27] (t := 61) rfl rfl rfl (by kernel_rfl) (Quiet.as (v' := .bool false) (by simp) (Quiet.int rfl rfl rfl)) ?_
   refine D.qw [] rfl (by kernel_rfl) (Quiet.pickF rfl rfl) ?_
   refine D.ph (Phases.fin (G.then_n (G.condF rfl (G.skip (G.blk_n (G.then_n (G.region (G.q (Quiet.move rfl) rfl ?_))))))))
   refine G.q (Quiet.add rfl rfl (by omega)) rfl ?_
   refine G.q (Quiet.assign rfl) rfl (G.nil (G.then_n ?_))
   exact G.roundK (k + 1) (by omega) (by omega) ⟨rfl, rfl, rfl, trivial⟩ (by (repeat' constructor)) (by ((repeat (apply Have.cons; (repeat (first | exact Pick.here | apply Pick.there)))); apply Have.base; repeat' constructor))
  ·refine G.exit (G.then_e (G.then_e (G.blk_e (G.then_n (G.seq ?_)))))
   refine G.draw [] [[0, 1, 2, 3, 4, 5, 6, 7, 8, 9, 10, 11]] mixed (by kernel_rfl) ?_
   refine Phases.go [tbR wa ω, rwR xa ω, ptc sa _ _] (by (repeat' constructor)) ?_
   refine D.qw [1, 2, 3, 4, 9, 10, 11] rfl (by kernel_rfl) (Quiet.move rfl) ?_
   refine D.qw [2, 3, 4, 9, 10, 11] rfl (by kernel_rfl) (Quiet.nilp rfl) ?_
   refine D.qw [3, 4, 9, 10, 11] rfl (by kernel_rfl) (Quiet.fieldAddr rfl fo_88_0) ?_
   refine D.qw [4, 9, 10, 11] rfl (by kernel_rfl) (Quiet.load rfl ag_67 (by (repeat' constructor)) (rfl)) ?_
   refine D.m rfl (by kernel_rfl) (OpSpec.call Tryz.func35 rfl rfl (vs := [_, _]) rfl (wcount_spec wa ω 1099511627776)) (by (repeat' constructor)) ?nx80
   refine D.qw [6, 7, 8, 9, 10, 11] rfl (by kernel_rfl) (Quiet.move rfl) ?_
   refine D.qw [7, 8, 9, 10, 11] rfl (by kernel_rfl) (Quiet.nilp rfl) ?_
   refine D.qw [8, 9, 10, 11] rfl (by kernel_rfl) (Quiet.fieldAddr rfl fo_88_2) ?_
   refine D.qw [9, 10, 11] rfl (by kernel_rfl) (Quiet.load rfl ag_86 (by (repeat' constructor)) (rfl)) ?_
   refine D.m rfl (by kernel_rfl) (OpSpec.call Tryz.func40 rfl rfl (vs := [_, _]) rfl (rwcount_spec xa ω 1099511627776 (by omega))) (by (repeat' constructor)) ?nx86
   refine D.qw [11] rfl (by kernel_rfl) (Quiet.as (v' := .bool true) (by simp) (Quiet.int rfl rfl rfl)) ?_
   refine D.qw [] rfl (by kernel_rfl) (Quiet.assign rfl) ?_
   refine D.ph (Phases.fin (G.then_n (G.ret ?_)))
   exact G.done (l := [.tmp 2]) rfl rfl ⟨rfl, rfl⟩ (by (repeat' constructor)) (by (repeat' constructor))

end Go.Proofs.YtnnbelmpbmfdnaaGreatDoor

/- Own work: from what a call is given to the atoms of SlCore, and back to what a statement asks. -/

namespace Go.Proofs.YtnnbelmpbmfdnaaGreatDoor
open Go Go.ChangeShapes Go.WideShapes Go.ChangeAt Go.RowKit

section
variable {H : Type} {enc : TypeId × Value → H} {P : Program} {W W' : World}
theorem trodAll_old (hl : laidOutB P = true) (hb : Below W.heap.size W W') (sp : Nat → Bool) : ∀ (ts : List TypeId) (vs : List Value) (ds : List (DataW H)) (p : List MemPlace), (∀ t ∈ ts, P.readableRec t = true ∧ t < P.types.size) →
    DataW.TrodAll enc P W 0 (fun _ => true) true ts vs ds p → (∀ x ∈ p, x.block < W.heap.size) → (∀ x ∈ p, sp x.block = true) → DataW.TrodAll enc P W' 0 sp true ts vs ds p
  | [], vs, ds, p, _, h, _, _ => by
    obtain ⟨rfl, rfl, rfl⟩ := trodAll_nil h
    exact h
  | t :: ts, vs, ds, p, hr, h, hlt, hsp => by
    obtain ⟨v, vs1, d, ds1, a, b, rfl, rfl, rfl, h1, h2⟩ := trodAll_cons h
    have r := hr t (by simp)
    refine ⟨a, b, WideElems.Trod_stays hl r.1 r.2 h1 (fun x hx => hb.same (hlt x (by simp [hx]))) (fun x hx => hsp x (by simp [hx])), ?_, rfl⟩
    exact trodAll_old hl hb sp ts vs1 ds1 b (fun t ht => hr t (by simp [ht])) h2 (fun x hx => hlt x (by simp [hx])) (fun x hx => hsp x (by simp [hx]))
theorem settled {fn : Func} {s : ChangeSpec} {apart fresh handsOn again : Bool} {args : Array Value} {ds gs : List (DataW H)} {before : List MemPlace} {tb : TypeId}
    (hW : DataW.Whole enc P fn.params.toList s.vars apart W args.toList ds gs before) (hvars : s.vars = []) (hspec : ∀ gs', gs' = [] → s.fn H (ds ++ gs') = { results := [.lit (.bool true)], args := ds })
    (hres : fn.resultTypes = #[tb]) (htb : P.underlying tb = some .bool) (hl : laidOutB P = true) (hr : ∀ t ∈ fn.params.toList, P.readableRec t = true ∧ t < P.types.size) (hb : Below W.heap.size W W') :
    s.post enc P fn apart fresh handsOn again W args (.bool true) W' := by
  have hW' := hW
  have hlt := hW.lt
  obtain ⟨p, q, hA, hV, rfl, hfz, hnd⟩ := hW
  rw [hvars] at hV
  obtain ⟨rfl, rfl⟩ := trodVars_none hV
  have hs := hspec [] rfl
  have hargs : ∀ sp : Nat → Bool, (∀ x ∈ p, sp x.block = true) → DataW.TrodAll enc P W' 0 sp true fn.params.toList args.toList ds p := fun sp hsp =>
    trodAll_old hl hb sp _ _ _ _ hr hA (fun x hx => hlt x (by simp [hx])) hsp
  have hbool : ∀ (b : Nat) (sp : Nat → Bool) (hd : Bool), DataW.TrodAll enc P W' b sp hd fn.resultTypes.toList ((Value.bool true).resultList fn.resultTypes.size) [.lit (.bool true)] [] := by
    intro b sp hd
    rw [hres]
    exact trodAll_cons_mk (shut_bool htb _) trodAll_mk0
  refine ⟨ds, [], p ++ [], [], p, [], hW', ?_, ?_, ?_, hb.frame _, fun _ => ⟨ok_one hres rfl (okWide_bool_mk htb _), [.lit (.bool true)] ++ ds, [], p, ⟨p, [], ?_, ?_, by simp, ?_, ?_⟩, ?_⟩⟩
  · rw [hs]; exact hbool _ _ _
  · rw [hs]; exact hargs _ (fun x hx => by simpa using hlt x (by simp [hx]))
  · rw [hs, hvars]; exact hV
  · exact trodAll_append (hargs _ (fun _ _ => rfl)) (hbool _ _ _)
  · rw [hvars]; exact hV
  · intro b off hp
    rw [hb.frozen (p := ⟨b, off, none⟩) (hlt (.cell b off) (by simp [hp]))]
    exact hfz b off (by simp [hp])
  · intro ha
    have := hnd ha
    simpa using this
  · intro x hx _
    simp [hx]
theorem old_calls {f : FuncId} {args : Array Value} (h : Fn P f args [Old W] fun v L => v = .bool true ∧ L = [Old W]) :
    Calls P f args W fun e W' => e = .returned (.bool true) ∧ Below W.heap.size W W' := by
  have h0 : St [Old W] W := ⟨fun b => W.heap[b]?, fun _ => none, fun _ => .inr rfl, fun b o h => h, fun b o h => (by cases h), fun b hb => rfl, trivial⟩
  refine (h [] W h0).mono ?_
  rintro e W' ⟨v, L, ⟨rfl, rfl⟩, rfl, hs, hk⟩
  refine ⟨rfl, hk.os, hk.tape, hk.output, hk.size, fun k hk' => ?_⟩
  obtain ⟨h1, a1, hp⟩ := sep_head hs
  have e1 := hp k hk'
  have : ∃ o, W.heap[k]? = some o := ⟨_, Array.getElem?_eq_getElem hk'⟩
  obtain ⟨o, ho⟩ := this
  rw [ho] at e1 ⊢
  exact a1 _ _ e1
theorem old_rd {a : Addr} {len cap : Nat} {V : Nat → Value} (hc : ∀ i, i < len → W.cell? (a.add i) = some (V i)) (hle : len ≤ cap) : ∀ h : Hp, Old W h → rdS 1 h (.slice (some a) len cap) len ((List.range len).map V) := by
  intro h hold
  rcases Nat.eq_zero_or_pos len with rfl | hpos
  · exact .inl ⟨rfl, rfl, some a, cap, rfl⟩
  · obtain ⟨b, off, spot⟩ := a
    have h0 := hc 0 hpos
    have e0 : (⟨b, off, spot⟩ : Addr).add 0 = ⟨b, off, spot⟩ := by simp [Addr.add]
    rw [e0] at h0
    simp only [World.cell?] at h0
    rcases hw : W.heap[b]? with _ | o
    · rw [hw] at h0; cases h0
    · cases o with
      | cells c T fr =>
        rw [hw] at h0
        dsimp only at h0
        split at h0
        · cases h0
        · rename_i hsp
          have hspot : spot = none := by simpa using hsp
          subst hspot
          have hc' : ∀ i, i < len → c[off + i]? = some (V i) := by
            intro i hi
            have := hc i hi
            have e1 : (⟨b, off, none⟩ : Addr).add i = ⟨b, off + i, none⟩ := by
              simp only [Addr.add]; split
              · rename_i h0; simp [h0]
              · rfl
            rw [e1] at this
            simp only [World.cell?, hw] at this
            simpa using this
          have hlt : b < W.heap.size := by
            rcases Nat.lt_or_ge b W.heap.size with h' | h'
            · exact h'
            · rw [Array.getElem?_eq_none h'] at hw; cases hw
          have hlen : off + len ≤ c.size := by
            have := hc' (len - 1) (by omega)
            rcases Nat.lt_or_ge (off + (len - 1)) c.size with h' | h'
            · omega
            · rw [Array.getElem?_eq_none h'] at this; cases this
          refine .inr ⟨b, off, cap, c.toList, T, fr, rfl, by rw [hold b hlt, hw], ?_, by simpa using hlen, hle⟩
          apply List.ext_getElem?
          intro i
          rw [Nat.mul_one, List.getElem?_take, List.getElem?_map, List.getElem?_drop]
          split
          · rename_i hi
            rw [List.getElem?_range hi]
            simpa using hc' i hi
          · rename_i hi
            rw [List.getElem?_eq_none (by simpa using hi)]; rfl
      | _ => rw [hw] at h0; cases h0
end
end Go.Proofs.YtnnbelmpbmfdnaaGreatDoor

/- Own work: strings and rows of strings as arguments. -/
namespace Go.Proofs.YtnnbelmpbmfdnaaGreatDoor
open Go Go.ChangeShapes Go.WideShapes Go.ChangeAt Go.RowKit

section
variable {H : Type} {enc : TypeId × Value → H} {P : Program} {W : World}
theorem string_vstr (s : ByteArray) : Value.string s = vstr s.data.toList := by cases s; rfl
end
end Go.Proofs.YtnnbelmpbmfdnaaGreatDoor

/- Own work: nested arguments decoded: slices of structs, and what the row says of their weight. -/

namespace Go.Proofs.YtnnbelmpbmfdnaaGreatDoor
open Go Go.ChangeShapes Go.WideShapes Go.ChangeAt Go.RowKit

section
variable {H : Type} {enc : TypeId × Value → H} {P : Program} {W : World}
/-- No slice and no string in this datum weighs more than the row's reach. -/
def Light (P : Program) (t : TypeId) (d : DataW H) : Prop := ∀ n ∈ d.weights P t, n ≤ reachBytes
theorem flat_at {α : Type} {sz : Nat} (f : Nat → List α) : ∀ n, (∀ i, i < n → (f i).length = sz) → ∀ j, j < n * sz → ((List.range n).flatMap f)[j]? = (f (j / sz))[j % sz]? ∧ ((List.range n).flatMap f).length = n * sz := by
  intro n
  induction n with
  | zero => intro _ j hj; omega
  | succ n ih =>
    intro hf j hj
    have hn := hf n (by omega)
    have hlen : ((List.range n).flatMap f).length = n * sz := by
      rcases Nat.eq_zero_or_pos (n * sz) with h0 | h0
      · rcases Nat.eq_zero_or_pos n with h1 | h1
        · subst h1; simp
        · have : sz = 0 := by
            rcases Nat.eq_zero_or_pos sz with h2 | h2
            · exact h2
            · have := Nat.mul_pos h1 h2; omega
          subst this; omega
      · exact (ih (fun i hi => hf i (by omega)) 0 h0).2
    have e : (List.range (n + 1)).flatMap f = (List.range n).flatMap f ++ f n := by simp [List.range_succ]
    have hm : (n + 1) * sz = n * sz + sz := by rw [Nat.add_mul, Nat.one_mul]
    rw [e]
    refine ⟨?_, by rw [List.length_append, hlen, hn, hm]⟩
    rcases Nat.lt_or_ge j (n * sz) with h | h
    · rw [List.getElem?_append_left (by omega)]
      exact (ih (fun i hi => hf i (by omega)) j h).1
    · rw [List.getElem?_append_right (by omega), hlen]
      have hs : 0 < sz := by omega
      have h1 : j / sz = n := by
        have : j < (n + 1) * sz := hj
        have a := Nat.div_lt_of_lt_mul (show j < sz * (n + 1) by rw [Nat.mul_comm]; exact this)
        have b := (Nat.le_div_iff_mul_le hs).2 h
        omega
      have h2 : j % sz = j - n * sz := by
        have := Nat.div_add_mod j sz
        rw [h1, Nat.mul_comm] at this; omega
      rw [h1, h2]
theorem rdS_regroup {sz n c c1 : Nat} {a : Option Addr} {ys : List Value} {h : Hp} (hr : rdS 1 h (.slice a (n * sz) c1) (n * sz) ys) (hc : n ≤ c) (hs : 0 < sz) : rdS sz h (.slice a n c) n ys := by
  rcases hr with ⟨h1, h2, -⟩ | ⟨b, off, cap, l, T, fr, hv, hb, h1, h2, h3⟩
  · have : n = 0 := by
      rcases Nat.eq_zero_or_pos n with h0 | h0
      · exact h0
      · have := Nat.mul_pos h0 hs; omega
    subst this
    exact .inl ⟨rfl, h2, a, c, rfl⟩
  · simp only [Value.slice.injEq] at hv
    obtain ⟨rfl, -, -⟩ := hv
    exact .inr ⟨b, off, c, l, T, fr, rfl, hb, by rw [← h1, Nat.mul_one], by rw [Nat.mul_one] at h2; exact h2, hc⟩
abbrev Reads (enc : TypeId × Value → H) (P : Program) (W : World) (fuel : Nat) (t : TypeId) (cs : List Value) (x : DataW H × List MemPlace) : Prop := DataW.trod enc P W 0 (fun _ => true) true fuel t cs = some x
theorem dec_int {t : TypeId} {fuel : Nat} {cs : List Value} {x : DataW H × List MemPlace} (ht : P.underlying t = some (.int .i64)) (h : Reads enc P W fuel t cs x) : ∃ n : Int, cs = [vint n] ∧ -9223372036854775808 ≤ n ∧ n ≤ 9223372036854775807 := by
  obtain ⟨n, rfl, -, hwf⟩ := DataW.trod_int ht h
  exact ⟨n, rfl, bounds_i64 hwf⟩
theorem dec_bool {t : TypeId} {fuel : Nat} {cs : List Value} {x : DataW H × List MemPlace} (ht : P.underlying t = some .bool) (h : Reads enc P W fuel t cs x) : ∃ b : Bool, cs = [.bool b] := by
  obtain ⟨b, rfl, -⟩ := DataW.trod_bool ht h
  exact ⟨b, rfl⟩
end
end Go.Proofs.YtnnbelmpbmfdnaaGreatDoor

/- Own work: arguments of a bounded bulk (the second form's bound), decoded. -/
namespace Go.Proofs.YtnnbelmpbmfdnaaGreatDoor
open Go Go.ChangeShapes Go.WideShapes Go.ChangeAt Go.RowKit

theorem bulk_pos {H : Type} (d : DataW H) : 1 ≤ Rows.uptoBulk d := by
  cases d with
  | lit l => cases l <;> simp [Rows.uptoBulk]
  | _ => simp [Rows.uptoBulk]
theorem bulk_part {H : Type} {d : DataW H} : ∀ {l : List (DataW H)}, d ∈ l → Rows.uptoBulk d ≤ Rows.uptoBulkAll l
  | x :: l, h => by
    unfold Rows.uptoBulkAll
    rcases List.mem_cons.1 h with rfl | h
    · omega
    · have := bulk_part h; omega
theorem bulk_count {H : Type} : ∀ l : List (DataW H), l.length ≤ Rows.uptoBulkAll l
  | [] => by simp
  | x :: l => by
    have h1 := bulk_pos x
    have h2 := bulk_count l
    unfold Rows.uptoBulkAll
    rw [List.length_cons]; omega
theorem bulk_sum {H : Type} : ∀ l : List (DataW H), (l.map Rows.uptoBulk).sum ≤ Rows.uptoBulkAll l
  | [] => by simp
  | x :: l => by
    have h2 := bulk_sum l
    unfold Rows.uptoBulkAll
    rw [List.map_cons, List.sum_cons]; omega
theorem bulk_agg {H : Type} {d : DataW H} {l : List (DataW H)} {N : Nat} (h : Rows.uptoBulk (.agg l) ≤ N) (hd : d ∈ l) : Rows.uptoBulk d ≤ N := by
  have := bulk_part hd
  simp only [Rows.uptoBulk] at h
  omega
theorem bulk_small {H : Type} {l : List (DataW H)} (h : Rows.uptoSmall H l = true) {d : DataW H} (hd : d ∈ l) : Rows.uptoBulk d ≤ 1048576 :=
  Nat.le_trans (bulk_part hd) (of_decide_eq_true h)
instance : Inhabited Value := ⟨.bool false⟩
section
variable {H : Type} {enc : TypeId × Value → H} {P : Program} {W : World} {N : Nat}
theorem dec_str {t : TypeId} {fuel : Nat} {cs : List Value} {x : DataW H × List MemPlace} (ht : P.underlying t = some .string) (h : Reads enc P W fuel t cs x) (hb : Rows.uptoBulk x.1 ≤ N) : ∃ s : List UInt8, cs = [vstr s] ∧ s.length ≤ N := by
  obtain ⟨s, rfl, rfl, -⟩ := DataW.trod_string ht h
  simp only [Rows.uptoBulk] at hb
  exact ⟨s.data.toList, by rw [string_vstr], by omega⟩
theorem dec_int' {t : TypeId} {fuel : Nat} {cs : List Value} {x : DataW H × List MemPlace} (ht : P.underlying t = some (.int .i64)) (h : Reads enc P W fuel t cs x) : ∃ n : Int, cs = [vint n] ∧ (-9223372036854775808 ≤ n ∧ n ≤ 9223372036854775807) := by
  obtain ⟨n, h1, h2⟩ := dec_int ht h; exact ⟨n, h1, h2⟩
theorem slice_cell {t e : TypeId} {fuel : Nat} {v : Value} {x : DataW H × List MemPlace} (ht : P.underlying t = some (.slice e)) (h : Reads enc P W fuel t [v] x) : isCell v = true := by
  rcases Go.Deep.open_slice ht h with ⟨hv, -⟩ | ⟨a, len, cap, m, n, Dd, Pl, hv, -⟩
  · rw [List.cons.injEq] at hv; rw [hv.1]; rfl
  · rw [List.cons.injEq] at hv; rw [hv.1]; rfl
/-- A slice, each of whose elements is decoded. -/
theorem dec_sliceV {Z : Type} [Inhabited Z] (toC : Z → List Value) (Q : Z → Prop) {t e : TypeId} {sz : Nat} {fuel : Nat} {cs : List Value} {x : DataW H × List MemPlace} (ht : P.underlying t = some (.slice e)) (hc : P.cellsOf e = sz) (hs : 0 < sz)
    (hdec : ∀ (n : Nat) (cs : List Value) (y : DataW H × List MemPlace), Reads enc P W n e cs y → Rows.uptoBulk y.1 ≤ N → ∃ z, cs = toC z ∧ Q z) (h : Reads enc P W fuel t cs x) (hb : Rows.uptoBulk x.1 ≤ N + 1) :
    ∃ z : Value × List Z, cs = [z.1] ∧ (∀ h : Hp, Old W h → rdS sz h z.1 z.2.length (z.2.flatMap toC)) ∧ z.2.length ≤ N ∧ ∀ y ∈ z.2, Q y := by
  subst hc
  rcases Go.Deep.open_slice ht h with ⟨rfl, rfl⟩ | ⟨a, len, cap, m, n, Dd, Pl, rfl, -, hl, hm, hmm, rfl, hx⟩
  · exact ⟨(_, []), rfl, fun h _ => .inl ⟨rfl, rfl, none, 0, rfl⟩, by simp, by simp⟩
  · simp only [if_true] at hmm
    subst hmm
    have hbl : len ≤ N := by
      have := bulk_count ((List.range len).map Dd)
      simp only [Rows.uptoBulk] at hb
      rw [List.length_map, List.length_range] at this
      omega
    have hbe : ∀ i, i < len → Rows.uptoBulk (Dd i) ≤ N := fun i hi => by
      have := bulk_part (d := Dd i) (l := (List.range len).map Dd) (List.mem_map_of_mem (by simpa using hi))
      simp only [Rows.uptoBulk] at hb
      omega
    obtain ⟨Zf, hZ⟩ := Go.Deep.choose_lt (α := Z) (p := fun i z => W.cells? 0 (a.add (i * P.cellsOf e)) (P.cellsOf e) = some (toC z) ∧ Q z) (n := len) (fun i hi => by
      obtain ⟨cs', h1, h2⟩ := hx i (by omega)
      obtain ⟨z, rfl, h3⟩ := hdec _ _ _ h2 (hbe i hi)
      exact ⟨z, h1, h3⟩)
    have hlenf : ∀ i, i < len → (toC (Zf i)).length = P.cellsOf e := fun i hi => (World.cells?_some (hZ i hi).1).2.1
    have hflat := flat_at (fun i => toC (Zf i)) len hlenf
    refine ⟨(_, (List.range len).map Zf), rfl, ?_, ?_, ?_⟩
    · intro h hold
      dsimp only
      rw [List.length_map, List.length_range]
      refine rdS_regroup (c1 := len * P.cellsOf e) ?_ hl hs
      have e1 : ((List.range len).map Zf).flatMap toC = (List.range (len * P.cellsOf e)).map (fun j => ((List.range len).flatMap fun i => toC (Zf i)).getD j (.bool false)) := by
        rw [List.flatMap_map]
        apply List.ext_getElem?
        intro j
        rcases Nat.lt_or_ge j (len * P.cellsOf e) with hj | hj
        · rw [List.getElem?_map, List.getElem?_range hj]
          have := (hflat j hj).2
          have hjl : j < ((List.range len).flatMap fun i => toC (Zf i)).length := by omega
          simp only [Option.map_some, List.getD_eq_getElem?_getD, List.getElem?_eq_getElem hjl, Option.getD_some]
        · have : ((List.range len).flatMap fun i => toC (Zf i)).length = len * P.cellsOf e := by
            rcases Nat.eq_zero_or_pos (len * P.cellsOf e) with h0 | h0
            · have : len = 0 := by
                rcases Nat.eq_zero_or_pos len with h1 | h1
                · exact h1
                · have := Nat.mul_pos h1 hs; omega
              subst this; simp
            · exact (hflat 0 h0).2
          rw [List.getElem?_eq_none (by omega), List.getElem?_eq_none (by simpa using hj)]
      rw [e1]
      refine old_rd (W := W) (fun j hj => ?_) (Nat.le_refl _) h hold
      have hi : j / P.cellsOf e < len := Nat.div_lt_of_lt_mul (by rw [Nat.mul_comm]; exact hj)
      have hcell := (World.cells?_some (hZ (j / P.cellsOf e) hi).1).2.2 (j % P.cellsOf e) (Nat.mod_lt _ hs)
      rw [Addr.add_add, Nat.mul_comm, Nat.div_add_mod] at hcell
      rw [hcell]
      obtain ⟨f1, f2⟩ := hflat j hj
      rw [List.getD_eq_getElem?_getD, f1]
      have : j % P.cellsOf e < (toC (Zf (j / P.cellsOf e))).length := by rw [hlenf _ hi]; exact Nat.mod_lt _ hs
      simp [this]
    · dsimp only; rw [List.length_map, List.length_range]; exact hbl
    · intro z hz
      obtain ⟨i, hi, rfl⟩ := List.mem_map.1 hz
      exact (hZ i (by simpa using hi)).2
theorem dec_sliceU {Z : Type} [Inhabited Z] (toC : Z → List Value) (Q : Z → Prop) {t e : TypeId} {sz : Nat} {fuel : Nat} {cs : List Value} {x : DataW H × List MemPlace} (ht : P.underlying t = some (.slice e)) (hc : P.cellsOf e = sz) (hs : 0 < sz)
    (hdec : ∀ (n : Nat) (cs : List Value) (y : DataW H × List MemPlace), Reads enc P W n e cs y → Rows.uptoBulk y.1 ≤ N → ∃ z, cs = toC z ∧ Q z) (h : Reads enc P W fuel t cs x) (hb : Rows.uptoBulk x.1 ≤ N) :
    ∃ z : Value × List Z, cs = [z.1] ∧ (∀ h : Hp, Old W h → rdS sz h z.1 z.2.length (z.2.flatMap toC)) ∧ z.2.length ≤ N ∧ ∀ y ∈ z.2, Q y :=
  dec_sliceV toC Q ht hc hs hdec h (by omega)
/-- The same: one fewer than the bulk. -/
theorem dec_sliceT {Z : Type} [Inhabited Z] (toC : Z → List Value) (Q : Z → Prop) {t e : TypeId} {sz : Nat} {fuel : Nat} {cs : List Value} {x : DataW H × List MemPlace} (ht : P.underlying t = some (.slice e)) (hc : P.cellsOf e = sz) (hs : 0 < sz)
    (hdec : ∀ (n : Nat) (cs : List Value) (y : DataW H × List MemPlace), Reads enc P W n e cs y → Rows.uptoBulk y.1 ≤ N → ∃ z, cs = toC z ∧ Q z) (h : Reads enc P W fuel t cs x) (hb : Rows.uptoBulk x.1 ≤ N) :
    ∃ z : Value × List Z, cs = [z.1] ∧ (∀ h : Hp, Old W h → rdS sz h z.1 z.2.length (z.2.flatMap toC)) ∧ z.2.length + 1 ≤ N ∧ ∀ y ∈ z.2, Q y := by
  have h1 := bulk_pos x.1
  obtain ⟨z, a, b, c, d⟩ := dec_sliceV (N := N - 1) toC Q ht hc hs (fun n cs y h hb => hdec n cs y h (by omega)) h (by omega)
  exact ⟨z, a, b, by omega, d⟩
/-- The same, with each element's own bulk, and their sum. -/
theorem dec_sliceQ {Z : Type} [Inhabited Z] (toC : Z → List Value) (Q : Nat → Z → Prop) {t e : TypeId} {sz : Nat} {fuel : Nat} {cs : List Value} {x : DataW H × List MemPlace} (ht : P.underlying t = some (.slice e)) (hc : P.cellsOf e = sz) (hs : 0 < sz)
    (hdec : ∀ (n : Nat) (cs : List Value) (y : DataW H × List MemPlace), Reads enc P W n e cs y → ∃ z, cs = toC z ∧ Q (Rows.uptoBulk y.1) z) (h : Reads enc P W fuel t cs x) (hb : Rows.uptoBulk x.1 ≤ N) :
    ∃ (z : Value × List Z) (ws : List Nat), cs = [z.1] ∧ (∀ h : Hp, Old W h → rdS sz h z.1 z.2.length (z.2.flatMap toC)) ∧ z.2.length ≤ N ∧ ws.length = z.2.length ∧ ws.sum ≤ N ∧ (∀ w ∈ ws, 1 ≤ w) ∧ ∀ i (h1 : i < z.2.length) (h2 : i < ws.length), Q ws[i] z.2[i] := by
  subst hc
  rcases Go.Deep.open_slice ht h with ⟨rfl, rfl⟩ | ⟨a, len, cap, m, n, Dd, Pl, rfl, -, hl, hm, hmm, rfl, hx⟩
  · exact ⟨(_, []), [], rfl, fun h _ => .inl ⟨rfl, rfl, none, 0, rfl⟩, by simp, rfl, by simp, (fun _ h => by cases h), (fun i h1 _ => by simp at h1)⟩
  · simp only [if_true] at hmm
    subst hmm
    have hbl : len ≤ N := by
      have := bulk_count ((List.range len).map Dd)
      simp only [Rows.uptoBulk] at hb
      rw [List.length_map, List.length_range] at this
      omega
    have hall : ((List.range len).map fun i => Rows.uptoBulk (Dd i)).sum ≤ N := by
      have := bulk_sum ((List.range len).map Dd)
      rw [List.map_map] at this
      simp only [Rows.uptoBulk] at hb
      have e : ((List.range len).map fun i => Rows.uptoBulk (Dd i)) = (List.range len).map (Rows.uptoBulk ∘ Dd) := rfl
      rw [e]; omega
    obtain ⟨Zf, hZ⟩ := Go.Deep.choose_lt (α := Z) (p := fun i z => W.cells? 0 (a.add (i * P.cellsOf e)) (P.cellsOf e) = some (toC z) ∧ Q (Rows.uptoBulk (Dd i)) z) (n := len) (fun i hi => by
      obtain ⟨cs', h1, h2⟩ := hx i (by omega)
      obtain ⟨z, rfl, h3⟩ := hdec _ _ _ h2
      exact ⟨z, h1, h3⟩)
    have hlenf : ∀ i, i < len → (toC (Zf i)).length = P.cellsOf e := fun i hi => (World.cells?_some (hZ i hi).1).2.1
    have hflat := flat_at (fun i => toC (Zf i)) len hlenf
    refine ⟨(_, (List.range len).map Zf), (List.range len).map fun i => Rows.uptoBulk (Dd i), rfl, ?_, ?_, by simp, hall, ?_, ?_⟩
    · intro h hold
      dsimp only
      rw [List.length_map, List.length_range]
      refine rdS_regroup (c1 := len * P.cellsOf e) ?_ hl hs
      have e1 : ((List.range len).map Zf).flatMap toC = (List.range (len * P.cellsOf e)).map (fun j => ((List.range len).flatMap fun i => toC (Zf i)).getD j (.bool false)) := by
        rw [List.flatMap_map]
        apply List.ext_getElem?
        intro j
        rcases Nat.lt_or_ge j (len * P.cellsOf e) with hj | hj
        · rw [List.getElem?_map, List.getElem?_range hj]
          have := (hflat j hj).2
          have hjl : j < ((List.range len).flatMap fun i => toC (Zf i)).length := by omega
          simp only [Option.map_some, List.getD_eq_getElem?_getD, List.getElem?_eq_getElem hjl, Option.getD_some]
        · have : ((List.range len).flatMap fun i => toC (Zf i)).length = len * P.cellsOf e := by
            rcases Nat.eq_zero_or_pos (len * P.cellsOf e) with h0 | h0
            · have : len = 0 := by
                rcases Nat.eq_zero_or_pos len with h1 | h1
                · exact h1
                · have := Nat.mul_pos h1 hs; omega
              subst this; simp
            · exact (hflat 0 h0).2
          rw [List.getElem?_eq_none (by omega), List.getElem?_eq_none (by simpa using hj)]
      rw [e1]
      refine old_rd (W := W) (fun j hj => ?_) (Nat.le_refl _) h hold
      have hi : j / P.cellsOf e < len := Nat.div_lt_of_lt_mul (by rw [Nat.mul_comm]; exact hj)
      have hcell := (World.cells?_some (hZ (j / P.cellsOf e) hi).1).2.2 (j % P.cellsOf e) (Nat.mod_lt _ hs)
      rw [Addr.add_add, Nat.mul_comm, Nat.div_add_mod] at hcell
      rw [hcell]
      obtain ⟨f1, f2⟩ := hflat j hj
      rw [List.getD_eq_getElem?_getD, f1]
      have : j % P.cellsOf e < (toC (Zf (j / P.cellsOf e))).length := by rw [hlenf _ hi]; exact Nat.mod_lt _ hs
      simp [this]
    · dsimp only; rw [List.length_map, List.length_range]; exact hbl
    · intro w hw
      obtain ⟨i, -, rfl⟩ := List.mem_map.1 hw
      exact bulk_pos _
    · intro i h1 h2
      simp only [List.getElem_map, List.getElem_range]
      exact (hZ i (by simpa using h1)).2
end
end Go.Proofs.YtnnbelmpbmfdnaaGreatDoor

/- Own work, by program: what the arguments are. -/
namespace Go.Proofs.YtnnbelmpbmfdnaaGreatDoor
open Go Go.ChangeShapes Go.WideShapes Go.ChangeAt Go.RowKit
theorem cells_3 : Tryz.prog.cellsOf 3 = 1 := by kernel_rfl
theorem cells_9 : Tryz.prog.cellsOf 9 = 1 := by kernel_rfl
theorem cells_104 : Tryz.prog.cellsOf 104 = 2 := by kernel_rfl
def okAcl (N : Nat) (_p : HP) (z : Ac) : Prop := (-9223372036854775808 ≤ z.1 ∧ z.1 ≤ 9223372036854775807) ∧ z.2.length ≤ N
set_option maxRecDepth 100000 in
theorem dec_Acl {H : Type} {enc : TypeId × Value → H} {W : World} {N : Nat} (n : Nat) (cs : List Value) (y : DataW H × List MemPlace) (h : Reads enc Tryz.prog W n 104 cs y) (hb : Rows.uptoBulk y.1 ≤ N) : ∃ z : Ac, cs = acC z ∧ okAcl N (Old W) z := by
  obtain ⟨xs, m, -, rfl, hlen, hxs, hf⟩ := DataW.trod_struct Tryz.underlying104 h
  rw [cells_104] at hlen
  obtain ⟨a0, a1, rfl⟩ : ∃ a0 a1, cs = [a0, a1] := by
    match cs, hlen with
    | [a0, a1], _ => exact ⟨a0, a1, rfl⟩
  obtain ⟨y0, y1, rfl⟩ : ∃ y0 y1, xs = [y0, y1] := by
    match xs, hxs with
    | [y0, y1], _ => exact ⟨y0, y1, rfl⟩
  have f0 := hf 0 _ rfl
  have g0 : Reads enc Tryz.prog W m 3 (([a0, a1] : List Value).drop 0 |>.take (Tryz.prog.cellsOf 3)) y0 := f0
  rw [cells_3] at g0
  have b0 : Rows.uptoBulk y0.1 ≤ N := bulk_agg hb (by simp)
  obtain ⟨z0, e0, q0⟩ := dec_int' Tryz.underlying3 g0
  simp at e0
  have f1 := hf 1 _ rfl
  have g1 : Reads enc Tryz.prog W m 9 (([a0, a1] : List Value).drop 1 |>.take (Tryz.prog.cellsOf 9)) y1 := f1
  rw [cells_9] at g1
  have b1 : Rows.uptoBulk y1.1 ≤ N := bulk_agg hb (by simp)
  obtain ⟨z1, e1, q1⟩ := dec_str Tryz.underlying9 g1 b1
  simp at e1
  subst e0
  subst e1
  exact ⟨(z0, z1), rfl, q0, q1⟩
theorem cells_34 : Tryz.prog.cellsOf 34 = 1 := by kernel_rfl
theorem cells_31 : Tryz.prog.cellsOf 31 = 1 := by kernel_rfl
theorem cells_35 : Tryz.prog.cellsOf 35 = 1 := by kernel_rfl
theorem cells_37 : Tryz.prog.cellsOf 37 = 8 := by kernel_rfl
abbrev ZTxn := Int × (Bs × (Bs × ((Value × List Ac) × (Int × (Int × (Int × Value))))))
def cTxn (z : ZTxn) : List Value := [vint z.1, vstr z.2.1, vstr z.2.2.1, z.2.2.2.1.1, vint z.2.2.2.2.1, vint z.2.2.2.2.2.1, vint z.2.2.2.2.2.2.1, z.2.2.2.2.2.2.2]
def okTxn (N : Nat) (_p : HP) (z : ZTxn) : Prop := (-9223372036854775808 ≤ z.1 ∧ z.1 ≤ 9223372036854775807) ∧ z.2.1.length ≤ N ∧ z.2.2.1.length ≤ N ∧ ((∀ h : Hp, _p h → rdS 2 h z.2.2.2.1.1 z.2.2.2.1.2.length (z.2.2.2.1.2.flatMap (acC))) ∧ z.2.2.2.1.2.length + 1 ≤ N ∧ ∀ y ∈ z.2.2.2.1.2, okAcl N _p y) ∧ (-9223372036854775808 ≤ z.2.2.2.2.1 ∧ z.2.2.2.2.1 ≤ 9223372036854775807) ∧ (-9223372036854775808 ≤ z.2.2.2.2.2.1 ∧ z.2.2.2.2.2.1 ≤ 9223372036854775807) ∧ (-9223372036854775808 ≤ z.2.2.2.2.2.2.1 ∧ z.2.2.2.2.2.2.1 ≤ 9223372036854775807) ∧ isCell z.2.2.2.2.2.2.2 = true
set_option maxRecDepth 100000 in
theorem dec_Txn {H : Type} {enc : TypeId × Value → H} {W : World} {N : Nat} (n : Nat) (cs : List Value) (y : DataW H × List MemPlace) (h : Reads enc Tryz.prog W n 37 cs y) (hb : Rows.uptoBulk y.1 ≤ N) : ∃ z : ZTxn, cs = cTxn z ∧ okTxn N (Old W) z := by
  obtain ⟨xs, m, -, rfl, hlen, hxs, hf⟩ := DataW.trod_struct Tryz.underlying37 h
  rw [cells_37] at hlen
  obtain ⟨a0, a1, a2, a3, a4, a5, a6, a7, rfl⟩ : ∃ a0 a1 a2 a3 a4 a5 a6 a7, cs = [a0, a1, a2, a3, a4, a5, a6, a7] := by
    match cs, hlen with
    | [a0, a1, a2, a3, a4, a5, a6, a7], _ => exact ⟨a0, a1, a2, a3, a4, a5, a6, a7, rfl⟩
  obtain ⟨y0, y1, y2, y3, y4, y5, y6, y7, rfl⟩ : ∃ y0 y1 y2 y3 y4 y5 y6 y7, xs = [y0, y1, y2, y3, y4, y5, y6, y7] := by
    match xs, hxs with
    | [y0, y1, y2, y3, y4, y5, y6, y7], _ => exact ⟨y0, y1, y2, y3, y4, y5, y6, y7, rfl⟩
  have f0 := hf 0 _ rfl
  have g0 : Reads enc Tryz.prog W m 3 (([a0, a1, a2, a3, a4, a5, a6, a7] : List Value).drop 0 |>.take (Tryz.prog.cellsOf 3)) y0 := f0
  rw [cells_3] at g0
  have b0 : Rows.uptoBulk y0.1 ≤ N := bulk_agg hb (by simp)
  obtain ⟨z0, e0, q0⟩ := dec_int' Tryz.underlying3 g0
  simp at e0
  have f1 := hf 1 _ rfl
  have g1 : Reads enc Tryz.prog W m 9 (([a0, a1, a2, a3, a4, a5, a6, a7] : List Value).drop 1 |>.take (Tryz.prog.cellsOf 9)) y1 := f1
  rw [cells_9] at g1
  have b1 : Rows.uptoBulk y1.1 ≤ N := bulk_agg hb (by simp)
  obtain ⟨z1, e1, q1⟩ := dec_str Tryz.underlying9 g1 b1
  simp at e1
  have f2 := hf 2 _ rfl
  have g2 : Reads enc Tryz.prog W m 9 (([a0, a1, a2, a3, a4, a5, a6, a7] : List Value).drop 2 |>.take (Tryz.prog.cellsOf 9)) y2 := f2
  rw [cells_9] at g2
  have b2 : Rows.uptoBulk y2.1 ≤ N := bulk_agg hb (by simp)
  obtain ⟨z2, e2, q2⟩ := dec_str Tryz.underlying9 g2 b2
  simp at e2
  have f3 := hf 3 _ rfl
  have g3 : Reads enc Tryz.prog W m 34 (([a0, a1, a2, a3, a4, a5, a6, a7] : List Value).drop 3 |>.take (Tryz.prog.cellsOf 34)) y3 := f3
  rw [cells_34] at g3
  have b3 : Rows.uptoBulk y3.1 ≤ N := bulk_agg hb (by simp)
  obtain ⟨z3, e3, q3⟩ := dec_sliceT (N := N) (acC) (fun y => okAcl N (Old W) y) Tryz.underlying34 cells_104 (by decide) (fun n cs y h hb => dec_Acl n cs y h hb) g3 b3
  simp at e3
  have f4 := hf 4 _ rfl
  have g4 : Reads enc Tryz.prog W m 3 (([a0, a1, a2, a3, a4, a5, a6, a7] : List Value).drop 4 |>.take (Tryz.prog.cellsOf 3)) y4 := f4
  rw [cells_3] at g4
  have b4 : Rows.uptoBulk y4.1 ≤ N := bulk_agg hb (by simp)
  obtain ⟨z4, e4, q4⟩ := dec_int' Tryz.underlying3 g4
  simp at e4
  have f5 := hf 5 _ rfl
  have g5 : Reads enc Tryz.prog W m 3 (([a0, a1, a2, a3, a4, a5, a6, a7] : List Value).drop 5 |>.take (Tryz.prog.cellsOf 3)) y5 := f5
  rw [cells_3] at g5
  have b5 : Rows.uptoBulk y5.1 ≤ N := bulk_agg hb (by simp)
  obtain ⟨z5, e5, q5⟩ := dec_int' Tryz.underlying3 g5
  simp at e5
  have f6 := hf 6 _ rfl
  have g6 : Reads enc Tryz.prog W m 31 (([a0, a1, a2, a3, a4, a5, a6, a7] : List Value).drop 6 |>.take (Tryz.prog.cellsOf 31)) y6 := f6
  rw [cells_31] at g6
  have b6 : Rows.uptoBulk y6.1 ≤ N := bulk_agg hb (by simp)
  obtain ⟨z6, e6, q6⟩ := dec_int' Tryz.underlying31 g6
  simp at e6
  have f7 := hf 7 _ rfl
  have g7 : Reads enc Tryz.prog W m 35 (([a0, a1, a2, a3, a4, a5, a6, a7] : List Value).drop 7 |>.take (Tryz.prog.cellsOf 35)) y7 := f7
  rw [cells_35] at g7
  obtain ⟨z7, e7, q7⟩ : ∃ z : Value, a7 = z ∧ isCell z = true := ⟨_, rfl, slice_cell Tryz.underlying35 g7⟩
  subst e0
  subst e1
  subst e2
  subst e3
  subst e4
  subst e5
  subst e6
  replace e7 := e7.symm
  subst e7
  exact ⟨(z0, z1, z2, z3, z4, z5, z6, z7), rfl, q0, q1, q2, q3, q4, q5, q6, q7⟩
def okTxn1 (N : Nat) (_p : HP) (z : ZTxn) : Prop := (-9223372036854775808 ≤ z.1 ∧ z.1 ≤ 9223372036854775807) ∧ z.2.1.length ≤ N ∧ z.2.2.1.length ≤ N ∧ ((∀ h : Hp, _p h → rdS 2 h z.2.2.2.1.1 z.2.2.2.1.2.length (z.2.2.2.1.2.flatMap (acC))) ∧ z.2.2.2.1.2.length + 1 ≤ N ∧ ∀ y ∈ z.2.2.2.1.2, okAcl N _p y) ∧ (-9223372036854775808 ≤ z.2.2.2.2.1 ∧ z.2.2.2.2.1 ≤ 9223372036854775807) ∧ (-9223372036854775808 ≤ z.2.2.2.2.2.1 ∧ z.2.2.2.2.2.1 ≤ 9223372036854775807) ∧ (-9223372036854775808 ≤ z.2.2.2.2.2.2.1 ∧ z.2.2.2.2.2.2.1 ≤ 9223372036854775807) ∧ (∃ l : List ZTxn, (∀ h : Hp, _p h → rdS 8 h z.2.2.2.2.2.2.2 l.length (l.flatMap (cTxn))) ∧ l.length ≤ N ∧ ∀ y ∈ l, okTxn N _p y)
set_option maxRecDepth 100000 in
theorem dec_Txn1 {H : Type} {enc : TypeId × Value → H} {W : World} {N : Nat} (n : Nat) (cs : List Value) (y : DataW H × List MemPlace) (h : Reads enc Tryz.prog W n 37 cs y) (hb : Rows.uptoBulk y.1 ≤ N) : ∃ z : ZTxn, cs = cTxn z ∧ okTxn1 N (Old W) z := by
  obtain ⟨xs, m, -, rfl, hlen, hxs, hf⟩ := DataW.trod_struct Tryz.underlying37 h
  rw [cells_37] at hlen
  obtain ⟨a0, a1, a2, a3, a4, a5, a6, a7, rfl⟩ : ∃ a0 a1 a2 a3 a4 a5 a6 a7, cs = [a0, a1, a2, a3, a4, a5, a6, a7] := by
    match cs, hlen with
    | [a0, a1, a2, a3, a4, a5, a6, a7], _ => exact ⟨a0, a1, a2, a3, a4, a5, a6, a7, rfl⟩
  obtain ⟨y0, y1, y2, y3, y4, y5, y6, y7, rfl⟩ : ∃ y0 y1 y2 y3 y4 y5 y6 y7, xs = [y0, y1, y2, y3, y4, y5, y6, y7] := by
    match xs, hxs with
    | [y0, y1, y2, y3, y4, y5, y6, y7], _ => exact ⟨y0, y1, y2, y3, y4, y5, y6, y7, rfl⟩
  have f0 := hf 0 _ rfl
  have g0 : Reads enc Tryz.prog W m 3 (([a0, a1, a2, a3, a4, a5, a6, a7] : List Value).drop 0 |>.take (Tryz.prog.cellsOf 3)) y0 := f0
  rw [cells_3] at g0
  have b0 : Rows.uptoBulk y0.1 ≤ N := bulk_agg hb (by simp)
  obtain ⟨z0, e0, q0⟩ := dec_int' Tryz.underlying3 g0
  simp at e0
  have f1 := hf 1 _ rfl
  have g1 : Reads enc Tryz.prog W m 9 (([a0, a1, a2, a3, a4, a5, a6, a7] : List Value).drop 1 |>.take (Tryz.prog.cellsOf 9)) y1 := f1
  rw [cells_9] at g1
  have b1 : Rows.uptoBulk y1.1 ≤ N := bulk_agg hb (by simp)
  obtain ⟨z1, e1, q1⟩ := dec_str Tryz.underlying9 g1 b1
  simp at e1
  have f2 := hf 2 _ rfl
  have g2 : Reads enc Tryz.prog W m 9 (([a0, a1, a2, a3, a4, a5, a6, a7] : List Value).drop 2 |>.take (Tryz.prog.cellsOf 9)) y2 := f2
  rw [cells_9] at g2
  have b2 : Rows.uptoBulk y2.1 ≤ N := bulk_agg hb (by simp)
  obtain ⟨z2, e2, q2⟩ := dec_str Tryz.underlying9 g2 b2
  simp at e2
  have f3 := hf 3 _ rfl
  have g3 : Reads enc Tryz.prog W m 34 (([a0, a1, a2, a3, a4, a5, a6, a7] : List Value).drop 3 |>.take (Tryz.prog.cellsOf 34)) y3 := f3
  rw [cells_34] at g3
  have b3 : Rows.uptoBulk y3.1 ≤ N := bulk_agg hb (by simp)
  obtain ⟨z3, e3, q3⟩ := dec_sliceT (N := N) (acC) (fun y => okAcl N (Old W) y) Tryz.underlying34 cells_104 (by decide) (fun n cs y h hb => dec_Acl n cs y h hb) g3 b3
  simp at e3
  have f4 := hf 4 _ rfl
  have g4 : Reads enc Tryz.prog W m 3 (([a0, a1, a2, a3, a4, a5, a6, a7] : List Value).drop 4 |>.take (Tryz.prog.cellsOf 3)) y4 := f4
  rw [cells_3] at g4
  have b4 : Rows.uptoBulk y4.1 ≤ N := bulk_agg hb (by simp)
  obtain ⟨z4, e4, q4⟩ := dec_int' Tryz.underlying3 g4
  simp at e4
  have f5 := hf 5 _ rfl
  have g5 : Reads enc Tryz.prog W m 3 (([a0, a1, a2, a3, a4, a5, a6, a7] : List Value).drop 5 |>.take (Tryz.prog.cellsOf 3)) y5 := f5
  rw [cells_3] at g5
  have b5 : Rows.uptoBulk y5.1 ≤ N := bulk_agg hb (by simp)
  obtain ⟨z5, e5, q5⟩ := dec_int' Tryz.underlying3 g5
  simp at e5
  have f6 := hf 6 _ rfl
  have g6 : Reads enc Tryz.prog W m 31 (([a0, a1, a2, a3, a4, a5, a6, a7] : List Value).drop 6 |>.take (Tryz.prog.cellsOf 31)) y6 := f6
  rw [cells_31] at g6
  have b6 : Rows.uptoBulk y6.1 ≤ N := bulk_agg hb (by simp)
  obtain ⟨z6, e6, q6⟩ := dec_int' Tryz.underlying31 g6
  simp at e6
  have f7 := hf 7 _ rfl
  have g7 : Reads enc Tryz.prog W m 35 (([a0, a1, a2, a3, a4, a5, a6, a7] : List Value).drop 7 |>.take (Tryz.prog.cellsOf 35)) y7 := f7
  rw [cells_35] at g7
  have b7 : Rows.uptoBulk y7.1 ≤ N := bulk_agg hb (by simp)
  obtain ⟨w7, e7, q7⟩ := dec_sliceU (N := N) (cTxn) (fun y => okTxn N (Old W) y) Tryz.underlying35 cells_37 (by decide) (fun n cs y h hb => dec_Txn n cs y h hb) g7 b7
  simp at e7
  obtain ⟨z7, l7⟩ := w7
  dsimp only at e7 q7
  subst e0
  subst e1
  subst e2
  subst e3
  subst e4
  subst e5
  subst e6
  replace e7 := e7.symm
  subst e7
  exact ⟨(z0, z1, z2, z3, z4, z5, z6, z7), rfl, q0, q1, q2, q3, q4, q5, q6, ⟨l7, q7⟩⟩
theorem cells_39 : Tryz.prog.cellsOf 39 = 11 := by kernel_rfl
abbrev ZEntry := Int × (Int × (Int × ZTxn))
def cEntry (z : ZEntry) : List Value := [vint z.1, vint z.2.1, vint z.2.2.1, vint z.2.2.2.1, vstr z.2.2.2.2.1, vstr z.2.2.2.2.2.1, z.2.2.2.2.2.2.1.1, vint z.2.2.2.2.2.2.2.1, vint z.2.2.2.2.2.2.2.2.1, vint z.2.2.2.2.2.2.2.2.2.1, z.2.2.2.2.2.2.2.2.2.2]
def okEntry (N : Nat) (_p : HP) (z : ZEntry) : Prop := (-9223372036854775808 ≤ z.1 ∧ z.1 ≤ 9223372036854775807) ∧ (-9223372036854775808 ≤ z.2.1 ∧ z.2.1 ≤ 9223372036854775807) ∧ (-9223372036854775808 ≤ z.2.2.1 ∧ z.2.2.1 ≤ 9223372036854775807) ∧ okTxn1 N _p z.2.2.2
set_option maxRecDepth 100000 in
theorem dec_Entry {H : Type} {enc : TypeId × Value → H} {W : World} {N : Nat} (n : Nat) (cs : List Value) (y : DataW H × List MemPlace) (h : Reads enc Tryz.prog W n 39 cs y) (hb : Rows.uptoBulk y.1 ≤ N) : ∃ z : ZEntry, cs = cEntry z ∧ okEntry N (Old W) z := by
  obtain ⟨xs, m, -, rfl, hlen, hxs, hf⟩ := DataW.trod_struct Tryz.underlying39 h
  rw [cells_39] at hlen
  obtain ⟨a0, a1, a2, a3, a4, a5, a6, a7, a8, a9, a10, rfl⟩ : ∃ a0 a1 a2 a3 a4 a5 a6 a7 a8 a9 a10, cs = [a0, a1, a2, a3, a4, a5, a6, a7, a8, a9, a10] := by
    match cs, hlen with
    | [a0, a1, a2, a3, a4, a5, a6, a7, a8, a9, a10], _ => exact ⟨a0, a1, a2, a3, a4, a5, a6, a7, a8, a9, a10, rfl⟩
  obtain ⟨y0, y1, y2, y3, rfl⟩ : ∃ y0 y1 y2 y3, xs = [y0, y1, y2, y3] := by
    match xs, hxs with
    | [y0, y1, y2, y3], _ => exact ⟨y0, y1, y2, y3, rfl⟩
  have f0 := hf 0 _ rfl
  have g0 : Reads enc Tryz.prog W m 3 (([a0, a1, a2, a3, a4, a5, a6, a7, a8, a9, a10] : List Value).drop 0 |>.take (Tryz.prog.cellsOf 3)) y0 := f0
  rw [cells_3] at g0
  have b0 : Rows.uptoBulk y0.1 ≤ N := bulk_agg hb (by simp)
  obtain ⟨z0, e0, q0⟩ := dec_int' Tryz.underlying3 g0
  simp at e0
  have f1 := hf 1 _ rfl
  have g1 : Reads enc Tryz.prog W m 3 (([a0, a1, a2, a3, a4, a5, a6, a7, a8, a9, a10] : List Value).drop 1 |>.take (Tryz.prog.cellsOf 3)) y1 := f1
  rw [cells_3] at g1
  have b1 : Rows.uptoBulk y1.1 ≤ N := bulk_agg hb (by simp)
  obtain ⟨z1, e1, q1⟩ := dec_int' Tryz.underlying3 g1
  simp at e1
  have f2 := hf 2 _ rfl
  have g2 : Reads enc Tryz.prog W m 3 (([a0, a1, a2, a3, a4, a5, a6, a7, a8, a9, a10] : List Value).drop 2 |>.take (Tryz.prog.cellsOf 3)) y2 := f2
  rw [cells_3] at g2
  have b2 : Rows.uptoBulk y2.1 ≤ N := bulk_agg hb (by simp)
  obtain ⟨z2, e2, q2⟩ := dec_int' Tryz.underlying3 g2
  simp at e2
  have f3 := hf 3 _ rfl
  have g3 : Reads enc Tryz.prog W m 37 (([a0, a1, a2, a3, a4, a5, a6, a7, a8, a9, a10] : List Value).drop 3 |>.take (Tryz.prog.cellsOf 37)) y3 := f3
  rw [cells_37] at g3
  have b3 : Rows.uptoBulk y3.1 ≤ N := bulk_agg hb (by simp)
  obtain ⟨z3, e3, q3⟩ := dec_Txn1 _ _ _ g3 b3
  simp [cTxn] at e3
  subst e0
  subst e1
  subst e2
  obtain ⟨rfl, rfl, rfl, rfl, rfl, rfl, rfl, rfl⟩ := e3
  exact ⟨(z0, z1, z2, z3), rfl, q0, q1, q2, q3⟩
theorem cells_75 : Tryz.prog.cellsOf 75 = 3 := by kernel_rfl
def okEvent (N : Nat) (_p : HP) (z : Ev) : Prop := (-9223372036854775808 ≤ z.1 ∧ z.1 ≤ 9223372036854775807) ∧ z.2.1.length ≤ N ∧ (-9223372036854775808 ≤ z.2.2 ∧ z.2.2 ≤ 9223372036854775807)
set_option maxRecDepth 100000 in
theorem dec_Event {H : Type} {enc : TypeId × Value → H} {W : World} {N : Nat} (n : Nat) (cs : List Value) (y : DataW H × List MemPlace) (h : Reads enc Tryz.prog W n 75 cs y) (hb : Rows.uptoBulk y.1 ≤ N) : ∃ z : Ev, cs = evC z ∧ okEvent N (Old W) z := by
  obtain ⟨xs, m, -, rfl, hlen, hxs, hf⟩ := DataW.trod_struct Tryz.underlying75 h
  rw [cells_75] at hlen
  obtain ⟨a0, a1, a2, rfl⟩ : ∃ a0 a1 a2, cs = [a0, a1, a2] := by
    match cs, hlen with
    | [a0, a1, a2], _ => exact ⟨a0, a1, a2, rfl⟩
  obtain ⟨y0, y1, y2, rfl⟩ : ∃ y0 y1 y2, xs = [y0, y1, y2] := by
    match xs, hxs with
    | [y0, y1, y2], _ => exact ⟨y0, y1, y2, rfl⟩
  have f0 := hf 0 _ rfl
  have g0 : Reads enc Tryz.prog W m 3 (([a0, a1, a2] : List Value).drop 0 |>.take (Tryz.prog.cellsOf 3)) y0 := f0
  rw [cells_3] at g0
  have b0 : Rows.uptoBulk y0.1 ≤ N := bulk_agg hb (by simp)
  obtain ⟨z0, e0, q0⟩ := dec_int' Tryz.underlying3 g0
  simp at e0
  have f1 := hf 1 _ rfl
  have g1 : Reads enc Tryz.prog W m 9 (([a0, a1, a2] : List Value).drop 1 |>.take (Tryz.prog.cellsOf 9)) y1 := f1
  rw [cells_9] at g1
  have b1 : Rows.uptoBulk y1.1 ≤ N := bulk_agg hb (by simp)
  obtain ⟨z1, e1, q1⟩ := dec_str Tryz.underlying9 g1 b1
  simp at e1
  have f2 := hf 2 _ rfl
  have g2 : Reads enc Tryz.prog W m 3 (([a0, a1, a2] : List Value).drop 2 |>.take (Tryz.prog.cellsOf 3)) y2 := f2
  rw [cells_3] at g2
  have b2 : Rows.uptoBulk y2.1 ≤ N := bulk_agg hb (by simp)
  obtain ⟨z2, e2, q2⟩ := dec_int' Tryz.underlying3 g2
  simp at e2
  subst e0
  subst e1
  subst e2
  exact ⟨(z0, z1, z2), rfl, q0, q1, q2⟩
theorem cells_30 : Tryz.prog.cellsOf 30 = 1 := by kernel_rfl
theorem cells_70 : Tryz.prog.cellsOf 70 = 5 := by kernel_rfl
def okArmed (N : Nat) (_p : HP) (z : Arm) : Prop := (-9223372036854775808 ≤ z.1 ∧ z.1 ≤ 9223372036854775807) ∧ z.2.1.length ≤ N ∧ (-9223372036854775808 ≤ z.2.2.1 ∧ z.2.2.1 ≤ 9223372036854775807) ∧ (-9223372036854775808 ≤ z.2.2.2.1 ∧ z.2.2.2.1 ≤ 9223372036854775807) ∧ (-9223372036854775808 ≤ z.2.2.2.2 ∧ z.2.2.2.2 ≤ 9223372036854775807)
set_option maxRecDepth 100000 in
theorem dec_Armed {H : Type} {enc : TypeId × Value → H} {W : World} {N : Nat} (n : Nat) (cs : List Value) (y : DataW H × List MemPlace) (h : Reads enc Tryz.prog W n 70 cs y) (hb : Rows.uptoBulk y.1 ≤ N) : ∃ z : Arm, cs = armC z ∧ okArmed N (Old W) z := by
  obtain ⟨xs, m, -, rfl, hlen, hxs, hf⟩ := DataW.trod_struct Tryz.underlying70 h
  rw [cells_70] at hlen
  obtain ⟨a0, a1, a2, a3, a4, rfl⟩ : ∃ a0 a1 a2 a3 a4, cs = [a0, a1, a2, a3, a4] := by
    match cs, hlen with
    | [a0, a1, a2, a3, a4], _ => exact ⟨a0, a1, a2, a3, a4, rfl⟩
  obtain ⟨y0, y1, y2, y3, y4, rfl⟩ : ∃ y0 y1 y2 y3 y4, xs = [y0, y1, y2, y3, y4] := by
    match xs, hxs with
    | [y0, y1, y2, y3, y4], _ => exact ⟨y0, y1, y2, y3, y4, rfl⟩
  have f0 := hf 0 _ rfl
  have g0 : Reads enc Tryz.prog W m 3 (([a0, a1, a2, a3, a4] : List Value).drop 0 |>.take (Tryz.prog.cellsOf 3)) y0 := f0
  rw [cells_3] at g0
  have b0 : Rows.uptoBulk y0.1 ≤ N := bulk_agg hb (by simp)
  obtain ⟨z0, e0, q0⟩ := dec_int' Tryz.underlying3 g0
  simp at e0
  have f1 := hf 1 _ rfl
  have g1 : Reads enc Tryz.prog W m 9 (([a0, a1, a2, a3, a4] : List Value).drop 1 |>.take (Tryz.prog.cellsOf 9)) y1 := f1
  rw [cells_9] at g1
  have b1 : Rows.uptoBulk y1.1 ≤ N := bulk_agg hb (by simp)
  obtain ⟨z1, e1, q1⟩ := dec_str Tryz.underlying9 g1 b1
  simp at e1
  have f2 := hf 2 _ rfl
  have g2 : Reads enc Tryz.prog W m 3 (([a0, a1, a2, a3, a4] : List Value).drop 2 |>.take (Tryz.prog.cellsOf 3)) y2 := f2
  rw [cells_3] at g2
  have b2 : Rows.uptoBulk y2.1 ≤ N := bulk_agg hb (by simp)
  obtain ⟨z2, e2, q2⟩ := dec_int' Tryz.underlying3 g2
  simp at e2
  have f3 := hf 3 _ rfl
  have g3 : Reads enc Tryz.prog W m 3 (([a0, a1, a2, a3, a4] : List Value).drop 3 |>.take (Tryz.prog.cellsOf 3)) y3 := f3
  rw [cells_3] at g3
  have b3 : Rows.uptoBulk y3.1 ≤ N := bulk_agg hb (by simp)
  obtain ⟨z3, e3, q3⟩ := dec_int' Tryz.underlying3 g3
  simp at e3
  have f4 := hf 4 _ rfl
  have g4 : Reads enc Tryz.prog W m 3 (([a0, a1, a2, a3, a4] : List Value).drop 4 |>.take (Tryz.prog.cellsOf 3)) y4 := f4
  rw [cells_3] at g4
  have b4 : Rows.uptoBulk y4.1 ≤ N := bulk_agg hb (by simp)
  obtain ⟨z4, e4, q4⟩ := dec_int' Tryz.underlying3 g4
  simp at e4
  subst e0
  subst e1
  subst e2
  subst e3
  subst e4
  exact ⟨(z0, z1, z2, z3, z4), rfl, q0, q1, q2, q3, q4⟩
theorem cells_82 : Tryz.prog.cellsOf 82 = 1 := by kernel_rfl
theorem cells_4 : Tryz.prog.cellsOf 4 = 1 := by kernel_rfl
theorem cells_84 : Tryz.prog.cellsOf 84 = 18 := by kernel_rfl
abbrev ZOp := Int × (Int × (Int × (Bs × ((Value × List Ev) × ((Value × List Arm) × (ZEntry × Bool))))))
def cOp (z : ZOp) : List Value := [vint z.1, vint z.2.1, vint z.2.2.1, vstr z.2.2.2.1, z.2.2.2.2.1.1, z.2.2.2.2.2.1.1, vint z.2.2.2.2.2.2.1.1, vint z.2.2.2.2.2.2.1.2.1, vint z.2.2.2.2.2.2.1.2.2.1, vint z.2.2.2.2.2.2.1.2.2.2.1, vstr z.2.2.2.2.2.2.1.2.2.2.2.1, vstr z.2.2.2.2.2.2.1.2.2.2.2.2.1, z.2.2.2.2.2.2.1.2.2.2.2.2.2.1.1, vint z.2.2.2.2.2.2.1.2.2.2.2.2.2.2.1, vint z.2.2.2.2.2.2.1.2.2.2.2.2.2.2.2.1, vint z.2.2.2.2.2.2.1.2.2.2.2.2.2.2.2.2.1, z.2.2.2.2.2.2.1.2.2.2.2.2.2.2.2.2.2, .bool z.2.2.2.2.2.2.2]
def okOp (N : Nat) (_p : HP) (z : ZOp) : Prop := (-9223372036854775808 ≤ z.1 ∧ z.1 ≤ 9223372036854775807) ∧ (-9223372036854775808 ≤ z.2.1 ∧ z.2.1 ≤ 9223372036854775807) ∧ (-9223372036854775808 ≤ z.2.2.1 ∧ z.2.2.1 ≤ 9223372036854775807) ∧ z.2.2.2.1.length ≤ N ∧ ((∀ h : Hp, _p h → rdS 3 h z.2.2.2.2.1.1 z.2.2.2.2.1.2.length (z.2.2.2.2.1.2.flatMap (evC))) ∧ z.2.2.2.2.1.2.length + 1 ≤ N ∧ ∀ y ∈ z.2.2.2.2.1.2, okEvent N _p y) ∧ ((∀ h : Hp, _p h → rdS 5 h z.2.2.2.2.2.1.1 z.2.2.2.2.2.1.2.length (z.2.2.2.2.2.1.2.flatMap (armC))) ∧ z.2.2.2.2.2.1.2.length + 1 ≤ N ∧ ∀ y ∈ z.2.2.2.2.2.1.2, okArmed N _p y) ∧ okEntry N _p z.2.2.2.2.2.2.1 ∧ True
set_option maxRecDepth 100000 in
theorem dec_Op {H : Type} {enc : TypeId × Value → H} {W : World} {N : Nat} (n : Nat) (cs : List Value) (y : DataW H × List MemPlace) (h : Reads enc Tryz.prog W n 84 cs y) (hb : Rows.uptoBulk y.1 ≤ N) : ∃ z : ZOp, cs = cOp z ∧ okOp N (Old W) z := by
  obtain ⟨xs, m, -, rfl, hlen, hxs, hf⟩ := DataW.trod_struct Tryz.underlying84 h
  rw [cells_84] at hlen
  obtain ⟨a0, a1, a2, a3, a4, a5, a6, a7, a8, a9, a10, a11, a12, a13, a14, a15, a16, a17, rfl⟩ : ∃ a0 a1 a2 a3 a4 a5 a6 a7 a8 a9 a10 a11 a12 a13 a14 a15 a16 a17, cs = [a0, a1, a2, a3, a4, a5, a6, a7, a8, a9, a10, a11, a12, a13, a14, a15, a16, a17] := by
    match cs, hlen with
    | [a0, a1, a2, a3, a4, a5, a6, a7, a8, a9, a10, a11, a12, a13, a14, a15, a16, a17], _ => exact ⟨a0, a1, a2, a3, a4, a5, a6, a7, a8, a9, a10, a11, a12, a13, a14, a15, a16, a17, rfl⟩
  obtain ⟨y0, y1, y2, y3, y4, y5, y6, y7, rfl⟩ : ∃ y0 y1 y2 y3 y4 y5 y6 y7, xs = [y0, y1, y2, y3, y4, y5, y6, y7] := by
    match xs, hxs with
    | [y0, y1, y2, y3, y4, y5, y6, y7], _ => exact ⟨y0, y1, y2, y3, y4, y5, y6, y7, rfl⟩
  have f0 := hf 0 _ rfl
  have g0 : Reads enc Tryz.prog W m 3 (([a0, a1, a2, a3, a4, a5, a6, a7, a8, a9, a10, a11, a12, a13, a14, a15, a16, a17] : List Value).drop 0 |>.take (Tryz.prog.cellsOf 3)) y0 := f0
  rw [cells_3] at g0
  have b0 : Rows.uptoBulk y0.1 ≤ N := bulk_agg hb (by simp)
  obtain ⟨z0, e0, q0⟩ := dec_int' Tryz.underlying3 g0
  simp at e0
  have f1 := hf 1 _ rfl
  have g1 : Reads enc Tryz.prog W m 3 (([a0, a1, a2, a3, a4, a5, a6, a7, a8, a9, a10, a11, a12, a13, a14, a15, a16, a17] : List Value).drop 1 |>.take (Tryz.prog.cellsOf 3)) y1 := f1
  rw [cells_3] at g1
  have b1 : Rows.uptoBulk y1.1 ≤ N := bulk_agg hb (by simp)
  obtain ⟨z1, e1, q1⟩ := dec_int' Tryz.underlying3 g1
  simp at e1
  have f2 := hf 2 _ rfl
  have g2 : Reads enc Tryz.prog W m 3 (([a0, a1, a2, a3, a4, a5, a6, a7, a8, a9, a10, a11, a12, a13, a14, a15, a16, a17] : List Value).drop 2 |>.take (Tryz.prog.cellsOf 3)) y2 := f2
  rw [cells_3] at g2
  have b2 : Rows.uptoBulk y2.1 ≤ N := bulk_agg hb (by simp)
  obtain ⟨z2, e2, q2⟩ := dec_int' Tryz.underlying3 g2
  simp at e2
  have f3 := hf 3 _ rfl
  have g3 : Reads enc Tryz.prog W m 9 (([a0, a1, a2, a3, a4, a5, a6, a7, a8, a9, a10, a11, a12, a13, a14, a15, a16, a17] : List Value).drop 3 |>.take (Tryz.prog.cellsOf 9)) y3 := f3
  rw [cells_9] at g3
  have b3 : Rows.uptoBulk y3.1 ≤ N := bulk_agg hb (by simp)
  obtain ⟨z3, e3, q3⟩ := dec_str Tryz.underlying9 g3 b3
  simp at e3
  have f4 := hf 4 _ rfl
  have g4 : Reads enc Tryz.prog W m 30 (([a0, a1, a2, a3, a4, a5, a6, a7, a8, a9, a10, a11, a12, a13, a14, a15, a16, a17] : List Value).drop 4 |>.take (Tryz.prog.cellsOf 30)) y4 := f4
  rw [cells_30] at g4
  have b4 : Rows.uptoBulk y4.1 ≤ N := bulk_agg hb (by simp)
  obtain ⟨z4, e4, q4⟩ := dec_sliceT (N := N) (evC) (fun y => okEvent N (Old W) y) Tryz.underlying30 cells_75 (by decide) (fun n cs y h hb => dec_Event n cs y h hb) g4 b4
  simp at e4
  have f5 := hf 5 _ rfl
  have g5 : Reads enc Tryz.prog W m 82 (([a0, a1, a2, a3, a4, a5, a6, a7, a8, a9, a10, a11, a12, a13, a14, a15, a16, a17] : List Value).drop 5 |>.take (Tryz.prog.cellsOf 82)) y5 := f5
  rw [cells_82] at g5
  have b5 : Rows.uptoBulk y5.1 ≤ N := bulk_agg hb (by simp)
  obtain ⟨z5, e5, q5⟩ := dec_sliceT (N := N) (armC) (fun y => okArmed N (Old W) y) Tryz.underlying82 cells_70 (by decide) (fun n cs y h hb => dec_Armed n cs y h hb) g5 b5
  simp at e5
  have f6 := hf 6 _ rfl
  have g6 : Reads enc Tryz.prog W m 39 (([a0, a1, a2, a3, a4, a5, a6, a7, a8, a9, a10, a11, a12, a13, a14, a15, a16, a17] : List Value).drop 6 |>.take (Tryz.prog.cellsOf 39)) y6 := f6
  rw [cells_39] at g6
  have b6 : Rows.uptoBulk y6.1 ≤ N := bulk_agg hb (by simp)
  obtain ⟨z6, e6, q6⟩ := dec_Entry _ _ _ g6 b6
  simp [cEntry] at e6
  have f7 := hf 7 _ rfl
  have g7 : Reads enc Tryz.prog W m 4 (([a0, a1, a2, a3, a4, a5, a6, a7, a8, a9, a10, a11, a12, a13, a14, a15, a16, a17] : List Value).drop 17 |>.take (Tryz.prog.cellsOf 4)) y7 := f7
  rw [cells_4] at g7
  have b7 : Rows.uptoBulk y7.1 ≤ N := bulk_agg hb (by simp)
  obtain ⟨z7, e7⟩ := dec_bool Tryz.underlying4 g7
  simp at e7
  subst e0
  subst e1
  subst e2
  subst e3
  subst e4
  subst e5
  obtain ⟨rfl, rfl, rfl, rfl, rfl, rfl, rfl, rfl, rfl, rfl, rfl⟩ := e6
  subst e7
  exact ⟨(z0, z1, z2, z3, z4, z5, z6, z7), rfl, q0, q1, q2, q3, q4, q5, q6, trivial⟩
def ptOf (z : ZTxn) : Pt := ⟨z.1, z.2.1, z.2.2.1, z.2.2.2.1.1, z.2.2.2.1.2, z.2.2.2.2.1, z.2.2.2.2.2.1, z.2.2.2.2.2.2.1, z.2.2.2.2.2.2.2⟩
theorem ptA_of {p : HP} {N : Nat} (hN : N ≤ 1048576) {z : ZTxn} (h : okTxn N p z) (hc : isCell z.2.2.2.1.1 = true) : PtA p (ptOf z) := by
  obtain ⟨h1, h2, h3, ⟨h4, h5, h6⟩, h7, h8, h9, h10⟩ := h
  exact ⟨h4, by show z.2.2.2.1.2.length ≤ 1048576; omega, by show z.2.1.length ≤ 1048576; omega, h10, hc⟩
theorem rd_cellOld {W : World} {sz n : Nat} {v : Value} {ys : List Value} (hr : ∀ h : Hp, Old W h → rdS sz h v n ys) : isCell v = true := by
  have h := hr (fun b => if b < W.heap.size then W.heap[b]? else none) (fun b hb => if_pos hb)
  rcases h with ⟨-, -, a, c, rfl⟩ | ⟨b, off, cap, l, T, fr, rfl, -⟩ <;> rfl
def enOf (z : ZEntry) (subs : List Pt) : En := ⟨z.1, z.2.1, z.2.2.1, ptOf z.2.2.2, subs⟩
/-- One entry. -/
theorem ent_of {W : World} {B : Nat} (hB : B ≤ 1048576) {z : ZEntry} (h : okEntry B (Old W) z) : ∃ e : En, cEntry z = enC e ∧ TxA (Old W) e.x e.subs ∧ e.x.own ≤ 9223372036854775807 ∧ e.subs.length ≤ B := by
  obtain ⟨h1, h2, h3, ht⟩ := h
  obtain ⟨t1, t2, t3, ⟨t4, t5, t6⟩, t7, t8, t9, l, g1, g2, g3⟩ := ht
  refine ⟨enOf z (l.map ptOf), rfl, ⟨⟨t4, by show z.2.2.2.2.2.2.1.2.length ≤ 1048576; omega, by show z.2.2.2.2.1.length ≤ 1048576; omega, rd_cellOld g1, rd_cellOld t4⟩, fun h hp => ?_, by show (l.map ptOf).length ≤ 1048576; rw [List.length_map]; omega, fun y hy => ?_⟩, t7.2, by show (l.map ptOf).length ≤ B; rw [List.length_map]; exact g2⟩
  · have := g1 h hp
    show rdS 8 h _ (l.map ptOf).length ((l.map ptOf).flatMap ptC)
    rw [List.length_map, List.flatMap_map]
    exact this
  · obtain ⟨q, hq, rfl⟩ := List.mem_map.1 hy
    exact ptA_of hB (g3 q hq) (rd_cellOld (g3 q hq).2.2.2.1.1)
theorem op_of11 {W : World} {B : Nat} (hB : B ≤ 1048576) {z : ZOp} (h : okOp B (Old W) z) : ∃ o : Op11, cOp z = op11C o ∧ Op11A (Old W) o ∧ o.e.subs.length ≤ B ∧ o.arm.length + 1 ≤ B := by
  obtain ⟨h1, h2, h3, hp, ⟨hv1, hv2, hv3⟩, ⟨ha1, ha2, ha3⟩, he, ho⟩ := h
  obtain ⟨e, e1, e2, e3, e4⟩ := ent_of hB he
  refine ⟨⟨z.1, z.2.1, z.2.2.1, z.2.2.2.1, z.2.2.2.2.1.1, z.2.2.2.2.1.2, z.2.2.2.2.2.1.1, z.2.2.2.2.2.1.2, e, z.2.2.2.2.2.2.2⟩, ?_, ⟨e2, hv1, by show z.2.2.2.2.1.2.length ≤ 1048576; omega, rd_cellOld hv1, ⟨ha1, by show z.2.2.2.2.2.1.2.length ≤ 1048576; omega, fun a h => by have q := (ha3 a h).2.1; omega⟩, rd_cellOld ha1, by show z.2.2.2.1.length ≤ 1048576; omega, h2.2⟩, e4, ha2⟩
  show [vint z.1, vint z.2.1, vint z.2.2.1, vstr z.2.2.2.1, z.2.2.2.2.1.1, z.2.2.2.2.2.1.1] ++ cEntry z.2.2.2.2.2.2.1 ++ [.bool z.2.2.2.2.2.2.2] = _
  rw [e1]
  rfl
theorem ops_list11 {W : World} : ∀ {l : List ZOp} {ws : List Nat}, ws.length = l.length → ws.sum ≤ 1048576 → (∀ w ∈ ws, 1 ≤ w) → (∀ i (h1 : i < l.length) (h2 : i < ws.length), okOp ws[i] (Old W) l[i]) → ∃ es : List Op11, es.length = l.length ∧ es.flatMap op11C = l.flatMap cOp ∧ (∀ e ∈ es, Op11A (Old W) e) ∧ wtT es ≤ 2 * ws.sum ∧ wtM es ≤ ws.sum
  | [], _, _, _, _, _ => ⟨[], rfl, rfl, (fun _ h => by cases h), by simp [wtT], by simp [wtM]⟩
  | z :: l, [], h, _, _, _ => by simp at h
  | z :: l, w :: ws, h, hs, hp, hq => by
    rw [List.sum_cons] at hs
    have h0 : okOp w (Old W) z := hq 0 (by simp) (by simp)
    have hw1 : w ≤ 1048576 := by omega
    obtain ⟨e, e1, e2, e4, e5⟩ := op_of11 hw1 h0
    obtain ⟨es, k1, k2, k3, k4, k5⟩ := ops_list11 (l := l) (ws := ws) (by simpa using h) (by omega) (fun x hx => hp x (List.mem_cons_of_mem _ hx)) (fun i h1 h2 => hq (i + 1) (by simpa using h1) (by simpa using h2))
    have hw := hp w List.mem_cons_self
    have e4' : e.e.subs.length ≤ w := e4
    refine ⟨e :: es, by rw [List.length_cons, k1, List.length_cons], by rw [List.flatMap_cons, k2, List.flatMap_cons, e1], fun x hx => ?_, ?_, ?_⟩
    · rcases List.mem_cons.1 hx with rfl | hx
      · exact e2
      · exact k3 x hx
    · unfold wtT at k4 ⊢
      rw [List.map_cons, List.sum_cons, List.sum_cons]
      omega
    · unfold wtM at k5 ⊢
      rw [List.map_cons, List.sum_cons, List.sum_cons]
      omega
theorem dec_ops11 {H : Type} {enc : TypeId × Value → H} {W : World} {fuel : Nat} {cs : List Value} {x : DataW H × List MemPlace} (h : Reads enc Tryz.prog W fuel 79 cs x) (hb : Rows.uptoBulk x.1 ≤ 1048576) : ∃ (v : Value) (es : List Op11), cs = [v] ∧ Ops11A (Old W) v es := by
  obtain ⟨z, ws, h1, h2, h3, h4, h5, h6⟩ := dec_sliceQ (N := 1048576) cOp (fun B z => okOp B (Old W) z) Tryz.underlying79 cells_84 (by decide) (fun n cs y h => dec_Op n cs y h (Nat.le_refl _)) h hb
  obtain ⟨es, k1, k2, k3, k4, k5⟩ := ops_list11 h4 h5 (fun w hw => (h6.1 w hw)) h6.2
  exact ⟨z.1, es, h1, fun h hp => by rw [k1, k2]; exact h2 h hp, by omega, k3, by omega, by omega⟩
end Go.Proofs.YtnnbelmpbmfdnaaGreatDoor

/- Own work: watchPlays: the walk, brought to the given second form and its card. -/

namespace Go.Proofs.YtnnbelmpbmfdnaaGreatDoor.watchPlays
open Go Go.ChangeShapes Go.WideShapes Go.ChangeAt Go.RowKit
theorem own : ownKnob Tryz.prog.godebug = none := by kernel_rfl
theorem laid : laidOutB Tryz.prog = true := by kernel_rfl
theorem readable : ∀ t ∈ Tryz.f10.params.toList, Tryz.prog.readableRec t = true ∧ t < Tryz.prog.types.size := by
  have h : (Tryz.f10.params.toList.all fun t => Tryz.prog.readableRec t && decide (t < Tryz.prog.types.size)) = true := by kernel_rfl
  intro t ht
  simpa using List.all_eq_true.1 h t ht
set_option maxRecDepth 100000 in
theorem contract (H : Type) (enc : TypeId × Value → H) (W : World) (base : Nat) (args : Array Value) (ds gs : List (DataW H)) (before : List MemPlace)
    (hval : ∀ (j : Nat) t v, Tryz.f10.params[j]? = some t → args[j]? = some v → Value.okWide Tryz.prog W .any base t v)
    (hW : DataW.Whole enc Tryz.prog Tryz.f10.params.toList Rows.watchPlaysSpec.vars false W args.toList ds gs before) (hk : Rows.uptoSmall H (ds ++ gs) = true) :
    Calls Tryz.prog 10 args W fun e W' => ∃ v, e = .returned v ∧ Rows.watchPlaysSpec.post enc Tryz.prog Tryz.f10 false true false false W args v W' := by
  have hW' := hW
  obtain ⟨p, q, hA, hV, rfl, hfz, hnd⟩ := hW
  obtain ⟨rfl, -⟩ := trodVars_none hV
  rw [List.append_nil] at hk
  have hpar : Tryz.f10.params = #[79] := Tryz.params10
  rw [hpar] at hval
  have hA' := hA
  rw [hpar] at hA'
  obtain ⟨v0, vs0, d0, ds0, p0, r0, ha0, rfl, rfl, h0, t0⟩ := trodAll_cons hA'
  obtain ⟨hv, rfl, rfl⟩ := trodAll_nil t0
  obtain rfl : args = #[v0] := by
    have e : args.toList = [v0] := by rw [ha0, hv]
    cases args; simp_all
  have b0 := bulk_small hk (d := d0) (by simp)
  obtain ⟨ad0, nn0, cp0, rfl⟩ := okWide_slice Tryz.underlying79 (hval 0 _ _ rfl rfl)
  obtain ⟨fu0, g0⟩ := h0
  obtain ⟨v0, xs0, e0, q0⟩ := dec_ops11 g0 b0
  simp [Value.cells] at e0
  subst e0
  refine (old_calls (wplays11_spec _ xs0 (Old W) q0)).mono fun e W' ⟨he, hb⟩ => ⟨_, he, ?_⟩
  exact settled hW' rfl (fun gs' h => by subst h; rfl) rfl Tryz.underlying4 laid readable hb
/-- A world for the witness: the two tables that the row lists, as they are laid. -/
def cellsTo (l : List Value) : Obj → Obj
  | .cells _ t frozen => .cells l.toArray t frozen
  | o => o
noncomputable def laidWorld (os : Os) : World :=
  let w := World.holding Tryz.prog os ⟨#[], #[], []⟩
  { w with heap := (w.heap.modify 1 (cellsTo (Pinned.utf8FirstZ.map fun (n : Nat) => Value.int .u8 n))).modify 2 (cellsTo [.int .u8 128, .int .u8 191, .int .u8 160, .int .u8 191, .int .u8 128, .int .u8 159, .int .u8 144, .int .u8 191, .int .u8 128, .int .u8 143, .int .u8 0, .int .u8 0, .int .u8 0, .int .u8 0, .int .u8 0, .int .u8 0, .int .u8 0, .int .u8 0, .int .u8 0, .int .u8 0, .int .u8 0, .int .u8 0, .int .u8 0, .int .u8 0, .int .u8 0, .int .u8 0, .int .u8 0, .int .u8 0, .int .u8 0, .int .u8 0, .int .u8 0, .int .u8 0]) }
theorem laid_met (os : Os) : laidMet Tryz.prog Rows.watchPlaysUptoRow.laid ((laidWorld os).forCall (fun _ _ => 0) ⟨#[], #[.slice none 0 0], []⟩).memory :=
  laidMet_of_run' 8 (by kernel_rfl) (by kernel_rfl)
theorem reads (os : Os) {H : Type} (enc : TypeId × Value → H) : ∃ places, DataW.whole enc Tryz.prog ((laidWorld os).forCall (fun _ _ => 0) ⟨#[], #[.slice none 0 0], []⟩).memory Tryz.f10.params.toList Rows.watchPlaysSpec.vars false (#[.slice none 0 0] : Array Value).toList 8 = some ([.nil], [], places) :=
  ⟨[], by kernel_rfl⟩
set_option maxRecDepth 100000 in
theorem lifted (os : Os) (started : os.Started) (H : Type) (enc : TypeId × Value → H) (F : Stop.Interp) :
    ReturnsInHanded {} Tryz.checked os 10 .any ((Rows.OpenSpec.upto Rows.watchPlaysSpec).preRow enc Tryz.prog Tryz.f10 Rows.watchPlaysUptoRow.domain false Rows.watchPlaysUptoRow.laid) (((Rows.OpenSpec.upto Rows.watchPlaysSpec).at F).post enc Tryz.prog Tryz.f10 false true false false) := by
  obtain ⟨places, hx⟩ := reads os enc
  refine returnsInHanded_of_row (C := Tryz.checked) (s := Rows.OpenSpec.upto Rows.watchPlaysSpec) own started (by kernel_rfl) Tryz.func10
    (witness_row_at (enc := enc) (C := Tryz.checked) false (laidWorld os) #[.slice none 0 0] rfl (by kernel_rfl) (by kernel_rfl) (by kernel_rfl)
      (OpenSpec.preRow_of_cond 8 hx (by kernel_rfl) (fun k hk => by cases hk; kernel_rfl) (by kernel_rfl) (laid_met os))) ?_
  intro W base args ds gs before hval hW _ hcond _ _ _ _
  exact contract H enc W base args ds gs before hval hW (hcond _ rfl)
theorem saidUpto : Rows.WatchPlaysUptoSaid :=
  OpenClaim.holds_of_cond 10 Tryz.f10 rfl rfl rfl rfl rfl rfl rfl ⟨rfl, rfl, rfl, rfl, rfl⟩ rfl rfl rfl rfl rfl (by kernel_rfl) Tryz.func10 (by kernel_rfl)
    (of_decide_eq_true (by kernel_rfl)) (by unfold Func.isWrapper; first | (rw [if_pos (by decide +kernel)]; kernel_rfl) | (rw [if_neg (by decide +kernel)]; exact ⟨rfl, rfl⟩))
    (fun os started H enc _ F => by rw [OpenClaim.pre_eq_preRow]; exact lifted os started H enc F)
theorem plain (f : FuncId) (fn : Func) (hf : Tryz.pinned.checked.prog.funcNamed "arboretum/arboretumlaw11.WatchPlays" = some f) (hfn : Tryz.pinned.checked.prog.funcs[f]? = some fn) :
    true = Tryz.pinned.checked.prog.looks [] ∧ ∀ (j : Nat) t, fn.params[j]? = some t → Tryz.pinned.checked.prog.wantsStandIn t = false := by
  obtain rfl : f = 10 := Option.some.inj ((show Tryz.prog.funcNamed "arboretum/arboretumlaw11.WatchPlays" = some 10 by kernel_rfl).symm.trans hf) |>.symm
  obtain rfl : fn = Tryz.f10 := (Option.some.inj (Tryz.func10.symm.trans hfn)).symm
  refine ⟨by kernel_rfl, fun j t ht => ?_⟩
  have h : (Tryz.f10.params.toList.all fun t => !Tryz.pinned.checked.prog.wantsStandIn t) = true := by kernel_rfl
  have h2 := List.all_eq_true.1 h t (Array.mem_def.1 (Array.mem_of_getElem? ht))
  simpa using h2
theorem proved : Rows.WatchPlaysUptoCardSaid :=
  Claim7.holds_tied_plain_at .later [] _ _ _ _ saidUpto (fun _ h => by cases h) (by kernel_rfl) (fun _ h => by cases h) watchPlaysUpto_row_tie rfl ⟨rfl, rfl⟩ (by kernel_rfl) rfl plain (by kernel_rfl)
end Go.Proofs.YtnnbelmpbmfdnaaGreatDoor.watchPlays

