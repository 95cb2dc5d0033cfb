/- Own work, some of it printed by program, texts that were built one by one and are laid one behind the other here: law 07: sessions and nodes: walked. | from what a call is given to the atoms of SlCore, and back to what a statement asks. | strings and rows of strings as arguments. | nested arguments decoded: slices of structs, and what the row says of their weight. | arguments of a bounded bulk (the second form's bound), decoded. | what the arguments are. | treeSessions: the walk, brought to the given second form and its card. -/
import Derived.Test.YtnnbelmpbmfdnaaGreatDoorCSessionsP4
import Derived.Test.YtnnbelmpbmfdnaaGreatDoorCSessionsP0
import Derived.Test.YtnnbelmpbmfdnaaGreatDoorRows
import Derived.WalkKit
import Derived.ProofKit
import Derived.OpenShut
import Derived.JoinedCond
import Derived.Carry
import Derived.Deep.Grids
import Derived.Handed
import Derived.Deep.Strs
import Derived.Test.YtnnbelmpbmfdnaaGreatDoorCSessionsP2
import Derived.Test.YtnnbelmpbmfdnaaGreatDoorCards
import Derived.Test.YtnnbelmpbmfdnaaGreatDoorTie
import Derived.Deep.DeepHandedRow
import Derived.Lib.LaidTab
set_option linter.unusedSimpArgs false
set_option linter.unusedVariables false
/- Own work, by program: law 07: sessions and nodes: walked. -/
namespace Go.Proofs.YtnnbelmpbmfdnaaGreatDoor
open Go
set_option maxRecDepth 100000 in
theorem tsessions7_spec (v w : Value) (xs : List Ac0) (ys : List Int) (p : HP) (hx : Acts1 p v xs) (hy : (∀ h : Hp, p h → rdS 1 h w ys.length (ys.flatMap fun z => [vint z])) ∧ ys.length ≤ 1048576 ∧ ∀ y ∈ ys, -9223372036854775808 ≤ y ∧ y ≤ 9223372036854775807) : Fn Tryz.prog 5 #[v, w] [p] fun r L => r = .bool true ∧ L = [p] := by
 refine Fn.intro (vs := [v, w]) Tryz.func5 rfl rfl ?_
 intro F W
 obtain ⟨hy1, hy2, hy3⟩ := hy
 refine G.rdAny (p := p) hy1 (by (repeat' constructor)) fun ay cy ey _ => ?_
 have hrdy := hy1
 rw [ey] at hrdy
 subst ey
 refine G.seq (G.region (G.q (Quiet.assign rfl) rfl (G.nil (G.then_n (G.seq (G.region ?_))))))
 refine G.op (OpSpec.call Tryz.func11 rfl rfl (vs := []) rfl (awake7_spec)) (by (repeat' constructor)) rfl ?nx2
 rintro v L' ⟨rfl, rfl⟩
 refine G.q (Quiet.assign rfl) rfl (G.nil (G.then_n (G.seq (G.region (G.q (Quiet.move rfl) rfl ?_)))))
 refine G.op (OpSpec.call Tryz.func12 rfl rfl (vs := [_, _]) rfl (history7_spec v xs 1 p hx (by decide))) (by (repeat' constructor)) rfl ?nx5
 rintro v L' ⟨es, τ, x, u, rfl, hh, ⟨hes, au, cu, rfl⟩, rfl⟩; have hinv := hh.inv; have hok := hinv.ok; have hfew := hok.few
 refine G.q (Quiet.move rfl) rfl (G.q (Quiet.extract rfl rfl) rfl (G.q (Quiet.extract rfl rfl) rfl (G.q (Quiet.assign rfl) rfl (G.q (Quiet.assign rfl) rfl (G.nil (G.then_n (G.seq (G.region ?_))))))))
 refine G.op (OpSpec.call Tryz.func13 rfl rfl (vs := []) rfl (trnew_spec)) (by (repeat' constructor)) rfl ?nx9
 rintro v L' ⟨t, rfl, rfl⟩
 refine G.q (Quiet.assign rfl) rfl (G.nil (G.then_n (G.seq (G.region ?_))))
 refine G.op (OpSpec.call Tryz.func13 rfl rfl (vs := []) rfl (trnew_spec)) (by (repeat' constructor)) rfl ?nx11
 rintro v L' ⟨u8, rfl, rfl⟩
 refine G.q (Quiet.assign rfl) rfl (G.nil (G.then_n (G.seq (G.seq (G.region (G.q (Quiet.move rfl) rfl (G.q (Quiet.not rfl) rfl (G.q (Quiet.move rfl) rfl (G.grun (t := 23) rfl rfl rfl (G.q (Quiet.move rfl) rfl (G.grun (t := 23) rfl rfl rfl ?_)))))))))))
 refine G.q (Quiet.as (v' := .bool false) (by rfl) (Quiet.ptreq rfl rfl Tryz.underlying28)) rfl ?_
 refine G.q (Quiet.pickF rfl rfl) rfl (G.q (Quiet.move rfl) rfl (G.grun (t := 27) rfl rfl rfl (G.q (Quiet.move rfl) rfl (G.grun (t := 27) rfl rfl rfl ?_))))
 refine G.q (Quiet.as (v' := .bool false) (by rfl) (Quiet.ptreq rfl rfl Tryz.underlying28)) rfl ?_
 refine G.q (Quiet.pickF rfl rfl) rfl (G.nil (G.then_n (G.condF rfl (G.skip (G.then_n (G.seq (G.seq (G.add (p := nilA) nilA_ok (G.region (G.q (Quiet.assign rfl) rfl (G.nil (G.then_n (G.block ?_)))))))))))))
 refine G.trCast (t := t) (τ' := (appL newT (es.take 0))) (by (repeat' constructor)) (by rw [List.take_zero]; rfl) ?_
 refine G.trCast (t := u8) (τ' := (setS (appL newT (es.take 0)) [])) (by (repeat' constructor)) (by rw [List.take_zero]; rfl) ?_
 refine G.loopK (ι := Nat × (List (Int × (Int × Bs)))) (fun q E => (10, vint q.1) :: E) (fun q => [treeR t (appL newT (es.take q.1)), treeR u8 (setS (appL newT (es.take q.1)) q.2)]) (fun q => q.1 ≤ es.length ∧ More (appL newT (es.take q.1)) q.2) (fun q => es.length - q.1) (0, []) (ts := [1, 4, 6, 8, 9]) (.cons rfl (.cons rfl (.cons rfl (.cons rfl (.cons rfl (.nil)))))) (⟨Nat.zero_le _, by simp [SortedK], fun i _ => rfl⟩) ⟨rfl, rfl, rfl, rfl, rfl, rfl, trivial⟩ (by (repeat' constructor)) ?_
 rintro ⟨i, s⟩ ⟨hi, hm⟩
 dsimp only
 dsimp only at hi hm
 have hvi := (hh.take i hi).inv
 have hoku := hm.ok hvi
 refine G.seq (G.seq (G.region (G.q (Quiet.move rfl) rfl (G.q (Quiet.move rfl) rfl (G.q (Quiet.slen rfl Tryz.underlying24 rfl) rfl (G.q (Quiet.int rfl rfl rfl) rfl (G.nil (G.then_n ?_))))))))
 refine G.condD rfl (fun h34 => ?_) (fun h34 => ?_)
 ·have hi2 : i < es.length := by omega
  have hvi1 := (hh.take (i + 1) (by omega)).inv
  have hzx : (appL newT (es.take (i + 1))).zx = es[i].zx := by rw [appL_step _ hi2, app_zx]
  refine G.slShape (T := 39) (sz := 11) (v := .slice au es.length cu) (xs := es.flatMap enC) (by (repeat' constructor)) (by omega) fun be be' e0 mbe _ => ?_
  simp only [Value.slice.injEq, true_and] at e0
  obtain ⟨rfl, rfl⟩ := e0
  refine G.skip (G.then_n (G.seq (G.block (G.seq (G.region (G.q (Quiet.move rfl) rfl (G.q (Quiet.move rfl) rfl (G.q (Quiet.move rfl) rfl ?_))))))))
  refine G.q (Quiet.indexAddr rfl rfl el_24 (by omega)) rfl ?_
  refine G.q (Quiet.loadRdA (sz := 11) (j := i * 11) (k := 11) (p := slR 39 11 _ es.length (es.flatMap enC)) (vs := enC es[i]) rfl ag_39 (by (repeat' constructor)) (fun h hp => slR_rd hp) (by simp) (by omega) (by omega) (flatMap_at (f := enC) (sz := 11) (fun _ _ => rfl) (by omega))) rfl ?_
  refine G.op (OpSpec.call Tryz.func14 rfl rfl (vs := [_, _]) rfl (trapply_spec t (appL newT (es.take i)) es[i].zx es[i].ses es[i].xid es[i].x es[i].subs (ensA es) (hh.tx i hi2) 60 (hh.ok hi) (by have := hh.few hi2; omega))) (by (repeat' constructor)) rfl ?nx26
  rintro v L' ⟨ue, ee, rfl, he, hue, rfl⟩
  refine G.nil (G.then_n (G.seq (G.region (G.q (Quiet.move rfl) rfl (G.q (Quiet.move rfl) rfl (G.q (Quiet.move rfl) rfl ?_))))))
  refine G.q (Quiet.indexAddr rfl rfl el_24 (by omega)) rfl ?_
  refine G.q (Quiet.loadRdA (sz := 11) (j := i * 11) (k := 11) (p := slR 39 11 _ es.length (es.flatMap enC)) (vs := enC es[i]) rfl ag_39 (by (repeat' constructor)) (fun h hp => slR_rd hp) (by simp) (by omega) (by omega) (flatMap_at (f := enC) (sz := 11) (fun _ _ => rfl) (by omega))) rfl ?_
  refine G.op (OpSpec.call Tryz.func14 rfl rfl (vs := [_, _]) rfl (trapply_spec u8 (setS (appL newT (es.take i)) s) es[i].zx es[i].ses es[i].xid es[i].x es[i].subs (ensA es) (hh.tx i hi2) 60 hoku (by have := hh.few hi2; omega))) (by (repeat' constructor)) rfl ?nx33
  rintro v L' ⟨ue, ee, rfl, he, hue, rfl⟩
  refine G.nil ?_
  refine G.trCast (t := t) (τ' := (appL newT (es.take (i + 1)))) (by (repeat' constructor)) (by rw [appL_step _ hi2]; rfl) ?_
  refine G.trCast (t := u8) (τ' := (setS (appL newT (es.take (i + 1))) (sesE s es[i]))) (by (repeat' constructor)) (by rw [appL_step _ hi2]; exact (app_ss _ _ _).symm) ?_
  have hm1 : More (appL newT (es.take (i + 1))) (sesE s es[i]) := by rw [appL_step _ hi2]; exact hm.both _
  refine G.then_n (G.seq (G.region (G.q (Quiet.move rfl) rfl (G.q (Quiet.slen rfl Tryz.underlying52 rfl) rfl (G.q (Quiet.int rfl rfl rfl) rfl (G.nil (G.then_n ?_)))))))
  refine G.condD rfl (fun h51 => ?_) (fun h51 => ?_)
  ·have hyl : 0 < ys.length := by omega
   have hyi : i % ys.length < ys.length := Nat.mod_lt _ hyl
   have hyr := hy3 _ (List.getElem_mem hyi)
   have hp9 := pickZ_range ys[i % ys.length] (n := 9) (by decide)
   refine G.rdShape (p := p) hrdy (by (repeat' constructor)) (by omega) fun by1 oy e1 => ?_
   subst e1
   have hm2 : More (appL newT (es.take (i + 1))) (sesE (sesE s es[i]) (opE es[i].zx (100 + pickZ ys[i % ys.length] 9) i)) := hm1.one ⟨by show 100 ≤ (100 + pickZ ys[i % ys.length] 9); omega, by show (100 + pickZ ys[i % ys.length] 9) ≤ 108; omega⟩
   have hm3 : More (appL newT (es.take (i + 1))) (sesE (sesE (sesE s es[i]) (opE es[i].zx (100 + pickZ ys[i % ys.length] 9) i)) (clE es[i].zx (100 + pickZ ys[i % ys.length] 9))) := hm2.one ⟨by show 100 ≤ (100 + pickZ ys[i % ys.length] 9); omega, by show (100 + pickZ ys[i % ys.length] 9) ≤ 108; omega⟩
   refine G.seq (G.region (G.q (Quiet.move rfl) rfl (G.q (Quiet.move rfl) rfl (G.q (Quiet.move rfl) rfl (G.q (Quiet.slen rfl Tryz.underlying52 rfl) rfl ?_)))))
   refine G.q (Quiet.as (v' := vint ((i % ys.length : Nat) : Int)) (by simp) (Quiet.remE rfl rfl (by omega) (by omega))) rfl ?_
   refine G.q (Quiet.indexAddr rfl rfl el_52 (by omega)) rfl ?_
   refine G.q (Quiet.loadRd (sz := 1) (j := (i % ys.length) * 1 + 0) (p := p) rfl ag_3 (by (repeat' constructor)) hrdy (by omega) ((flatMap_cell (f := fun z : Int => [vint z]) (sz := 1) (l := ys) (i := i % ys.length) (k := 0) (fun _ _ => rfl) (by omega) (by decide)).trans rfl)) rfl ?_
   refine G.op (OpSpec.call Tryz.func21 rfl rfl (vs := [_, _]) rfl (pick7_spec _ _ hyr (by decide))) (by (repeat' constructor)) rfl ?nx45
   rintro v L' ⟨rfl, rfl⟩
   refine G.q (Quiet.add rfl rfl (by omega)) rfl ?_
   refine G.q (Quiet.assign rfl) rfl (G.nil (G.then_n (G.seq (G.region (G.q (Quiet.move rfl) rfl (G.q (Quiet.move rfl) rfl (G.q (Quiet.move rfl) rfl ?_)))))))
   refine G.q (Quiet.indexAddr rfl rfl el_24 (by omega)) rfl ?_
   refine G.q (Quiet.fieldAddr rfl fo_39_0) rfl ?_
   refine G.q (Quiet.loadRd (sz := 11) (j := i * 11 + 0) (p := slR 39 11 _ es.length (es.flatMap enC)) rfl ag_3 (by (repeat' constructor)) (fun h hp => slR_rd hp) (by omega) ((en_cell (l := es) (i := i) (k := 0) (by omega) (by decide)).trans rfl)) rfl ?_
   refine G.q (Quiet.move rfl) rfl (G.q (Quiet.move rfl) rfl ?_)
   refine G.q (Quiet.to (v' := .agg (ptC (opE es[i].zx (100 + pickZ ys[i % ys.length] 9) i).x).toArray) (Quiet.build (us := [(0, _), (4, _), (5, _)]) fl_37 ze_37 rfl rfl (by simp [isCell])) rfl) rfl ?_
   refine G.q (Quiet.buildN (pl := [(0, 1), (1, 1), (2, 1), (3, 8)]) (us := [(0, vint es[i].zx), (3, .agg (ptC (opE es[i].zx (100 + pickZ ys[i % ys.length] 9) i).x).toArray)]) (cells := [vint es[i].zx, vint 0, vint 0] ++ ptC (opE es[i].zx (100 + pickZ ys[i % ys.length] 9) i).x) Tryz.underlying39 (by kernel_rfl) ze_39 rfl (fill_entry _ _ _ _ _ _ _ _ _)) rfl ?_
   refine G.op (OpSpec.call Tryz.func14 rfl rfl (vs := [_, _]) rfl (trapply_spec u8 (setS (appL newT (es.take (i + 1))) (sesE s es[i])) es[i].zx 0 0 (opE es[i].zx (100 + pickZ ys[i % ys.length] 9) i).x [] nilA (op_tx nilA _ _ _) 60 (hm1.ok hvi1) (by simp))) (by (repeat' constructor)) rfl ?nx57
   rintro v L' ⟨ue, ee, rfl, he, hue, rfl⟩
   refine G.nil ?_
   refine G.trCast (t := u8) (τ' := (setS (appL newT (es.take (i + 1))) (sesE (sesE s es[i]) (opE es[i].zx (100 + pickZ ys[i % ys.length] 9) i)))) (by (repeat' constructor)) (by exact (op_ss _ _ _ _ _ hzx).symm) ?_
   refine G.then_n (G.seq (G.region (G.q (Quiet.move rfl) rfl (G.q (Quiet.move rfl) rfl (G.q (Quiet.move rfl) rfl (G.q (Quiet.slen rfl Tryz.underlying52 rfl) rfl ?_))))))
   refine G.q (Quiet.as (v' := vint ((i % ys.length : Nat) : Int)) (by simp) (Quiet.remE rfl rfl (by omega) (by omega))) rfl ?_
   refine G.q (Quiet.indexAddr rfl rfl el_52 (by omega)) rfl ?_
   refine G.q (Quiet.loadRd (sz := 1) (j := (i % ys.length) * 1 + 0) (p := p) rfl ag_3 (by (repeat' constructor)) hrdy (by omega) ((flatMap_cell (f := fun z : Int => [vint z]) (sz := 1) (l := ys) (i := i % ys.length) (k := 0) (fun _ _ => rfl) (by omega) (by decide)).trans rfl)) rfl ?_
   refine G.op (OpSpec.call Tryz.func21 rfl rfl (vs := [_, _]) rfl (pick7_spec _ _ hyr (by decide))) (by (repeat' constructor)) rfl ?nx66
   rintro v L' ⟨rfl, rfl⟩
   refine G.q (Quiet.int rfl rfl rfl) rfl (G.nil (G.then_n ?_))
   refine G.condD rfl (fun h80 => ?_) (fun h80 => ?_)
   ·refine G.region (G.q (Quiet.move rfl) rfl (G.q (Quiet.move rfl) rfl (G.q (Quiet.move rfl) rfl ?_)))
    refine G.q (Quiet.indexAddr rfl rfl el_24 (by omega)) rfl ?_
    refine G.q (Quiet.fieldAddr rfl fo_39_0) rfl ?_
    refine G.q (Quiet.loadRd (sz := 11) (j := i * 11 + 0) (p := slR 39 11 _ es.length (es.flatMap enC)) rfl ag_3 (by (repeat' constructor)) (fun h hp => slR_rd hp) (by omega) ((en_cell (l := es) (i := i) (k := 0) (by omega) (by decide)).trans rfl)) rfl ?_
    refine G.q (Quiet.move rfl) rfl ?_
    refine G.q (Quiet.to (v' := .agg (ptC (clE es[i].zx (100 + pickZ ys[i % ys.length] 9)).x).toArray) (Quiet.build (us := [(0, _), (4, _)]) fl_37 ze_37 rfl rfl (by simp [isCell])) rfl) rfl ?_
    refine G.q (Quiet.buildN (pl := [(0, 1), (1, 1), (2, 1), (3, 8)]) (us := [(0, vint es[i].zx), (3, .agg (ptC (clE es[i].zx (100 + pickZ ys[i % ys.length] 9)).x).toArray)]) (cells := [vint es[i].zx, vint 0, vint 0] ++ ptC (clE es[i].zx (100 + pickZ ys[i % ys.length] 9)).x) Tryz.underlying39 (by kernel_rfl) ze_39 rfl (fill_entry _ _ _ _ _ _ _ _ _)) rfl ?_
    refine G.op (OpSpec.call Tryz.func14 rfl rfl (vs := [_, _]) rfl (trapply_spec u8 (setS (appL newT (es.take (i + 1))) (sesE (sesE s es[i]) (opE es[i].zx (100 + pickZ ys[i % ys.length] 9) i))) es[i].zx 0 0 (clE es[i].zx (100 + pickZ ys[i % ys.length] 9)).x [] nilA (cl_tx nilA _ _) 60 (hm2.ok hvi1) (by simp))) (by (repeat' constructor)) rfl ?nx77
    rintro v L' ⟨ue, ee, rfl, he, hue, rfl⟩
    refine G.nil ?_
    refine G.trCast (t := u8) (τ' := (setS (appL newT (es.take (i + 1))) (sesE (sesE (sesE s es[i]) (opE es[i].zx (100 + pickZ ys[i % ys.length] 9) i)) (clE es[i].zx (100 + pickZ ys[i % ys.length] 9))))) (by (repeat' constructor)) (by exact (cl_ss _ _ _ _ hzx).symm) ?_
    refine G.blk_n (G.then_n (G.region (G.q (Quiet.move rfl) rfl ?_)))
    refine G.q (Quiet.add rfl rfl (by omega)) rfl ?_
    refine G.q (Quiet.assign rfl) rfl (G.nil (G.then_n ?_))
    exact G.roundK ((i + 1, (sesE (sesE (sesE s es[i]) (opE es[i].zx (100 + pickZ ys[i % ys.length] 9) i)) (clE es[i].zx (100 + pickZ ys[i % ys.length] 9))))) (⟨by dsimp only; omega, hm3⟩) (by dsimp only; omega) ⟨rfl, rfl, rfl, rfl, rfl, rfl, trivial⟩ (by (repeat' constructor)) (by ((repeat (apply Have.cons; (repeat (first | exact Pick.here | apply Pick.there)))); apply Have.base; repeat' constructor))
   ·refine G.skip (G.blk_n (G.then_n (G.region (G.q (Quiet.move rfl) rfl ?_))))
    refine G.q (Quiet.add rfl rfl (by omega)) rfl ?_
    refine G.q (Quiet.assign rfl) rfl (G.nil (G.then_n ?_))
    exact G.roundK ((i + 1, (sesE (sesE s es[i]) (opE es[i].zx (100 + pickZ ys[i % ys.length] 9) i)))) (⟨by dsimp only; omega, hm2⟩) (by dsimp only; omega) ⟨rfl, rfl, rfl, rfl, rfl, rfl, trivial⟩ (by (repeat' constructor)) (by ((repeat (apply Have.cons; (repeat (first | exact Pick.here | apply Pick.there)))); apply Have.base; repeat' constructor))
  ·refine G.skip (G.blk_n (G.then_n (G.region (G.q (Quiet.move rfl) rfl ?_))))
   refine G.q (Quiet.add rfl rfl (by omega)) rfl ?_
   refine G.q (Quiet.assign rfl) rfl (G.nil (G.then_n ?_))
   have hmx : More (appL newT (es.take (i + 1))) (sesE s es[i]) := hm1
   exact G.roundK ((i + 1, (sesE s es[i]))) (⟨by dsimp only; omega, hmx⟩) (by dsimp only; omega) ⟨rfl, rfl, rfl, rfl, rfl, rfl, trivial⟩ (by (repeat' constructor)) (by ((repeat (apply Have.cons; (repeat (first | exact Pick.here | apply Pick.there)))); apply Have.base; repeat' constructor))
 ·have hii : i = es.length := by omega
  subst hii
  rw [List.take_length, ← hh.tree] at hm
  rw [List.take_length, ← hh.tree]
  refine G.exit (G.then_e (G.then_e (G.blk_e (G.then_n (G.seq (G.seq (G.region (G.q (Quiet.assign rfl) rfl (G.nil (G.then_n (G.block ?_)))))))))))
  refine G.loopK (ι := Nat × (List (Int × (Int × Bs)))) (fun q E => (12, vint q.1) :: E) (fun q => [treeR u8 (setS τ q.2)]) (fun q => (100 ≤ q.1 ∧ q.1 ≤ 109) ∧ Shut τ q.2 q.1) (fun q => 109 - q.1) (100, s) (ts := [4, 8, 9]) (.cons rfl (.cons rfl (.cons rfl (.nil)))) (⟨⟨by show 100 ≤ 100; decide, by show 100 ≤ 109; decide⟩, hm, fun i h1 h2 => by have : i < 100 := h2; omega⟩) ⟨rfl, rfl, rfl, rfl, trivial⟩ (by (repeat' constructor)) ?_
  rintro ⟨n, s2⟩ ⟨⟨hn1, hn2⟩, hsh⟩
  dsimp only
  dsimp only at hn1 hn2 hsh
  refine G.seq (G.seq (G.region (G.q (Quiet.move rfl) rfl (G.q (Quiet.int rfl rfl rfl) rfl (G.nil (G.then_n ?_))))))
  refine G.condD rfl (fun h92 => ?_) (fun h92 => ?_)
  ·refine G.skip (G.then_n (G.seq (G.block (G.region (G.q (Quiet.move rfl) rfl (G.q (Quiet.move rfl) rfl ?_))))))
   refine G.op (OpSpec.call Tryz.func22 rfl rfl (vs := [_]) rfl (trzxid_spec t τ)) (by (repeat' constructor)) rfl ?nx90
   rintro v L' ⟨rfl, rfl⟩
   refine G.q (Quiet.move rfl) rfl ?_
   refine G.q (Quiet.to (v' := .agg (ptC (clE τ.zx n).x).toArray) (Quiet.build (us := [(0, _), (4, _)]) fl_37 ze_37 rfl rfl (by simp [isCell])) rfl) rfl ?_
   refine G.q (Quiet.buildN (pl := [(0, 1), (1, 1), (2, 1), (3, 8)]) (us := [(0, vint τ.zx), (3, .agg (ptC (clE τ.zx n).x).toArray)]) (cells := [vint τ.zx, vint 0, vint 0] ++ ptC (clE τ.zx n).x) Tryz.underlying39 (by kernel_rfl) ze_39 rfl (fill_entry _ _ _ _ _ _ _ _ _)) rfl ?_
   refine G.op (OpSpec.call Tryz.func14 rfl rfl (vs := [_, _]) rfl (trapply_spec u8 (setS τ s2) τ.zx 0 0 (clE τ.zx n).x [] nilA (cl_tx nilA _ _) 60 (hsh.more.ok hinv) (by simp))) (by (repeat' constructor)) rfl ?nx95
   rintro v L' ⟨ue, ee, rfl, he, hue, rfl⟩
   refine G.nil ?_
   refine G.trCast (t := u8) (τ' := (setS τ (sesE s2 (clE τ.zx n)))) (by (repeat' constructor)) (by exact (cl_ss _ _ _ _ rfl).symm) ?_
   refine G.blk_n (G.then_n (G.region (G.q (Quiet.move rfl) rfl ?_)))
   refine G.q (Quiet.add rfl rfl (by omega)) rfl ?_
   refine G.q (Quiet.assign rfl) rfl (G.nil (G.then_n ?_))
   exact G.roundK ((n + 1, sesE s2 (clE τ.zx n))) (⟨⟨by dsimp only; omega, by dsimp only; omega⟩, hsh.step ⟨hn1, by omega⟩ τ.zx⟩) (by dsimp only; omega) ⟨rfl, rfl, rfl, rfl, trivial⟩ (by (repeat' constructor)) (by ((repeat (apply Have.cons; (repeat (first | exact Pick.here | apply Pick.there)))); apply Have.base; repeat' constructor))
  ·have hn9 : n = 109 := by omega
   subst hn9
   refine G.trCast (t := u8) (τ' := τ) (by (repeat' constructor)) (by exact (hsh.done hinv).symm) ?_
   refine G.exit (G.then_e (G.then_e (G.blk_e (G.then_n (G.seq (G.region (G.q (Quiet.move rfl) rfl (G.q (Quiet.move rfl) rfl ?_))))))))
   refine G.op (OpSpec.call Tryz.func23 rfl rfl (vs := [_, _]) rfl (trsame_spec t u8 τ τ 60 60 hok hok)) (by (repeat' constructor)) rfl ?nx101
   rintro v L' ⟨rfl, rfl⟩; rw [decide_eq_true rfl]
   refine G.q (Quiet.assign rfl) rfl (G.nil (G.then_n (G.ret ?_)))
   exact G.done (l := [.tmp 4]) rfl rfl ⟨rfl, rfl⟩ (by (repeat' constructor)) (by (repeat' constructor))

end Go.Proofs.YtnnbelmpbmfdnaaGreatDoor

/- Own work: from what a call is given to the atoms of SlCore, and back to what a statement asks. -/

namespace Go.Proofs.YtnnbelmpbmfdnaaGreatDoor
open Go Go.ChangeShapes Go.WideShapes Go.ChangeAt Go.RowKit

section
variable {H : Type} {enc : TypeId × Value → H} {P : Program} {W W' : World}
theorem trodAll_old (hl : laidOutB P = true) (hb : Below W.heap.size W W') (sp : Nat → Bool) : ∀ (ts : List TypeId) (vs : List Value) (ds : List (DataW H)) (p : List MemPlace), (∀ t ∈ ts, P.readableRec t = true ∧ t < P.types.size) →
    DataW.TrodAll enc P W 0 (fun _ => true) true ts vs ds p → (∀ x ∈ p, x.block < W.heap.size) → (∀ x ∈ p, sp x.block = true) → DataW.TrodAll enc P W' 0 sp true ts vs ds p
  | [], vs, ds, p, _, h, _, _ => by
    obtain ⟨rfl, rfl, rfl⟩ := trodAll_nil h
    exact h
  | t :: ts, vs, ds, p, hr, h, hlt, hsp => by
    obtain ⟨v, vs1, d, ds1, a, b, rfl, rfl, rfl, h1, h2⟩ := trodAll_cons h
    have r := hr t (by simp)
    refine ⟨a, b, WideElems.Trod_stays hl r.1 r.2 h1 (fun x hx => hb.same (hlt x (by simp [hx]))) (fun x hx => hsp x (by simp [hx])), ?_, rfl⟩
    exact trodAll_old hl hb sp ts vs1 ds1 b (fun t ht => hr t (by simp [ht])) h2 (fun x hx => hlt x (by simp [hx])) (fun x hx => hsp x (by simp [hx]))
theorem settled {fn : Func} {s : ChangeSpec} {apart fresh handsOn again : Bool} {args : Array Value} {ds gs : List (DataW H)} {before : List MemPlace} {tb : TypeId}
    (hW : DataW.Whole enc P fn.params.toList s.vars apart W args.toList ds gs before) (hvars : s.vars = []) (hspec : ∀ gs', gs' = [] → s.fn H (ds ++ gs') = { results := [.lit (.bool true)], args := ds })
    (hres : fn.resultTypes = #[tb]) (htb : P.underlying tb = some .bool) (hl : laidOutB P = true) (hr : ∀ t ∈ fn.params.toList, P.readableRec t = true ∧ t < P.types.size) (hb : Below W.heap.size W W') :
    s.post enc P fn apart fresh handsOn again W args (.bool true) W' := by
  have hW' := hW
  have hlt := hW.lt
  obtain ⟨p, q, hA, hV, rfl, hfz, hnd⟩ := hW
  rw [hvars] at hV
  obtain ⟨rfl, rfl⟩ := trodVars_none hV
  have hs := hspec [] rfl
  have hargs : ∀ sp : Nat → Bool, (∀ x ∈ p, sp x.block = true) → DataW.TrodAll enc P W' 0 sp true fn.params.toList args.toList ds p := fun sp hsp =>
    trodAll_old hl hb sp _ _ _ _ hr hA (fun x hx => hlt x (by simp [hx])) hsp
  have hbool : ∀ (b : Nat) (sp : Nat → Bool) (hd : Bool), DataW.TrodAll enc P W' b sp hd fn.resultTypes.toList ((Value.bool true).resultList fn.resultTypes.size) [.lit (.bool true)] [] := by
    intro b sp hd
    rw [hres]
    exact trodAll_cons_mk (shut_bool htb _) trodAll_mk0
  refine ⟨ds, [], p ++ [], [], p, [], hW', ?_, ?_, ?_, hb.frame _, fun _ => ⟨ok_one hres rfl (okWide_bool_mk htb _), [.lit (.bool true)] ++ ds, [], p, ⟨p, [], ?_, ?_, by simp, ?_, ?_⟩, ?_⟩⟩
  · rw [hs]; exact hbool _ _ _
  · rw [hs]; exact hargs _ (fun x hx => by simpa using hlt x (by simp [hx]))
  · rw [hs, hvars]; exact hV
  · exact trodAll_append (hargs _ (fun _ _ => rfl)) (hbool _ _ _)
  · rw [hvars]; exact hV
  · intro b off hp
    rw [hb.frozen (p := ⟨b, off, none⟩) (hlt (.cell b off) (by simp [hp]))]
    exact hfz b off (by simp [hp])
  · intro ha
    have := hnd ha
    simpa using this
  · intro x hx _
    simp [hx]
theorem old_calls {f : FuncId} {args : Array Value} (h : Fn P f args [Old W] fun v L => v = .bool true ∧ L = [Old W]) :
    Calls P f args W fun e W' => e = .returned (.bool true) ∧ Below W.heap.size W W' := by
  have h0 : St [Old W] W := ⟨fun b => W.heap[b]?, fun _ => none, fun _ => .inr rfl, fun b o h => h, fun b o h => (by cases h), fun b hb => rfl, trivial⟩
  refine (h [] W h0).mono ?_
  rintro e W' ⟨v, L, ⟨rfl, rfl⟩, rfl, hs, hk⟩
  refine ⟨rfl, hk.os, hk.tape, hk.output, hk.size, fun k hk' => ?_⟩
  obtain ⟨h1, a1, hp⟩ := sep_head hs
  have e1 := hp k hk'
  have : ∃ o, W.heap[k]? = some o := ⟨_, Array.getElem?_eq_getElem hk'⟩
  obtain ⟨o, ho⟩ := this
  rw [ho] at e1 ⊢
  exact a1 _ _ e1
theorem old_rd {a : Addr} {len cap : Nat} {V : Nat → Value} (hc : ∀ i, i < len → W.cell? (a.add i) = some (V i)) (hle : len ≤ cap) : ∀ h : Hp, Old W h → rdS 1 h (.slice (some a) len cap) len ((List.range len).map V) := by
  intro h hold
  rcases Nat.eq_zero_or_pos len with rfl | hpos
  · exact .inl ⟨rfl, rfl, some a, cap, rfl⟩
  · obtain ⟨b, off, spot⟩ := a
    have h0 := hc 0 hpos
    have e0 : (⟨b, off, spot⟩ : Addr).add 0 = ⟨b, off, spot⟩ := by simp [Addr.add]
    rw [e0] at h0
    simp only [World.cell?] at h0
    rcases hw : W.heap[b]? with _ | o
    · rw [hw] at h0; cases h0
    · cases o with
      | cells c T fr =>
        rw [hw] at h0
        dsimp only at h0
        split at h0
        · cases h0
        · rename_i hsp
          have hspot : spot = none := by simpa using hsp
          subst hspot
          have hc' : ∀ i, i < len → c[off + i]? = some (V i) := by
            intro i hi
            have := hc i hi
            have e1 : (⟨b, off, none⟩ : Addr).add i = ⟨b, off + i, none⟩ := by
              simp only [Addr.add]; split
              · rename_i h0; simp [h0]
              · rfl
            rw [e1] at this
            simp only [World.cell?, hw] at this
            simpa using this
          have hlt : b < W.heap.size := by
            rcases Nat.lt_or_ge b W.heap.size with h' | h'
            · exact h'
            · rw [Array.getElem?_eq_none h'] at hw; cases hw
          have hlen : off + len ≤ c.size := by
            have := hc' (len - 1) (by omega)
            rcases Nat.lt_or_ge (off + (len - 1)) c.size with h' | h'
            · omega
            · rw [Array.getElem?_eq_none h'] at this; cases this
          refine .inr ⟨b, off, cap, c.toList, T, fr, rfl, by rw [hold b hlt, hw], ?_, by simpa using hlen, hle⟩
          apply List.ext_getElem?
          intro i
          rw [Nat.mul_one, List.getElem?_take, List.getElem?_map, List.getElem?_drop]
          split
          · rename_i hi
            rw [List.getElem?_range hi]
            simpa using hc' i hi
          · rename_i hi
            rw [List.getElem?_eq_none (by simpa using hi)]; rfl
      | _ => rw [hw] at h0; cases h0
end
end Go.Proofs.YtnnbelmpbmfdnaaGreatDoor

/- Own work: strings and rows of strings as arguments. -/
namespace Go.Proofs.YtnnbelmpbmfdnaaGreatDoor
open Go Go.ChangeShapes Go.WideShapes Go.ChangeAt Go.RowKit

section
variable {H : Type} {enc : TypeId × Value → H} {P : Program} {W : World}
theorem string_vstr (s : ByteArray) : Value.string s = vstr s.data.toList := by cases s; rfl
end
end Go.Proofs.YtnnbelmpbmfdnaaGreatDoor

/- Own work: nested arguments decoded: slices of structs, and what the row says of their weight. -/

namespace Go.Proofs.YtnnbelmpbmfdnaaGreatDoor
open Go Go.ChangeShapes Go.WideShapes Go.ChangeAt Go.RowKit

section
variable {H : Type} {enc : TypeId × Value → H} {P : Program} {W : World}
/-- No slice and no string in this datum weighs more than the row's reach. -/
def Light (P : Program) (t : TypeId) (d : DataW H) : Prop := ∀ n ∈ d.weights P t, n ≤ reachBytes
theorem flat_at {α : Type} {sz : Nat} (f : Nat → List α) : ∀ n, (∀ i, i < n → (f i).length = sz) → ∀ j, j < n * sz → ((List.range n).flatMap f)[j]? = (f (j / sz))[j % sz]? ∧ ((List.range n).flatMap f).length = n * sz := by
  intro n
  induction n with
  | zero => intro _ j hj; omega
  | succ n ih =>
    intro hf j hj
    have hn := hf n (by omega)
    have hlen : ((List.range n).flatMap f).length = n * sz := by
      rcases Nat.eq_zero_or_pos (n * sz) with h0 | h0
      · rcases Nat.eq_zero_or_pos n with h1 | h1
        · subst h1; simp
        · have : sz = 0 := by
            rcases Nat.eq_zero_or_pos sz with h2 | h2
            · exact h2
            · have := Nat.mul_pos h1 h2; omega
          subst this; omega
      · exact (ih (fun i hi => hf i (by omega)) 0 h0).2
    have e : (List.range (n + 1)).flatMap f = (List.range n).flatMap f ++ f n := by simp [List.range_succ]
    have hm : (n + 1) * sz = n * sz + sz := by rw [Nat.add_mul, Nat.one_mul]
    rw [e]
    refine ⟨?_, by rw [List.length_append, hlen, hn, hm]⟩
    rcases Nat.lt_or_ge j (n * sz) with h | h
    · rw [List.getElem?_append_left (by omega)]
      exact (ih (fun i hi => hf i (by omega)) j h).1
    · rw [List.getElem?_append_right (by omega), hlen]
      have hs : 0 < sz := by omega
      have h1 : j / sz = n := by
        have : j < (n + 1) * sz := hj
        have a := Nat.div_lt_of_lt_mul (show j < sz * (n + 1) by rw [Nat.mul_comm]; exact this)
        have b := (Nat.le_div_iff_mul_le hs).2 h
        omega
      have h2 : j % sz = j - n * sz := by
        have := Nat.div_add_mod j sz
        rw [h1, Nat.mul_comm] at this; omega
      rw [h1, h2]
theorem rdS_regroup {sz n c c1 : Nat} {a : Option Addr} {ys : List Value} {h : Hp} (hr : rdS 1 h (.slice a (n * sz) c1) (n * sz) ys) (hc : n ≤ c) (hs : 0 < sz) : rdS sz h (.slice a n c) n ys := by
  rcases hr with ⟨h1, h2, -⟩ | ⟨b, off, cap, l, T, fr, hv, hb, h1, h2, h3⟩
  · have : n = 0 := by
      rcases Nat.eq_zero_or_pos n with h0 | h0
      · exact h0
      · have := Nat.mul_pos h0 hs; omega
    subst this
    exact .inl ⟨rfl, h2, a, c, rfl⟩
  · simp only [Value.slice.injEq] at hv
    obtain ⟨rfl, -, -⟩ := hv
    exact .inr ⟨b, off, c, l, T, fr, rfl, hb, by rw [← h1, Nat.mul_one], by rw [Nat.mul_one] at h2; exact h2, hc⟩
abbrev Reads (enc : TypeId × Value → H) (P : Program) (W : World) (fuel : Nat) (t : TypeId) (cs : List Value) (x : DataW H × List MemPlace) : Prop := DataW.trod enc P W 0 (fun _ => true) true fuel t cs = some x
theorem dec_int {t : TypeId} {fuel : Nat} {cs : List Value} {x : DataW H × List MemPlace} (ht : P.underlying t = some (.int .i64)) (h : Reads enc P W fuel t cs x) : ∃ n : Int, cs = [vint n] ∧ -9223372036854775808 ≤ n ∧ n ≤ 9223372036854775807 := by
  obtain ⟨n, rfl, -, hwf⟩ := DataW.trod_int ht h
  exact ⟨n, rfl, bounds_i64 hwf⟩
end
end Go.Proofs.YtnnbelmpbmfdnaaGreatDoor

/- Own work: arguments of a bounded bulk (the second form's bound), decoded. -/
namespace Go.Proofs.YtnnbelmpbmfdnaaGreatDoor
open Go Go.ChangeShapes Go.WideShapes Go.ChangeAt Go.RowKit

theorem bulk_pos {H : Type} (d : DataW H) : 1 ≤ Rows.uptoBulk d := by
  cases d with
  | lit l => cases l <;> simp [Rows.uptoBulk]
  | _ => simp [Rows.uptoBulk]
theorem bulk_part {H : Type} {d : DataW H} : ∀ {l : List (DataW H)}, d ∈ l → Rows.uptoBulk d ≤ Rows.uptoBulkAll l
  | x :: l, h => by
    unfold Rows.uptoBulkAll
    rcases List.mem_cons.1 h with rfl | h
    · omega
    · have := bulk_part h; omega
theorem bulk_count {H : Type} : ∀ l : List (DataW H), l.length ≤ Rows.uptoBulkAll l
  | [] => by simp
  | x :: l => by
    have h1 := bulk_pos x
    have h2 := bulk_count l
    unfold Rows.uptoBulkAll
    rw [List.length_cons]; omega
theorem bulk_agg {H : Type} {d : DataW H} {l : List (DataW H)} {N : Nat} (h : Rows.uptoBulk (.agg l) ≤ N) (hd : d ∈ l) : Rows.uptoBulk d ≤ N := by
  have := bulk_part hd
  simp only [Rows.uptoBulk] at h
  omega
theorem bulk_small {H : Type} {l : List (DataW H)} (h : Rows.uptoSmall H l = true) {d : DataW H} (hd : d ∈ l) : Rows.uptoBulk d ≤ 1048576 :=
  Nat.le_trans (bulk_part hd) (of_decide_eq_true h)
instance : Inhabited Value := ⟨.bool false⟩
section
variable {H : Type} {enc : TypeId × Value → H} {P : Program} {W : World} {N : Nat}
theorem dec_str {t : TypeId} {fuel : Nat} {cs : List Value} {x : DataW H × List MemPlace} (ht : P.underlying t = some .string) (h : Reads enc P W fuel t cs x) (hb : Rows.uptoBulk x.1 ≤ N) : ∃ s : List UInt8, cs = [vstr s] ∧ s.length ≤ N := by
  obtain ⟨s, rfl, rfl, -⟩ := DataW.trod_string ht h
  simp only [Rows.uptoBulk] at hb
  exact ⟨s.data.toList, by rw [string_vstr], by omega⟩
theorem dec_int' {t : TypeId} {fuel : Nat} {cs : List Value} {x : DataW H × List MemPlace} (ht : P.underlying t = some (.int .i64)) (h : Reads enc P W fuel t cs x) : ∃ n : Int, cs = [vint n] ∧ (-9223372036854775808 ≤ n ∧ n ≤ 9223372036854775807) := by
  obtain ⟨n, h1, h2⟩ := dec_int ht h; exact ⟨n, h1, h2⟩
theorem slice_cell {t e : TypeId} {fuel : Nat} {v : Value} {x : DataW H × List MemPlace} (ht : P.underlying t = some (.slice e)) (h : Reads enc P W fuel t [v] x) : isCell v = true := by
  rcases Go.Deep.open_slice ht h with ⟨hv, -⟩ | ⟨a, len, cap, m, n, Dd, Pl, hv, -⟩
  · rw [List.cons.injEq] at hv; rw [hv.1]; rfl
  · rw [List.cons.injEq] at hv; rw [hv.1]; rfl
/-- A slice, each of whose elements is decoded. -/
theorem dec_sliceU {Z : Type} [Inhabited Z] (toC : Z → List Value) (Q : Z → Prop) {t e : TypeId} {sz : Nat} {fuel : Nat} {cs : List Value} {x : DataW H × List MemPlace} (ht : P.underlying t = some (.slice e)) (hc : P.cellsOf e = sz) (hs : 0 < sz)
    (hdec : ∀ (n : Nat) (cs : List Value) (y : DataW H × List MemPlace), Reads enc P W n e cs y → Rows.uptoBulk y.1 ≤ N → ∃ z, cs = toC z ∧ Q z) (h : Reads enc P W fuel t cs x) (hb : Rows.uptoBulk x.1 ≤ N) :
    ∃ z : Value × List Z, cs = [z.1] ∧ (∀ h : Hp, Old W h → rdS sz h z.1 z.2.length (z.2.flatMap toC)) ∧ z.2.length ≤ N ∧ ∀ y ∈ z.2, Q y := by
  subst hc
  rcases Go.Deep.open_slice ht h with ⟨rfl, rfl⟩ | ⟨a, len, cap, m, n, Dd, Pl, rfl, -, hl, hm, hmm, rfl, hx⟩
  · exact ⟨(_, []), rfl, fun h _ => .inl ⟨rfl, rfl, none, 0, rfl⟩, by simp, by simp⟩
  · simp only [if_true] at hmm
    subst hmm
    have hbl : len ≤ N := by
      have := bulk_count ((List.range len).map Dd)
      simp only [Rows.uptoBulk] at hb
      rw [List.length_map, List.length_range] at this
      omega
    have hbe : ∀ i, i < len → Rows.uptoBulk (Dd i) ≤ N := fun i hi => by
      have := bulk_part (d := Dd i) (l := (List.range len).map Dd) (List.mem_map_of_mem (by simpa using hi))
      simp only [Rows.uptoBulk] at hb
      omega
    obtain ⟨Zf, hZ⟩ := Go.Deep.choose_lt (α := Z) (p := fun i z => W.cells? 0 (a.add (i * P.cellsOf e)) (P.cellsOf e) = some (toC z) ∧ Q z) (n := len) (fun i hi => by
      obtain ⟨cs', h1, h2⟩ := hx i (by omega)
      obtain ⟨z, rfl, h3⟩ := hdec _ _ _ h2 (hbe i hi)
      exact ⟨z, h1, h3⟩)
    have hlenf : ∀ i, i < len → (toC (Zf i)).length = P.cellsOf e := fun i hi => (World.cells?_some (hZ i hi).1).2.1
    have hflat := flat_at (fun i => toC (Zf i)) len hlenf
    refine ⟨(_, (List.range len).map Zf), rfl, ?_, ?_, ?_⟩
    · intro h hold
      dsimp only
      rw [List.length_map, List.length_range]
      refine rdS_regroup (c1 := len * P.cellsOf e) ?_ hl hs
      have e1 : ((List.range len).map Zf).flatMap toC = (List.range (len * P.cellsOf e)).map (fun j => ((List.range len).flatMap fun i => toC (Zf i)).getD j (.bool false)) := by
        rw [List.flatMap_map]
        apply List.ext_getElem?
        intro j
        rcases Nat.lt_or_ge j (len * P.cellsOf e) with hj | hj
        · rw [List.getElem?_map, List.getElem?_range hj]
          have := (hflat j hj).2
          have hjl : j < ((List.range len).flatMap fun i => toC (Zf i)).length := by omega
          simp only [Option.map_some, List.getD_eq_getElem?_getD, List.getElem?_eq_getElem hjl, Option.getD_some]
        · have : ((List.range len).flatMap fun i => toC (Zf i)).length = len * P.cellsOf e := by
            rcases Nat.eq_zero_or_pos (len * P.cellsOf e) with h0 | h0
            · have : len = 0 := by
                rcases Nat.eq_zero_or_pos len with h1 | h1
                · exact h1
                · have := Nat.mul_pos h1 hs; omega
              subst this; simp
            · exact (hflat 0 h0).2
          rw [List.getElem?_eq_none (by omega), List.getElem?_eq_none (by simpa using hj)]
      rw [e1]
      refine old_rd (W := W) (fun j hj => ?_) (Nat.le_refl _) h hold
      have hi : j / P.cellsOf e < len := Nat.div_lt_of_lt_mul (by rw [Nat.mul_comm]; exact hj)
      have hcell := (World.cells?_some (hZ (j / P.cellsOf e) hi).1).2.2 (j % P.cellsOf e) (Nat.mod_lt _ hs)
      rw [Addr.add_add, Nat.mul_comm, Nat.div_add_mod] at hcell
      rw [hcell]
      obtain ⟨f1, f2⟩ := hflat j hj
      rw [List.getD_eq_getElem?_getD, f1]
      have : j % P.cellsOf e < (toC (Zf (j / P.cellsOf e))).length := by rw [hlenf _ hi]; exact Nat.mod_lt _ hs
      simp [this]
    · dsimp only; rw [List.length_map, List.length_range]; exact hbl
    · intro z hz
      obtain ⟨i, hi, rfl⟩ := List.mem_map.1 hz
      exact (hZ i (by simpa using hi)).2
end
end Go.Proofs.YtnnbelmpbmfdnaaGreatDoor

/- Own work, by program: what the arguments are. -/
namespace Go.Proofs.YtnnbelmpbmfdnaaGreatDoor
open Go Go.ChangeShapes Go.WideShapes Go.ChangeAt Go.RowKit
theorem cells_3 : Tryz.prog.cellsOf 3 = 1 := by kernel_rfl
theorem cells_9 : Tryz.prog.cellsOf 9 = 1 := by kernel_rfl
theorem cells_22 : Tryz.prog.cellsOf 22 = 1 := by kernel_rfl
theorem cells_94 : Tryz.prog.cellsOf 94 = 5 := by kernel_rfl
def okAct (N : Nat) (_p : HP) (z : Ac0) : Prop := (-9223372036854775808 ≤ z.1 ∧ z.1 ≤ 9223372036854775807) ∧ (-9223372036854775808 ≤ z.2.1 ∧ z.2.1 ≤ 9223372036854775807) ∧ (-9223372036854775808 ≤ z.2.2.1 ∧ z.2.2.1 ≤ 9223372036854775807) ∧ z.2.2.2.1.length ≤ N ∧ isCell z.2.2.2.2 = true
set_option maxRecDepth 100000 in
theorem dec_Act {H : Type} {enc : TypeId × Value → H} {W : World} {N : Nat} (n : Nat) (cs : List Value) (y : DataW H × List MemPlace) (h : Reads enc Tryz.prog W n 94 cs y) (hb : Rows.uptoBulk y.1 ≤ N) : ∃ z : Ac0, cs = ac0C z ∧ okAct N (Old W) z := by
  obtain ⟨xs, m, -, rfl, hlen, hxs, hf⟩ := DataW.trod_struct Tryz.underlying94 h
  rw [cells_94] at hlen
  obtain ⟨a0, a1, a2, a3, a4, rfl⟩ : ∃ a0 a1 a2 a3 a4, cs = [a0, a1, a2, a3, a4] := by
    match cs, hlen with
    | [a0, a1, a2, a3, a4], _ => exact ⟨a0, a1, a2, a3, a4, rfl⟩
  obtain ⟨y0, y1, y2, y3, y4, rfl⟩ : ∃ y0 y1 y2 y3 y4, xs = [y0, y1, y2, y3, y4] := by
    match xs, hxs with
    | [y0, y1, y2, y3, y4], _ => exact ⟨y0, y1, y2, y3, y4, rfl⟩
  have f0 := hf 0 _ rfl
  have g0 : Reads enc Tryz.prog W m 3 (([a0, a1, a2, a3, a4] : List Value).drop 0 |>.take (Tryz.prog.cellsOf 3)) y0 := f0
  rw [cells_3] at g0
  have b0 : Rows.uptoBulk y0.1 ≤ N := bulk_agg hb (by simp)
  obtain ⟨z0, e0, q0⟩ := dec_int' Tryz.underlying3 g0
  simp at e0
  have f1 := hf 1 _ rfl
  have g1 : Reads enc Tryz.prog W m 3 (([a0, a1, a2, a3, a4] : List Value).drop 1 |>.take (Tryz.prog.cellsOf 3)) y1 := f1
  rw [cells_3] at g1
  have b1 : Rows.uptoBulk y1.1 ≤ N := bulk_agg hb (by simp)
  obtain ⟨z1, e1, q1⟩ := dec_int' Tryz.underlying3 g1
  simp at e1
  have f2 := hf 2 _ rfl
  have g2 : Reads enc Tryz.prog W m 3 (([a0, a1, a2, a3, a4] : List Value).drop 2 |>.take (Tryz.prog.cellsOf 3)) y2 := f2
  rw [cells_3] at g2
  have b2 : Rows.uptoBulk y2.1 ≤ N := bulk_agg hb (by simp)
  obtain ⟨z2, e2, q2⟩ := dec_int' Tryz.underlying3 g2
  simp at e2
  have f3 := hf 3 _ rfl
  have g3 : Reads enc Tryz.prog W m 9 (([a0, a1, a2, a3, a4] : List Value).drop 3 |>.take (Tryz.prog.cellsOf 9)) y3 := f3
  rw [cells_9] at g3
  have b3 : Rows.uptoBulk y3.1 ≤ N := bulk_agg hb (by simp)
  obtain ⟨z3, e3, q3⟩ := dec_str Tryz.underlying9 g3 b3
  simp at e3
  have f4 := hf 4 _ rfl
  have g4 : Reads enc Tryz.prog W m 22 (([a0, a1, a2, a3, a4] : List Value).drop 4 |>.take (Tryz.prog.cellsOf 22)) y4 := f4
  rw [cells_22] at g4
  obtain ⟨z4, e4, q4⟩ : ∃ z : Value, a4 = z ∧ isCell z = true := ⟨_, rfl, slice_cell Tryz.underlying22 g4⟩
  subst e0
  subst e1
  subst e2
  subst e3
  replace e4 := e4.symm
  subst e4
  exact ⟨(z0, z1, z2, z3, z4), rfl, q0, q1, q2, q3, q4⟩
def okAct1 (N : Nat) (_p : HP) (z : Ac0) : Prop := (-9223372036854775808 ≤ z.1 ∧ z.1 ≤ 9223372036854775807) ∧ (-9223372036854775808 ≤ z.2.1 ∧ z.2.1 ≤ 9223372036854775807) ∧ (-9223372036854775808 ≤ z.2.2.1 ∧ z.2.2.1 ≤ 9223372036854775807) ∧ z.2.2.2.1.length ≤ N ∧ (∃ l : List Ac0, (∀ h : Hp, _p h → rdS 5 h z.2.2.2.2 l.length (l.flatMap (ac0C))) ∧ l.length ≤ N ∧ ∀ y ∈ l, okAct N _p y)
set_option maxRecDepth 100000 in
theorem dec_Act1 {H : Type} {enc : TypeId × Value → H} {W : World} {N : Nat} (n : Nat) (cs : List Value) (y : DataW H × List MemPlace) (h : Reads enc Tryz.prog W n 94 cs y) (hb : Rows.uptoBulk y.1 ≤ N) : ∃ z : Ac0, cs = ac0C z ∧ okAct1 N (Old W) z := by
  obtain ⟨xs, m, -, rfl, hlen, hxs, hf⟩ := DataW.trod_struct Tryz.underlying94 h
  rw [cells_94] at hlen
  obtain ⟨a0, a1, a2, a3, a4, rfl⟩ : ∃ a0 a1 a2 a3 a4, cs = [a0, a1, a2, a3, a4] := by
    match cs, hlen with
    | [a0, a1, a2, a3, a4], _ => exact ⟨a0, a1, a2, a3, a4, rfl⟩
  obtain ⟨y0, y1, y2, y3, y4, rfl⟩ : ∃ y0 y1 y2 y3 y4, xs = [y0, y1, y2, y3, y4] := by
    match xs, hxs with
    | [y0, y1, y2, y3, y4], _ => exact ⟨y0, y1, y2, y3, y4, rfl⟩
  have f0 := hf 0 _ rfl
  have g0 : Reads enc Tryz.prog W m 3 (([a0, a1, a2, a3, a4] : List Value).drop 0 |>.take (Tryz.prog.cellsOf 3)) y0 := f0
  rw [cells_3] at g0
  have b0 : Rows.uptoBulk y0.1 ≤ N := bulk_agg hb (by simp)
  obtain ⟨z0, e0, q0⟩ := dec_int' Tryz.underlying3 g0
  simp at e0
  have f1 := hf 1 _ rfl
  have g1 : Reads enc Tryz.prog W m 3 (([a0, a1, a2, a3, a4] : List Value).drop 1 |>.take (Tryz.prog.cellsOf 3)) y1 := f1
  rw [cells_3] at g1
  have b1 : Rows.uptoBulk y1.1 ≤ N := bulk_agg hb (by simp)
  obtain ⟨z1, e1, q1⟩ := dec_int' Tryz.underlying3 g1
  simp at e1
  have f2 := hf 2 _ rfl
  have g2 : Reads enc Tryz.prog W m 3 (([a0, a1, a2, a3, a4] : List Value).drop 2 |>.take (Tryz.prog.cellsOf 3)) y2 := f2
  rw [cells_3] at g2
  have b2 : Rows.uptoBulk y2.1 ≤ N := bulk_agg hb (by simp)
  obtain ⟨z2, e2, q2⟩ := dec_int' Tryz.underlying3 g2
  simp at e2
  have f3 := hf 3 _ rfl
  have g3 : Reads enc Tryz.prog W m 9 (([a0, a1, a2, a3, a4] : List Value).drop 3 |>.take (Tryz.prog.cellsOf 9)) y3 := f3
  rw [cells_9] at g3
  have b3 : Rows.uptoBulk y3.1 ≤ N := bulk_agg hb (by simp)
  obtain ⟨z3, e3, q3⟩ := dec_str Tryz.underlying9 g3 b3
  simp at e3
  have f4 := hf 4 _ rfl
  have g4 : Reads enc Tryz.prog W m 22 (([a0, a1, a2, a3, a4] : List Value).drop 4 |>.take (Tryz.prog.cellsOf 22)) y4 := f4
  rw [cells_22] at g4
  have b4 : Rows.uptoBulk y4.1 ≤ N := bulk_agg hb (by simp)
  obtain ⟨w4, e4, q4⟩ := dec_sliceU (N := N) (ac0C) (fun y => okAct N (Old W) y) Tryz.underlying22 cells_94 (by decide) (fun n cs y h hb => dec_Act n cs y h hb) g4 b4
  simp at e4
  obtain ⟨z4, l4⟩ := w4
  dsimp only at e4 q4
  subst e0
  subst e1
  subst e2
  subst e3
  replace e4 := e4.symm
  subst e4
  exact ⟨(z0, z1, z2, z3, z4), rfl, q0, q1, q2, q3, ⟨l4, q4⟩⟩
theorem acts1_of {p : HP} {v : Value} {xs : List Ac0} (q : (∀ h : Hp, p h → rdS 5 h v xs.length (xs.flatMap ac0C)) ∧ xs.length ≤ 1048576 ∧ ∀ y ∈ xs, okAct1 1048576 p y) : Acts1 p v xs := by
  obtain ⟨q1, q2, q3⟩ := q
  refine ⟨⟨q1, q2, fun a ha => ?_⟩, fun a ha => ?_⟩
  · obtain ⟨h1, h2, h3, h4, -⟩ := q3 a ha
    exact ⟨h1, h2, h3, h4⟩
  · obtain ⟨-, -, -, -, l, g1, g2, g3⟩ := q3 a ha
    refine ⟨l, ⟨g1, g2, fun s hs => ?_⟩, fun s hs => (g3 s hs).2.2.2.2⟩
    obtain ⟨h1, h2, h3, h4, -⟩ := g3 s hs
    exact ⟨h1, h2, h3, h4⟩
end Go.Proofs.YtnnbelmpbmfdnaaGreatDoor

/- Own work: treeSessions: the walk, brought to the given second form and its card. -/

namespace Go.Proofs.YtnnbelmpbmfdnaaGreatDoor.treeSessions
open Go Go.ChangeShapes Go.WideShapes Go.ChangeAt Go.RowKit
theorem own : ownKnob Tryz.prog.godebug = none := by kernel_rfl
theorem laid : laidOutB Tryz.prog = true := by kernel_rfl
theorem readable : ∀ t ∈ Tryz.f5.params.toList, Tryz.prog.readableRec t = true ∧ t < Tryz.prog.types.size := by
  have h : (Tryz.f5.params.toList.all fun t => Tryz.prog.readableRec t && decide (t < Tryz.prog.types.size)) = true := by kernel_rfl
  intro t ht
  simpa using List.all_eq_true.1 h t ht
set_option maxRecDepth 100000 in
theorem contract (H : Type) (enc : TypeId × Value → H) (W : World) (base : Nat) (args : Array Value) (ds gs : List (DataW H)) (before : List MemPlace)
    (hval : ∀ (j : Nat) t v, Tryz.f5.params[j]? = some t → args[j]? = some v → Value.okWide Tryz.prog W .any base t v)
    (hW : DataW.Whole enc Tryz.prog Tryz.f5.params.toList Rows.treeSessionsSpec.vars false W args.toList ds gs before) (hk : Rows.uptoSmall H (ds ++ gs) = true) :
    Calls Tryz.prog 5 args W fun e W' => ∃ v, e = .returned v ∧ Rows.treeSessionsSpec.post enc Tryz.prog Tryz.f5 false true false false W args v W' := by
  have hW' := hW
  obtain ⟨p, q, hA, hV, rfl, hfz, hnd⟩ := hW
  obtain ⟨rfl, -⟩ := trodVars_none hV
  rw [List.append_nil] at hk
  have hpar : Tryz.f5.params = #[22, 52] := Tryz.params5
  rw [hpar] at hval
  have hA' := hA
  rw [hpar] at hA'
  obtain ⟨v0, vs0, d0, ds0, p0, r0, ha0, rfl, rfl, h0, t0⟩ := trodAll_cons hA'
  obtain ⟨v1, vs1, d1, ds1, p1, r1, ha1, rfl, rfl, h1, t1⟩ := trodAll_cons t0
  obtain ⟨hv, rfl, rfl⟩ := trodAll_nil t1
  obtain rfl : args = #[v0, v1] := by
    have e : args.toList = [v0, v1] := by rw [ha0, ha1, hv]
    cases args; simp_all
  have b0 := bulk_small hk (d := d0) (by simp)
  obtain ⟨ad0, nn0, cp0, rfl⟩ := okWide_slice Tryz.underlying22 (hval 0 _ _ rfl rfl)
  obtain ⟨fu0, g0⟩ := h0
  obtain ⟨z0, e0, q0⟩ := dec_sliceU (N := 1048576) (ac0C) (fun y => okAct1 1048576 (Old W) y) Tryz.underlying22 cells_94 (by decide) (fun n cs y h hb => dec_Act1 n cs y h hb) g0 b0
  simp [Value.cells] at e0
  obtain ⟨v0, xs0⟩ := z0
  dsimp only at e0 q0
  subst e0
  have b1 := bulk_small hk (d := d1) (by simp)
  obtain ⟨ad1, nn1, cp1, rfl⟩ := okWide_slice Tryz.underlying52 (hval 1 _ _ rfl rfl)
  obtain ⟨fu1, g1⟩ := h1
  obtain ⟨z1, e1, q1⟩ := dec_sliceU (N := 1048576) (fun z => [vint z]) (fun y => (-9223372036854775808 ≤ y ∧ y ≤ 9223372036854775807)) Tryz.underlying52 cells_3 (by decide) (fun n cs y h _ => dec_int' Tryz.underlying3 h) g1 b1
  simp [Value.cells] at e1
  obtain ⟨v1, xs1⟩ := z1
  dsimp only at e1 q1
  subst e1
  refine (old_calls (tsessions7_spec _ _ xs0 xs1 (Old W) (acts1_of q0) q1)).mono fun e W' ⟨he, hb⟩ => ⟨_, he, ?_⟩
  exact settled hW' rfl (fun gs' h => by subst h; rfl) rfl Tryz.underlying4 laid readable hb
/-- A world for the witness: the two tables that the row lists, as they are laid. -/
def cellsTo (l : List Value) : Obj → Obj
  | .cells _ t frozen => .cells l.toArray t frozen
  | o => o
noncomputable def laidWorld (os : Os) : World :=
  let w := World.holding Tryz.prog os ⟨#[], #[], []⟩
  { w with heap := (w.heap.modify 1 (cellsTo (Pinned.utf8FirstZ.map fun (n : Nat) => Value.int .u8 n))).modify 2 (cellsTo [.int .u8 128, .int .u8 191, .int .u8 160, .int .u8 191, .int .u8 128, .int .u8 159, .int .u8 144, .int .u8 191, .int .u8 128, .int .u8 143, .int .u8 0, .int .u8 0, .int .u8 0, .int .u8 0, .int .u8 0, .int .u8 0, .int .u8 0, .int .u8 0, .int .u8 0, .int .u8 0, .int .u8 0, .int .u8 0, .int .u8 0, .int .u8 0, .int .u8 0, .int .u8 0, .int .u8 0, .int .u8 0, .int .u8 0, .int .u8 0, .int .u8 0, .int .u8 0]) }
theorem laid_met (os : Os) : laidMet Tryz.prog Rows.treeSessionsUptoRow.laid ((laidWorld os).forCall (fun _ _ => 0) ⟨#[], #[.slice none 0 0, .slice none 0 0], []⟩).memory :=
  laidMet_of_run' 8 (by kernel_rfl) (by kernel_rfl)
theorem reads (os : Os) {H : Type} (enc : TypeId × Value → H) : ∃ places, DataW.whole enc Tryz.prog ((laidWorld os).forCall (fun _ _ => 0) ⟨#[], #[.slice none 0 0, .slice none 0 0], []⟩).memory Tryz.f5.params.toList Rows.treeSessionsSpec.vars false (#[.slice none 0 0, .slice none 0 0] : Array Value).toList 8 = some ([.nil, .nil], [], places) :=
  ⟨[], by kernel_rfl⟩
set_option maxRecDepth 100000 in
theorem lifted (os : Os) (started : os.Started) (H : Type) (enc : TypeId × Value → H) (F : Stop.Interp) :
    ReturnsInHanded {} Tryz.checked os 5 .any ((Rows.OpenSpec.upto Rows.treeSessionsSpec).preRow enc Tryz.prog Tryz.f5 Rows.treeSessionsUptoRow.domain false Rows.treeSessionsUptoRow.laid) (((Rows.OpenSpec.upto Rows.treeSessionsSpec).at F).post enc Tryz.prog Tryz.f5 false true false false) := by
  obtain ⟨places, hx⟩ := reads os enc
  refine returnsInHanded_of_row (C := Tryz.checked) (s := Rows.OpenSpec.upto Rows.treeSessionsSpec) own started (by kernel_rfl) Tryz.func5
    (witness_row_at (enc := enc) (C := Tryz.checked) false (laidWorld os) #[.slice none 0 0, .slice none 0 0] rfl (by kernel_rfl) (by kernel_rfl) (by kernel_rfl)
      (OpenSpec.preRow_of_cond 8 hx (by kernel_rfl) (fun k hk => by cases hk; kernel_rfl) (by kernel_rfl) (laid_met os))) ?_
  intro W base args ds gs before hval hW _ hcond _ _ _ _
  exact contract H enc W base args ds gs before hval hW (hcond _ rfl)
theorem saidUpto : Rows.TreeSessionsUptoSaid :=
  OpenClaim.holds_of_cond 5 Tryz.f5 rfl rfl rfl rfl rfl rfl rfl ⟨rfl, rfl, rfl, rfl, rfl⟩ rfl rfl rfl rfl rfl (by kernel_rfl) Tryz.func5 (by kernel_rfl)
    (of_decide_eq_true (by kernel_rfl)) (by unfold Func.isWrapper; first | (rw [if_pos (by decide +kernel)]; kernel_rfl) | (rw [if_neg (by decide +kernel)]; exact ⟨rfl, rfl⟩))
    (fun os started H enc _ F => by rw [OpenClaim.pre_eq_preRow]; exact lifted os started H enc F)
theorem plain (f : FuncId) (fn : Func) (hf : Tryz.pinned.checked.prog.funcNamed "arboretum/arboretumlaw07.TreeSessions" = some f) (hfn : Tryz.pinned.checked.prog.funcs[f]? = some fn) :
    true = Tryz.pinned.checked.prog.looks [] ∧ ∀ (j : Nat) t, fn.params[j]? = some t → Tryz.pinned.checked.prog.wantsStandIn t = false := by
  obtain rfl : f = 5 := Option.some.inj ((show Tryz.prog.funcNamed "arboretum/arboretumlaw07.TreeSessions" = some 5 by kernel_rfl).symm.trans hf) |>.symm
  obtain rfl : fn = Tryz.f5 := (Option.some.inj (Tryz.func5.symm.trans hfn)).symm
  refine ⟨by kernel_rfl, fun j t ht => ?_⟩
  have h : (Tryz.f5.params.toList.all fun t => !Tryz.pinned.checked.prog.wantsStandIn t) = true := by kernel_rfl
  have h2 := List.all_eq_true.1 h t (Array.mem_def.1 (Array.mem_of_getElem? ht))
  simpa using h2
theorem proved : Rows.TreeSessionsUptoCardSaid :=
  Claim7.holds_tied_plain_at .later [] _ _ _ _ saidUpto (fun _ h => by cases h) (by kernel_rfl) (fun _ h => by cases h) treeSessionsUpto_row_tie rfl ⟨rfl, rfl⟩ (by kernel_rfl) rfl plain (by kernel_rfl)
end Go.Proofs.YtnnbelmpbmfdnaaGreatDoor.treeSessions

