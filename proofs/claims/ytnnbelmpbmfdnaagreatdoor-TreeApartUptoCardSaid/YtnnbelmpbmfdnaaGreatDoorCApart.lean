/- Own work, some of it printed by program, texts that were built one by one and are laid one behind the other here: law 07: a tree tells what the document's does: walked. | law 07: clones: walked. | from what a call is given to the atoms of SlCore, and back to what a statement asks. | strings and rows of strings as arguments. | nested arguments decoded: slices of structs, and what the row says of their weight. | arguments of a bounded bulk (the second form's bound), decoded. | what the arguments are. | treeApart: the walk, brought to the given second form and its card. -/
import Derived.Test.YtnnbelmpbmfdnaaGreatDoorCApartP2
import Derived.Test.YtnnbelmpbmfdnaaGreatDoorCApartP3
import Derived.Test.YtnnbelmpbmfdnaaGreatDoorCApartP0
import Derived.Test.YtnnbelmpbmfdnaaGreatDoorRows
import Derived.WalkKit
import Derived.ProofKit
import Derived.OpenShut
import Derived.JoinedCond
import Derived.Carry
import Derived.Deep.Grids
import Derived.Handed
import Derived.Deep.Strs
import Derived.Test.YtnnbelmpbmfdnaaGreatDoorCards
import Derived.Test.YtnnbelmpbmfdnaaGreatDoorTie
import Derived.Deep.DeepHandedRow
import Derived.Lib.LaidTab
set_option linter.unusedSimpArgs false
set_option linter.unusedVariables false
/- Own work, by program: law 07: a tree tells what the document's does: walked. -/

namespace Go.Proofs.YtnnbelmpbmfdnaaGreatDoor
open Go
set_option maxHeartbeats 1000000 in
set_option maxRecDepth 100000 in
theorem alike7_spec (t x : Nat) (τ : Tr) (N : Nat) (ho : τ.Ok N) (hN : N ≤ 1073741824) (hb : ∀ y ∈ τ.sess, y.1 ≤ 9223372036854775807) : Fn Tryz.prog 27 #[vptr t, vptr x] [treeR t τ, refR x τ] fun r L => r = .bool true ∧ L = [treeR t τ, refR x τ] := by
 refine Fn.intro (vs := [vptr t, vptr x]) Tryz.func27 rfl rfl ?_
 intro F W
 have hfew := ho.few
 have hsf := ho.sfew
 have hpz : (pathsZ τ).length = τ.nodes.length := List.length_map _
 have hiz : (idsZ τ).length = τ.sess.length := List.length_map _
 refine G.seq (G.region (G.q (Quiet.assign rfl) rfl (G.nil (G.then_n (G.seq (G.region (G.q (Quiet.assign rfl) rfl (G.nil (G.then_n (G.seq (G.seq (G.add (slR_nil 9 1) (G.region (G.q (Quiet.assign rfl) rfl (G.nil (G.then_n (G.block ?_)))))))))))))))))
 refine G.loopK (ι := Nat × Value) (fun q E => (6, vint q.1) :: (5, q.2) :: E) (fun q => [treeR t τ, refR x τ, slR 9 1 q.2 ((pathsZ τ).take q.1).length (strs ((pathsZ τ).take q.1))]) (fun q => q.1 ≤ τ.nodes.length ∧ ∃ a c, q.2 = .slice a ((pathsZ τ).take q.1).length c) (fun q => τ.nodes.length - q.1) (0, .slice none 0 0) (ts := [0, 1]) (.cons rfl (.cons rfl (.nil))) (⟨Nat.zero_le _, none, 0, rfl⟩) ⟨rfl, rfl, rfl, rfl, trivial⟩ (by (repeat' constructor)) ?_
 rintro ⟨i, u⟩ ⟨hi, au, cu, hu⟩
 dsimp only
 dsimp only at hi hu
 subst hu
 have hpl2 : ((pathsZ τ).take i).length = i := by rw [List.length_take]; omega
 refine G.seq (G.seq ?_)
 refine G.rfOpen (x := x) (τ := τ) (by (repeat' constructor)) fun an cn as1 cs l hl => ?_
 have hll := nds_len hl
 refine G.region (G.q (Quiet.move rfl) rfl (G.q (Quiet.move rfl) rfl (G.q (Quiet.nilp rfl) rfl (G.q (Quiet.fieldAddr rfl fo_101_0) rfl ?_))))
 refine G.q (Quiet.load rfl ag_98 (by (repeat' constructor)) (rfl)) rfl ?_
 refine G.q (Quiet.slen rfl Tryz.underlying98 rfl) rfl (G.q (Quiet.int rfl rfl rfl) rfl (G.nil ?_))
 refine G.rfFold (x := x) (τ := τ) (l := l) hl (by (repeat' constructor)) rfl rfl rfl rfl rfl ?_
 refine G.then_n ?_
 refine G.condD rfl (fun h36 => ?_) (fun h36 => ?_)
 ·have hi2 : i < τ.nodes.length := by omega
  obtain ⟨hst, hth⟩ : statD τ τ.nodes[i].1 = { τ.nodes[i].2.st with len := τ.nodes[i].2.data.length, kids := (kidsZ τ τ.nodes[i].1).length } ∧ thereT τ τ.nodes[i].1 := by have h1 : alook τ.nodes τ.nodes[i].1 = some τ.nodes[i].2 := al_of_mem (ho.sorted.nodup linB) (List.getElem_mem hi2); exact ⟨stat_some h1, there_some'.2 ⟨_, h1⟩⟩
  have hlk : alook τ.nodes τ.nodes[i].1 = some τ.nodes[i].2 := al_of_mem (ho.sorted.nodup linB) (List.getElem_mem hi2)
  have hda : dataD τ τ.nodes[i].1 = τ.nodes[i].2.data := by unfold dataD; rw [hlk]; rfl
  have hac : aclD τ τ.nodes[i].1 = τ.nodes[i].2.acl := by unfold aclD; rw [hlk]; rfl
  have hacl := ho.acls _ (List.getElem_mem hi2)
  have hkl := kidsZ_len τ τ.nodes[i].1
  have hpsn : (pathsZ τ).take (i + 1) = (pathsZ τ).take i ++ [τ.nodes[i].1] := by rw [List.take_succ_eq_append_getElem (by omega)]; simp [pathsZ]
  refine G.skip (G.then_n (G.seq (G.block (G.seq ?_))))
  refine G.rfOpen (x := x) (τ := τ) (by (repeat' constructor)) fun an cn as1 cs l hl => ?_
  have hll := nds_len hl
  have hil : i < l.length := by omega
  have hgl := nds_get hl hil
  refine G.slShape (T := 131) (sz := 12) (v := .slice an l.length cn) (xs := l.flatMap rnC) (by (repeat' constructor)) (by omega) fun bn bn' e0 mbn _ => ?_
  simp only [Value.slice.injEq, true_and] at e0
  obtain ⟨rfl, rfl⟩ := e0
  refine G.region (G.q (Quiet.move rfl) rfl (G.q (Quiet.nilp rfl) rfl (G.q (Quiet.fieldAddr rfl fo_101_0) rfl ?_)))
  refine G.q (Quiet.load rfl ag_98 (by (repeat' constructor)) (rfl)) rfl ?_
  refine G.q (Quiet.move rfl) rfl ?_
  refine G.q (Quiet.indexAddr rfl rfl el_98 (by omega)) rfl ?_
  refine G.q (Quiet.fieldAddr rfl fo_131_0) rfl ?_
  refine G.q (Quiet.to (v' := vstr τ.nodes[i].1) (Quiet.loadRd (sz := 12) (j := i * 12 + 0) (p := rnR _ l) rfl ag_9 (by (repeat' constructor)) (fun h hp => slR_rd hp) (by omega) ((rn_cell (l := l) (i := i) (k := 0) (by omega) (by decide)).trans rfl)) (by rw [hgl])) rfl ?_
  refine G.q (Quiet.assign rfl) rfl (G.nil ?_)
  refine G.rfFold (x := x) (τ := τ) (l := l) hl (by (repeat' constructor)) rfl rfl rfl rfl rfl ?_
  refine G.then_n (G.seq (G.region (G.q (Quiet.move rfl) rfl (G.q (Quiet.move rfl) rfl ?_))))
  refine G.op (OpSpec.buildSlice1 (vs := [_]) el_40 ze_9 rfl rfl rfl rfl rfl (by decide)) (by (repeat' constructor)) rfl ?nx20
  rintro v L' ⟨b6_2, rfl, rfl⟩
  refine G.op (OpSpec.append1 rfl rfl rfl el_40 ze_9 rfl rfl ?c22 ?c23 (Nat.le_refl _) ?c24 (by decide)) (by (repeat' constructor)) rfl ?nx25
  case c22 => (first | (simp [isCell]; done) | (simp [isCell, setAll, Value.cells]; done))
  case c23 => rfl
  case c24 => first | omega | (simp; omega)
  rintro v L' ⟨⟨a6_3, c6_3, rfl⟩, rfl⟩
  refine G.q (Quiet.assign rfl) rfl (G.nil ?_)
  rw [show strs ((pathsZ τ).take i) ++ [vstr τ.nodes[i].1] = strs ((pathsZ τ).take (i + 1)) by rw [hpsn]; simp [strs], show ((pathsZ τ).take i).length + 1 = ((pathsZ τ).take (i + 1)).length by rw [hpsn, List.length_append]; rfl]
  refine G.then_n (G.seq (G.region (G.q (Quiet.move rfl) rfl (G.q (Quiet.move rfl) rfl ?_))))
  refine G.op (OpSpec.call Tryz.func41 rfl rfl (vs := [_, _]) rfl (trget_spec t τ τ.nodes[i].1 N ho (by omega))) (by (repeat' constructor)) rfl ?nx28
  rintro v L' ⟨rfl, rfl⟩; rw [if_pos hth]
  refine G.q (Quiet.move rfl) rfl (G.q (Quiet.extract rfl rfl) rfl (G.q (Quiet.extract rfl rfl) rfl (G.q (Quiet.extract rfl rfl) rfl ?_)))
  refine G.op (OpSpec.allocA ze_43) (by (repeat' constructor)) rfl ?nx33
  rintro v L' ⟨b9, rfl, rfl⟩
  refine G.q (Quiet.assign rfl) rfl ?_
  refine G.op (OpSpec.storeA rfl rfl ?c35 sz_43 ?c38 ?c36 ?c37) (by (repeat' constructor)) rfl ?nx39
  case c35 => intro v hv; simp only [stC, List.mem_cons, List.not_mem_nil, or_false] at hv; rcases hv with rfl | rfl | rfl | rfl | rfl | rfl | rfl | rfl | rfl <;> rfl
  case c38 => rfl
  case c36 => simp [stC]
  case c37 => exact nfz0 _ _
  rintro v L' rfl
  refine G.q (Quiet.assign rfl) rfl (G.nil ?_)
  refine G.ptCast (b := b9) (l' := stC (statD τ τ.nodes[i].1)) (by (repeat' constructor)) rfl ?_
  refine G.then_n (G.seq (G.region (G.q (Quiet.move rfl) rfl (G.q (Quiet.move rfl) rfl ?_))))
  refine G.op (OpSpec.call Tryz.func62 rfl rfl (vs := [_, _]) rfl (rstat_spec x τ τ.nodes[i].1 N ho hN)) (by (repeat' constructor)) rfl ?nx41
  rintro v L' ⟨rfl, rfl⟩; rw [decide_eq_true hth]
  refine G.q (Quiet.move rfl) rfl (G.q (Quiet.extract rfl rfl) rfl (G.q (Quiet.extract rfl rfl) rfl ?_))
  refine G.op (OpSpec.allocA ze_43) (by (repeat' constructor)) rfl ?nx45
  rintro v L' ⟨b11, rfl, rfl⟩
  refine G.op (OpSpec.storeA rfl rfl ?c47 sz_43 ?c50 ?c48 ?c49) (by (repeat' constructor)) rfl ?nx51
  case c47 => intro v hv; simp only [stC, List.mem_cons, List.not_mem_nil, or_false] at hv; rcases hv with rfl | rfl | rfl | rfl | rfl | rfl | rfl | rfl | rfl <;> rfl
  case c50 => rfl
  case c48 => simp [stC]
  case c49 => exact nfz0 _ _
  rintro v L' rfl
  refine G.q (Quiet.assign rfl) rfl (G.nil ?_)
  refine G.ptCast (b := b11) (l' := stC (statD τ τ.nodes[i].1)) (by (repeat' constructor)) rfl ?_
  refine G.then_n (G.seq (G.region (G.q (Quiet.move rfl) rfl (G.q (Quiet.move rfl) rfl ?_))))
  refine G.op (OpSpec.call Tryz.func16 rfl rfl (vs := [_, _]) rfl (trstat_spec t τ τ.nodes[i].1 N ho (by omega))) (by (repeat' constructor)) rfl ?nx53
  rintro v L' ⟨rfl, rfl⟩; rw [decide_eq_true hth]
  refine G.q (Quiet.move rfl) rfl (G.q (Quiet.extract rfl rfl) rfl (G.q (Quiet.extract rfl rfl) rfl ?_))
  refine G.op (OpSpec.allocA ze_43) (by (repeat' constructor)) rfl ?nx57
  rintro v L' ⟨b13, rfl, rfl⟩
  refine G.op (OpSpec.storeA rfl rfl ?c59 sz_43 ?c62 ?c60 ?c61) (by (repeat' constructor)) rfl ?nx63
  case c59 => intro v hv; simp only [stC, List.mem_cons, List.not_mem_nil, or_false] at hv; rcases hv with rfl | rfl | rfl | rfl | rfl | rfl | rfl | rfl | rfl <;> rfl
  case c62 => rfl
  case c60 => simp [stC]
  case c61 => exact nfz0 _ _
  rintro v L' rfl
  refine G.q (Quiet.assign rfl) rfl (G.nil ?_)
  refine G.ptCast (b := b13) (l' := stC (statD τ τ.nodes[i].1)) (by (repeat' constructor)) rfl ?_
  refine G.then_n (G.seq (G.region (G.q (Quiet.move rfl) rfl (G.q (Quiet.move rfl) rfl ?_))))
  refine G.op (OpSpec.call Tryz.func63 rfl rfl (vs := [_, _]) rfl (tracl_spec t τ τ.nodes[i].1 N ho)) (by (repeat' constructor)) rfl ?nx65
  rintro v L' ⟨ua, rfl, ⟨aa, ca, rfl⟩, rfl⟩; rw [if_pos hth]
  refine G.q (Quiet.move rfl) rfl (G.q (Quiet.extract rfl rfl) rfl (G.q (Quiet.extract rfl rfl) rfl (G.q (Quiet.assign rfl) rfl (G.q (Quiet.assign rfl) rfl (G.nil (G.then_n (G.seq (G.region (G.q (Quiet.move rfl) rfl (G.q (Quiet.move rfl) rfl ?_))))))))))
  refine G.op (OpSpec.call Tryz.func50 rfl rfl (vs := [_, _]) rfl (trkids_spec t τ τ.nodes[i].1 N ho (by omega))) (by (repeat' constructor)) rfl ?nx70
  rintro v L' ⟨uk, lk, rfl, -, hlk, ⟨ak, ck, rfl⟩, rfl⟩; rw [if_pos hth] at hlk; subst hlk; rw [if_pos hth]
  refine G.q (Quiet.move rfl) rfl (G.q (Quiet.extract rfl rfl) rfl (G.q (Quiet.extract rfl rfl) rfl (G.q (Quiet.assign rfl) rfl (G.q (Quiet.assign rfl) rfl (G.nil (G.then_n (G.seq ?_)))))))
  refine G.rfOpen (x := x) (τ := τ) (by (repeat' constructor)) fun an cn as1 cs l hl => ?_
  have hll := nds_len hl
  have hil : i < l.length := by omega
  have hgl := nds_get hl hil
  refine G.slShape (T := 131) (sz := 12) (v := .slice an l.length cn) (xs := l.flatMap rnC) (by (repeat' constructor)) (by omega) fun bn bn' e0 mbn _ => ?_
  simp only [Value.slice.injEq, true_and] at e0
  obtain ⟨rfl, rfl⟩ := e0
  refine G.region (G.q (Quiet.move rfl) rfl (G.q (Quiet.move rfl) rfl (G.q (Quiet.nilp rfl) rfl (G.q (Quiet.fieldAddr rfl fo_101_0) rfl ?_))))
  refine G.q (Quiet.load rfl ag_98 (by (repeat' constructor)) (rfl)) rfl ?_
  refine G.q (Quiet.move rfl) rfl ?_
  refine G.q (Quiet.indexAddr rfl rfl el_98 (by omega)) rfl ?_
  refine G.q (Quiet.fieldAddr rfl fo_131_2) rfl ?_
  refine G.q (Quiet.loadRd (sz := 12) (j := i * 12 + 2) (p := rnR _ l) rfl ag_34 (by (repeat' constructor)) (fun h hp => slR_rd hp) (by omega) ((rn_cell (l := l) (i := i) (k := 2) (by omega) (by decide)).trans rfl)) rfl ?_
  refine G.op (OpSpec.call Tryz.func64 rfl rfl (vs := [_, _]) rfl (rrowseq_spec _ l[i].2.1 (aclD τ τ.nodes[i].1) l[i].2.2.acl _ (bigR inA l) (fun h hp => slR_rd (T := 104) hp) (big_rd hil) (by rw [hac]; exact hacl))) (by (repeat' constructor)) rfl ?nx82
  rintro v L' ⟨rfl, rfl⟩; rw [decide_eq_true (by rw [hac, hgl])]
  refine G.q (Quiet.assign rfl) rfl (G.nil ?_)
  refine G.rfFold (x := x) (τ := τ) (l := l) hl (by (repeat' constructor)) rfl rfl rfl rfl rfl ?_
  refine G.then_n (G.seq (G.region (G.q (Quiet.move rfl) rfl (G.q (Quiet.move rfl) rfl (G.q (Quiet.move rfl) rfl ?_)))))
  refine G.op (OpSpec.call Tryz.func65 rfl rfl (vs := [_, _]) rfl (rkids_spec x τ τ.nodes[i].1 N ho hN)) (by (repeat' constructor)) rfl ?nx85
  rintro v L' ⟨⟨a13, c13, rfl⟩, rfl⟩
  refine G.op (OpSpec.call Tryz.func17 rfl rfl (vs := [_, _]) rfl (texts7_spec (kidsZ τ τ.nodes[i].1) (kidsZ τ τ.nodes[i].1) _ _ (by omega))) (by (repeat' constructor)) rfl ?nx87
  rintro v L' ⟨rfl, rfl⟩; rw [decide_eq_true rfl]
  refine G.q (Quiet.assign rfl) rfl (G.nil (G.then_n (G.seq (G.seq ?_))))
  refine G.rfOpen (x := x) (τ := τ) (by (repeat' constructor)) fun an cn as1 cs l hl => ?_
  have hll := nds_len hl
  have hil : i < l.length := by omega
  have hgl := nds_get hl hil
  refine G.slShape (T := 131) (sz := 12) (v := .slice an l.length cn) (xs := l.flatMap rnC) (by (repeat' constructor)) (by omega) fun bn bn' e0 mbn _ => ?_
  simp only [Value.slice.injEq, true_and] at e0
  obtain ⟨rfl, rfl⟩ := e0
  have hdl : dataD τ τ.nodes[i].1 = l[i].2.2.data := hda.trans (by rw [hgl])
  refine G.region (G.q (Quiet.move rfl) rfl (G.q (Quiet.move rfl) rfl (G.q (Quiet.nilp rfl) rfl (G.q (Quiet.fieldAddr rfl fo_101_0) rfl ?_))))
  refine G.q (Quiet.load rfl ag_98 (by (repeat' constructor)) (rfl)) rfl ?_
  refine G.q (Quiet.move rfl) rfl ?_
  refine G.q (Quiet.indexAddr rfl rfl el_98 (by omega)) rfl ?_
  refine G.q (Quiet.fieldAddr rfl fo_131_1) rfl ?_
  refine G.q (Quiet.loadRd (sz := 12) (j := i * 12 + 1) (p := rnR _ l) rfl ag_9 (by (repeat' constructor)) (fun h hp => slR_rd hp) (by omega) ((rn_cell (l := l) (i := i) (k := 1) (by omega) (by decide)).trans rfl)) rfl ?_
  refine G.q (Quiet.as (v' := .bool false) (by simp [hdl]) (Quiet.strne rfl rfl)) rfl ?_
  refine G.q (Quiet.move rfl) rfl (G.grun (t := 107) rfl rfl rfl ?_)
  refine G.q (Quiet.loadAs (vs := stC (statD τ τ.nodes[i].1)) rfl ag_43 (by (repeat' constructor)) (by simp [stC]) rfl) rfl ?_
  refine G.grun (t := 107) rfl rfl rfl ?_
  refine G.q (Quiet.loadAs (vs := stC (statD τ τ.nodes[i].1)) rfl ag_43 (by (repeat' constructor)) (by simp [stC]) rfl) rfl ?_
  refine G.grun (t := 107) rfl rfl rfl ?_
  refine G.q (Quiet.as (v' := .bool false) (by simp) (Quiet.structNe (r := decide (statD τ τ.nodes[i].1 = statD τ τ.nodes[i].1)) rfl rfl (by kernel_rfl) (st_eq 9998 _ _))) rfl ?_
  refine G.q (Quiet.pickF rfl rfl) rfl (G.q (Quiet.move rfl) rfl (G.grun (t := 112) rfl rfl rfl ?_))
  refine G.q (Quiet.loadAs (vs := stC (statD τ τ.nodes[i].1)) rfl ag_43 (by (repeat' constructor)) (by simp [stC]) rfl) rfl ?_
  refine G.grun (t := 112) rfl rfl rfl ?_
  refine G.q (Quiet.loadAs (vs := stC (statD τ τ.nodes[i].1)) rfl ag_43 (by (repeat' constructor)) (by simp [stC]) rfl) rfl ?_
  refine G.grun (t := 112) rfl rfl rfl ?_
  refine G.q (Quiet.as (v' := .bool false) (by simp) (Quiet.structNe (r := decide (statD τ τ.nodes[i].1 = statD τ τ.nodes[i].1)) rfl rfl (by kernel_rfl) (st_eq 9998 _ _))) rfl ?_
  refine G.q (Quiet.pickF rfl rfl) rfl (G.q (Quiet.move rfl) rfl (G.grun (t := 117) rfl rfl rfl (G.q (Quiet.move rfl) rfl (G.grun (t := 117) rfl rfl rfl (G.q (Quiet.not rfl) rfl (G.q (Quiet.pickF rfl rfl) rfl (G.q (Quiet.move rfl) rfl (G.grun (t := 121) rfl rfl rfl (G.q (Quiet.move rfl) rfl (G.grun (t := 121) rfl rfl rfl (G.q (Quiet.not rfl) rfl (G.q (Quiet.pickF rfl rfl) rfl (G.q (Quiet.move rfl) rfl (G.grun (t := 125) rfl rfl rfl (G.q (Quiet.move rfl) rfl (G.grun (t := 125) rfl rfl rfl (G.q (Quiet.not rfl) rfl (G.q (Quiet.pickF rfl rfl) rfl (G.q (Quiet.move rfl) rfl (G.grun (t := 129) rfl rfl rfl (G.q (Quiet.move rfl) rfl (G.grun (t := 129) rfl rfl rfl ?_))))))))))))))))))))))
  refine G.q (Quiet.as (v' := .bool false) (by rfl) (Quiet.int rfl rfl rfl)) rfl ?_
  refine G.q (Quiet.pickF rfl rfl) rfl (G.q (Quiet.move rfl) rfl (G.grun (t := 133) rfl rfl rfl (G.q (Quiet.move rfl) rfl (G.grun (t := 133) rfl rfl rfl ?_))))
  refine G.q (Quiet.as (v' := .bool false) (by rfl) (Quiet.int rfl rfl rfl)) rfl ?_
  refine G.q (Quiet.pickF rfl rfl) rfl (G.q (Quiet.move rfl) rfl (G.grun (t := 137) rfl rfl rfl (G.q (Quiet.move rfl) rfl (G.grun (t := 137) rfl rfl rfl ?_))))
  refine G.q (Quiet.as (v' := .bool false) (by rfl) (Quiet.int rfl rfl rfl)) rfl ?_
  refine G.q (Quiet.pickF rfl rfl) rfl (G.nil ?_)
  refine G.rfFold (x := x) (τ := τ) (l := l) hl (by (repeat' constructor)) rfl rfl rfl rfl rfl ?_
  refine G.then_n (G.condF rfl (G.skip (G.then_n (G.seq ?_))))
  refine G.rfOpen (x := x) (τ := τ) (by (repeat' constructor)) fun an cn as1 cs l hl => ?_
  have hll := nds_len hl
  have hil : i < l.length := by omega
  have hgl := nds_get hl hil
  refine G.slShape (T := 131) (sz := 12) (v := .slice an l.length cn) (xs := l.flatMap rnC) (by (repeat' constructor)) (by omega) fun bn bn' e0 mbn _ => ?_
  simp only [Value.slice.injEq, true_and] at e0
  obtain ⟨rfl, rfl⟩ := e0
  refine G.region (G.q (Quiet.move rfl) rfl (G.q (Quiet.nilp rfl) rfl (G.q (Quiet.fieldAddr rfl fo_101_0) rfl ?_)))
  refine G.q (Quiet.load rfl ag_98 (by (repeat' constructor)) (rfl)) rfl ?_
  refine G.q (Quiet.move rfl) rfl ?_
  refine G.q (Quiet.indexAddr rfl rfl el_98 (by omega)) rfl ?_
  refine G.q (Quiet.fieldAddr rfl fo_131_3) rfl (G.q (Quiet.fieldAddr rfl fo_43_6) rfl ?_)
  refine G.q (Quiet.loadRd (sz := 12) (j := i * 12 + 9) (p := rnR _ l) rfl ag_3 (by (repeat' constructor)) (fun h hp => slR_rd hp) (by omega) ((rn_cell (l := l) (i := i) (k := 9) (by omega) (by decide)).trans rfl)) rfl ?_
  refine G.q (Quiet.assign rfl) rfl (G.nil ?_)
  refine G.rfFold (x := x) (τ := τ) (l := l) hl (by (repeat' constructor)) rfl rfl rfl rfl rfl ?_
  have how : ∀ s, (ownedZ τ s).length ≤ τ.nodes.length := owned_len τ
  generalize l[i].2.2.st.own = ow
  refine G.then_n (G.seq (G.region (G.q (Quiet.move rfl) rfl (G.q (Quiet.move rfl) rfl ?_))))
  refine G.op (OpSpec.call Tryz.func18 rfl rfl (vs := [_, _]) rfl (trowned_spec t τ ow N ho (by omega))) (by (repeat' constructor)) rfl ?nx120
  rintro v L' ⟨⟨ao, co, rfl⟩, rfl⟩
  refine G.q (Quiet.move rfl) rfl (G.q (Quiet.move rfl) rfl ?_)
  refine G.op (OpSpec.call Tryz.func66 rfl rfl (vs := [_, _]) rfl (rowned_spec x τ ow N ho hN)) (by (repeat' constructor)) rfl ?nx123
  rintro v L' ⟨⟨ap, cp, rfl⟩, rfl⟩
  refine G.op (OpSpec.call Tryz.func17 rfl rfl (vs := [_, _]) rfl (texts7_spec (ownedZ τ ow) (ownedZ τ ow) _ _ (by have := how ow; omega))) (by (repeat' constructor)) rfl ?nx125
  rintro v L' ⟨rfl, rfl⟩; rw [decide_eq_true rfl]
  refine G.q (Quiet.assign rfl) rfl (G.nil (G.then_n (G.seq (G.region (G.q (Quiet.move rfl) rfl (G.q (Quiet.not rfl) rfl (G.nil (G.then_n (G.condF rfl (G.skip (G.blk_n (G.then_n (G.region (G.q (Quiet.move rfl) rfl ?_))))))))))))))
  refine G.q (Quiet.add rfl rfl (by omega)) rfl ?_
  refine G.q (Quiet.assign rfl) rfl (G.nil (G.then_n ?_))
  exact G.roundK ((i + 1, .slice a6_3 ((pathsZ τ).take (i + 1)).length c6_3)) (⟨by dsimp only; omega, _, _, rfl⟩) (by dsimp only; omega) ⟨rfl, rfl, rfl, rfl, trivial⟩ (by (repeat' constructor)) (by ((repeat (apply Have.cons; (repeat (first | exact Pick.here | apply Pick.there)))); apply Have.base; repeat' constructor))
 ·have hii : i = τ.nodes.length := by omega
  have hpt : (pathsZ τ).take i = pathsZ τ := List.take_of_length_le (by omega)
  rw [hpt]
  refine G.exit (G.then_e (G.then_e (G.blk_e (G.then_n (G.seq (G.region (G.q (Quiet.assign rfl) rfl (G.nil (G.then_n (G.seq (G.seq (G.add (slR_nil 3 1) (G.region (G.q (Quiet.assign rfl) rfl (G.nil (G.then_n (G.block ?_)))))))))))))))))
  refine G.loopK (ι := Nat × Value) (fun q E => (24, vint q.1) :: (23, q.2) :: E) (fun q => [treeR t τ, refR x τ, slR 3 1 q.2 ((idsZ τ).take q.1).length (ints ((idsZ τ).take q.1))]) (fun q => q.1 ≤ τ.sess.length ∧ ∃ a c, q.2 = .slice a ((idsZ τ).take q.1).length c) (fun q => τ.sess.length - q.1) (0, .slice none 0 0) (ts := [0, 1, 5]) (.cons rfl (.cons rfl (.cons rfl (.nil)))) (⟨Nat.zero_le _, none, 0, rfl⟩) ⟨rfl, rfl, rfl, rfl, rfl, trivial⟩ (by (repeat' constructor)) ?_
  rintro ⟨j, w⟩ ⟨hj, aw, cw, hw⟩
  dsimp only
  dsimp only at hj hw
  subst hw
  have hjl : ((idsZ τ).take j).length = j := by rw [List.length_take]; omega
  refine G.seq (G.seq ?_)
  refine G.rfOpen (x := x) (τ := τ) (by (repeat' constructor)) fun an cn as1 cs l hl => ?_
  have hll := nds_len hl
  refine G.region (G.q (Quiet.move rfl) rfl (G.q (Quiet.move rfl) rfl (G.q (Quiet.nilp rfl) rfl (G.q (Quiet.fieldAddr rfl fo_101_1) rfl ?_))))
  refine G.q (Quiet.load rfl ag_99 (by (repeat' constructor)) (rfl)) rfl ?_
  refine G.q (Quiet.slen rfl Tryz.underlying99 rfl) rfl (G.q (Quiet.int rfl rfl rfl) rfl (G.nil ?_))
  refine G.rfFold (x := x) (τ := τ) (l := l) hl (by (repeat' constructor)) rfl rfl rfl rfl rfl ?_
  refine G.then_n ?_
  refine G.condD rfl (fun h165 => ?_) (fun h165 => ?_)
  ·have hj2 : j < τ.sess.length := by omega
   have hsl : alook τ.sess τ.sess[j].1 = some τ.sess[j].2 := al_of_mem (ho.ssorted.nodup linI) (List.getElem_mem hj2)
   have hsd : sesD τ τ.sess[j].1 = τ.sess[j].2 ∧ sesT τ τ.sess[j].1 := by unfold sesD sesT; rw [hsl]; exact ⟨rfl, rfl⟩
   have hisn : (idsZ τ).take (j + 1) = (idsZ τ).take j ++ [τ.sess[j].1] := by rw [List.take_succ_eq_append_getElem (by omega)]; simp [idsZ]
   refine G.skip (G.then_n (G.seq (G.block (G.seq ?_))))
   refine G.rfOpen (x := x) (τ := τ) (by (repeat' constructor)) fun an cn as1 cs l hl => ?_
   refine G.slShape (T := 134) (sz := 3) (v := .slice as1 τ.sess.length cs) (xs := τ.sess.flatMap rsC) (by (repeat' constructor)) (by omega) fun bs bs' e0 mbs _ => ?_
   simp only [Value.slice.injEq, true_and] at e0
   obtain ⟨rfl, rfl⟩ := e0
   refine G.region (G.q (Quiet.move rfl) rfl (G.q (Quiet.move rfl) rfl (G.q (Quiet.nilp rfl) rfl (G.q (Quiet.fieldAddr rfl fo_101_1) rfl ?_))))
   refine G.q (Quiet.load rfl ag_99 (by (repeat' constructor)) (rfl)) rfl ?_
   refine G.q (Quiet.move rfl) rfl ?_
   refine G.q (Quiet.indexAddr rfl rfl el_99 (by omega)) rfl ?_
   refine G.q (Quiet.fieldAddr rfl fo_134_0) rfl ?_
   refine G.q (Quiet.loadRd (sz := 3) (j := j * 3 + 0) (p := rsR _ τ.sess) rfl ag_3 (by (repeat' constructor)) (fun h hp => slR_rd hp) (by omega) ((rs_cell (l := τ.sess) (i := j) (k := 0) (by omega) (by decide)).trans rfl)) rfl ?_
   refine G.op (OpSpec.buildSlice1 (vs := [_]) el_52 ze_3 rfl rfl rfl rfl rfl (by decide)) (by (repeat' constructor)) rfl ?nx148
   rintro v L' ⟨b24, rfl, rfl⟩
   refine G.op (OpSpec.append1 rfl rfl rfl el_52 ze_3 rfl rfl ?c150 ?c151 (Nat.le_refl _) ?c152 (by decide)) (by (repeat' constructor)) rfl ?nx153
   case c150 => (first | (simp [isCell]; done) | (simp [isCell, setAll, Value.cells]; done))
   case c151 => rfl
   case c152 => first | omega | (simp; omega)
   rintro v L' ⟨⟨a24_23, c24_23, rfl⟩, rfl⟩
   refine G.q (Quiet.assign rfl) rfl (G.nil ?_)
   rw [show ints ((idsZ τ).take j) ++ [vint τ.sess[j].1] = ints ((idsZ τ).take (j + 1)) by rw [hisn]; simp [ints], show ((idsZ τ).take j).length + 1 = ((idsZ τ).take (j + 1)).length by rw [hisn, List.length_append]; rfl]
   refine G.rfFold (x := x) (τ := τ) (l := l) hl (by (repeat' constructor)) rfl rfl rfl rfl rfl ?_
   refine G.then_n (G.seq ?_)
   refine G.rfOpen (x := x) (τ := τ) (by (repeat' constructor)) fun an cn as1 cs l hl => ?_
   refine G.slShape (T := 134) (sz := 3) (v := .slice as1 τ.sess.length cs) (xs := τ.sess.flatMap rsC) (by (repeat' constructor)) (by omega) fun bs bs' e0 mbs _ => ?_
   simp only [Value.slice.injEq, true_and] at e0
   obtain ⟨rfl, rfl⟩ := e0
   refine G.region (G.q (Quiet.move rfl) rfl (G.q (Quiet.move rfl) rfl (G.q (Quiet.nilp rfl) rfl (G.q (Quiet.fieldAddr rfl fo_101_1) rfl ?_))))
   refine G.q (Quiet.load rfl ag_99 (by (repeat' constructor)) (rfl)) rfl ?_
   refine G.q (Quiet.move rfl) rfl ?_
   refine G.q (Quiet.indexAddr rfl rfl el_99 (by omega)) rfl ?_
   refine G.q (Quiet.fieldAddr rfl fo_134_0) rfl ?_
   refine G.q (Quiet.loadRd (sz := 3) (j := j * 3 + 0) (p := rsR _ τ.sess) rfl ag_3 (by (repeat' constructor)) (fun h hp => slR_rd hp) (by omega) ((rs_cell (l := τ.sess) (i := j) (k := 0) (by omega) (by decide)).trans rfl)) rfl ?_
   refine G.rfFold (x := x) (τ := τ) (l := l) hl (by (repeat' constructor)) rfl rfl rfl rfl rfl ?_
   refine G.op (OpSpec.call Tryz.func19 rfl rfl (vs := [_, _]) rfl (trsession_spec t τ τ.sess[j].1)) (by (repeat' constructor)) rfl ?nx164
   rintro v L' ⟨rfl, rfl⟩; rw [hsd.1, decide_eq_true hsd.2]
   refine G.q (Quiet.move rfl) rfl (G.q (Quiet.extract rfl rfl) rfl (G.q (Quiet.extract rfl rfl) rfl (G.q (Quiet.extract rfl rfl) rfl (G.q (Quiet.assign rfl) rfl (G.q (Quiet.assign rfl) rfl (G.q (Quiet.assign rfl) rfl (G.nil (G.then_n (G.seq ?_)))))))))
   refine G.rfOpen (x := x) (τ := τ) (by (repeat' constructor)) fun an cn as1 cs l hl => ?_
   refine G.slShape (T := 134) (sz := 3) (v := .slice as1 τ.sess.length cs) (xs := τ.sess.flatMap rsC) (by (repeat' constructor)) (by omega) fun bs bs' e0 mbs _ => ?_
   simp only [Value.slice.injEq, true_and] at e0
   obtain ⟨rfl, rfl⟩ := e0
   refine G.region (G.q (Quiet.move rfl) rfl (G.q (Quiet.move rfl) rfl (G.q (Quiet.nilp rfl) rfl (G.q (Quiet.fieldAddr rfl fo_101_1) rfl ?_))))
   refine G.q (Quiet.load rfl ag_99 (by (repeat' constructor)) (rfl)) rfl ?_
   refine G.q (Quiet.move rfl) rfl ?_
   refine G.q (Quiet.indexAddr rfl rfl el_99 (by omega)) rfl ?_
   refine G.q (Quiet.fieldAddr rfl fo_134_1) rfl ?_
   refine G.q (Quiet.loadRd (sz := 3) (j := j * 3 + 1) (p := rsR _ τ.sess) rfl ag_3 (by (repeat' constructor)) (fun h hp => slR_rd hp) (by omega) ((rs_cell (l := τ.sess) (i := j) (k := 1) (by omega) (by decide)).trans rfl)) rfl ?_
   refine G.q (Quiet.as (v' := .bool false) (by simp) (Quiet.int rfl rfl rfl)) rfl ?_
   refine G.q (Quiet.move rfl) rfl (G.grun (t := 203) rfl rfl rfl (G.q (Quiet.move rfl) rfl (G.grun (t := 203) rfl rfl rfl (G.q (Quiet.move rfl) rfl (G.grun (t := 203) rfl rfl rfl (G.q (Quiet.nilp rfl) rfl (G.grun (t := 203) rfl rfl rfl (G.q (Quiet.fieldAddr rfl fo_101_1) rfl (G.grun (t := 203) rfl rfl rfl ?_)))))))))
   refine G.q (Quiet.load rfl ag_99 (by (repeat' constructor)) (rfl)) rfl ?_
   refine G.grun (t := 203) rfl rfl rfl (G.q (Quiet.move rfl) rfl (G.grun (t := 203) rfl rfl rfl ?_))
   refine G.q (Quiet.indexAddr rfl rfl el_99 (by omega)) rfl ?_
   refine G.grun (t := 203) rfl rfl rfl (G.q (Quiet.fieldAddr rfl fo_134_2) rfl (G.grun (t := 203) rfl rfl rfl ?_))
   refine G.q (Quiet.loadRd (sz := 3) (j := j * 3 + 2) (p := rsR _ τ.sess) rfl ag_9 (by (repeat' constructor)) (fun h hp => slR_rd hp) (by omega) ((rs_cell (l := τ.sess) (i := j) (k := 2) (by omega) (by decide)).trans rfl)) rfl ?_
   refine G.grun (t := 203) rfl rfl rfl ?_
   refine G.q (Quiet.as (v' := .bool false) (by simp) (Quiet.strne rfl rfl)) rfl ?_
   refine G.q (Quiet.pickF rfl rfl) rfl (G.q (Quiet.move rfl) rfl (G.grun (t := 215) rfl rfl rfl (G.q (Quiet.move rfl) rfl (G.grun (t := 215) rfl rfl rfl (G.q (Quiet.not rfl) rfl (G.q (Quiet.pickF rfl rfl) rfl (G.nil ?_)))))))
   refine G.rfFold (x := x) (τ := τ) (l := l) hl (by (repeat' constructor)) rfl rfl rfl rfl rfl ?_
   refine G.then_n (G.condF rfl (G.skip (G.blk_n (G.then_n (G.region (G.q (Quiet.move rfl) rfl ?_))))))
   refine G.q (Quiet.add rfl rfl (by omega)) rfl ?_
   refine G.q (Quiet.assign rfl) rfl (G.nil (G.then_n ?_))
   exact G.roundK ((j + 1, .slice a24_23 ((idsZ τ).take (j + 1)).length c24_23)) (⟨by dsimp only; omega, _, _, rfl⟩) (by dsimp only; omega) ⟨rfl, rfl, rfl, rfl, rfl, trivial⟩ (by (repeat' constructor)) (by ((repeat (apply Have.cons; (repeat (first | exact Pick.here | apply Pick.there)))); apply Have.base; repeat' constructor))
  ·have hjj : j = τ.sess.length := by omega
   have hjt : (idsZ τ).take j = idsZ τ := List.take_of_length_le (by omega)
   rw [hjt]
   refine G.exit (G.then_e (G.then_e (G.blk_e (G.then_n (G.seq (G.region (G.q (Quiet.move rfl) rfl ?_)))))))
   refine G.op (OpSpec.call Tryz.func15 rfl rfl (vs := [_]) rfl (trpaths_spec t τ N ho (by omega))) (by (repeat' constructor)) rfl ?nx191
   rintro v L' ⟨⟨a28, c28, rfl⟩, rfl⟩
   refine G.q (Quiet.move rfl) rfl ?_
   refine G.op (OpSpec.call Tryz.func17 rfl rfl (vs := [_, _]) rfl (texts7_spec (pathsZ τ) (pathsZ τ) _ _ (by omega))) (by (repeat' constructor)) rfl ?nx194
   rintro v L' ⟨rfl, rfl⟩; rw [decide_eq_true rfl]
   refine G.q (Quiet.assign rfl) rfl (G.nil (G.then_n (G.seq (G.region (G.q (Quiet.move rfl) rfl ?_)))))
   refine G.op (OpSpec.call Tryz.func68 rfl rfl (vs := [_]) rfl (trsessions_spec t τ N ho hb (by omega))) (by (repeat' constructor)) rfl ?nx197
   rintro v L' ⟨⟨a29, c29, rfl⟩, rfl⟩
   refine G.q (Quiet.move rfl) rfl ?_
   refine G.op (OpSpec.call Tryz.func67 rfl rfl (vs := [_, _]) rfl (numbers7_spec (idsZ τ) (idsZ τ) _ _ (by omega))) (by (repeat' constructor)) rfl ?nx200
   rintro v L' ⟨rfl, rfl⟩; rw [decide_eq_true rfl]
   refine G.q (Quiet.assign rfl) rfl (G.nil (G.then_n (G.seq ?_)))
   refine G.rfOpen (x := x) (τ := τ) (by (repeat' constructor)) fun an cn as1 cs l hl => ?_
   refine G.draw [] [[0, 1, 2, 3, 4, 5, 6, 7, 8, 9, 10, 11, 12, 13]] mixed (by kernel_rfl) ?_
   refine Phases.go [treeR t τ, ptc x _ _] (by (repeat' constructor)) ?_
   refine D.qw [1, 2, 3, 4, 5, 6, 7, 8, 9, 10, 11, 12, 13] rfl (by kernel_rfl) (Quiet.move rfl) ?_
   refine D.qw [2, 3, 4, 5, 6, 7, 8, 9, 10, 11, 12, 13] rfl (by kernel_rfl) (Quiet.move rfl) ?_
   refine D.gqw [3, 4, 5, 6, 7, 8, 9, 10, 11, 12, 13] (t := 228) rfl rfl rfl (by kernel_rfl) (Quiet.move rfl) ?_
   refine D.qw [4, 5, 6, 7, 8, 9, 10, 11, 12, 13] rfl (by kernel_rfl) (Quiet.pickT rfl rfl) ?_
   refine D.qw [5, 6, 7, 8, 9, 10, 11, 12, 13] rfl (by kernel_rfl) (Quiet.move rfl) ?_
   refine D.gqw [6, 11, 12, 13] (t := 231) rfl rfl rfl (by kernel_rfl) (Quiet.move rfl) ?_
   refine D.gm (t := 231) rfl rfl rfl (by kernel_rfl) (OpSpec.call Tryz.func22 rfl rfl (vs := [_]) rfl (trzxid_spec t τ)) (by (repeat' constructor)) ?nx203
   refine D.gqw [8, 9, 10, 11, 12, 13] (t := 231) rfl rfl rfl (by kernel_rfl) (Quiet.move rfl) ?_
   refine D.gqw [9, 10, 11, 12, 13] (t := 231) rfl rfl rfl (by kernel_rfl) (Quiet.nilp rfl) ?_
   refine D.gqw [10, 11, 12, 13] (t := 231) rfl rfl rfl (by kernel_rfl) (Quiet.fieldAddr rfl fo_101_2) ?_
   refine D.gqw [11, 12, 13] (t := 231) rfl rfl rfl (by kernel_rfl) (Quiet.load rfl ag_3 (by (repeat' constructor)) (rfl)) ?_
   refine D.gqw [12, 13] (t := 231) rfl rfl rfl (by kernel_rfl) (Quiet.as (v' := .bool true) (by simp) (Quiet.int rfl rfl rfl)) ?_
   refine D.qw [13] rfl (by kernel_rfl) (Quiet.pickT rfl rfl) ?_
   refine D.qw [] rfl (by kernel_rfl) (Quiet.assign rfl) ?_
   refine D.ph (Phases.fin ?_)
   refine G.rfFold (x := x) (τ := τ) (l := l) hl (by (repeat' constructor)) rfl rfl rfl rfl rfl ?_
   refine G.then_n (G.ret ?_)
   exact G.done (l := [.tmp 4]) rfl rfl ⟨rfl, rfl⟩ (by (repeat' constructor)) (by (repeat' constructor))

theorem spl_cells {l vs : List Value} {i : Nat} (h : ∀ y ∈ l, isCell y = true) (hv : ∀ y ∈ vs, isCell y = true) : ∀ y ∈ spl l i vs, isCell y = true := fun y hy => by
  unfold spl at hy
  rcases List.mem_append.1 hy with hy | hy
  · rcases List.mem_append.1 hy with hy | hy
    · exact h y (List.mem_of_mem_take hy)
    · exact hv y hy
  · exact h y (List.mem_of_mem_drop hy)
theorem acl_none {τ : Tr} {p : Bs} (h : ¬ thereT τ p) : aclD τ p = [] ∧ dataD τ p = [] := by
  unfold aclD dataD
  unfold thereT at h
  cases e : alook τ.nodes p with
  | none => exact ⟨rfl, rfl⟩
  | some y => rw [e] at h; exact absurd rfl h
set_option maxHeartbeats 1000000 in
set_option maxRecDepth 100000 in
theorem reads7_spec (t x : Nat) (τ : Tr) (p : Bs) (N : Nat) (ho : τ.Ok N) (hN : N ≤ 1073741824) : Fn Tryz.prog 28 #[vptr t, vptr x, vstr p] [treeR t τ, refR x τ] fun r L => r = .bool true ∧ L = [treeR t τ, refR x τ] := by
 refine Fn.intro (vs := [vptr t, vptr x, vstr p]) Tryz.func28 rfl rfl ?_
 intro F W
 have hfew := ho.few
 have hkl := kidsZ_len τ p
 refine G.seq (G.region (G.q (Quiet.assign rfl) rfl (G.nil (G.then_n (G.seq (G.region ?_))))))
 rcases Decidable.em (thereT τ p) with hth | hth
 ·refine G.q (Quiet.move rfl) rfl (G.q (Quiet.move rfl) rfl ?_)
  refine G.op (OpSpec.call Tryz.func41 rfl rfl (vs := [_, _]) rfl (trget_spec t τ p N ho (by omega))) (by (repeat' constructor)) rfl ?nx4
  rintro v L' ⟨rfl, rfl⟩; rw [if_pos hth]
  refine G.q (Quiet.move rfl) rfl (G.q (Quiet.extract rfl rfl) rfl (G.q (Quiet.extract rfl rfl) rfl (G.q (Quiet.extract rfl rfl) rfl ?_)))
  refine G.op (OpSpec.allocA ze_43) (by (repeat' constructor)) rfl ?nx9
  rintro v L' ⟨b8, rfl, rfl⟩
  refine G.q (Quiet.assign rfl) rfl ?_
  refine G.op (OpSpec.storeA rfl rfl ?c11 sz_43 ?c14 ?c12 ?c13) (by (repeat' constructor)) rfl ?nx15
  case c11 => intro v hv; simp only [stC, List.mem_cons, List.not_mem_nil, or_false] at hv; rcases hv with rfl | rfl | rfl | rfl | rfl | rfl | rfl | rfl | rfl <;> rfl
  case c14 => rfl
  case c12 => simp [stC]
  case c13 => exact nfz0 _ _
  rintro v L' rfl
  refine G.q (Quiet.assign rfl) rfl (G.nil ?_)
  refine G.ptCast (b := b8) (l' := stC (statD τ p)) (by (repeat' constructor)) rfl ?_
  refine G.then_n (G.seq (G.region (G.q (Quiet.move rfl) rfl (G.q (Quiet.move rfl) rfl ?_))))
  refine G.op (OpSpec.call Tryz.func16 rfl rfl (vs := [_, _]) rfl (trstat_spec t τ p N ho (by omega))) (by (repeat' constructor)) rfl ?nx18
  rintro v L' ⟨rfl, rfl⟩; rw [decide_eq_true hth]
  refine G.q (Quiet.move rfl) rfl (G.q (Quiet.extract rfl rfl) rfl (G.q (Quiet.extract rfl rfl) rfl ?_))
  refine G.op (OpSpec.allocA ze_43) (by (repeat' constructor)) rfl ?nx22
  rintro v L' ⟨b10, rfl, rfl⟩
  refine G.op (OpSpec.storeA rfl rfl ?c24 sz_43 ?c27 ?c25 ?c26) (by (repeat' constructor)) rfl ?nx28
  case c24 => intro v hv; simp only [stC, List.mem_cons, List.not_mem_nil, or_false] at hv; rcases hv with rfl | rfl | rfl | rfl | rfl | rfl | rfl | rfl | rfl <;> rfl
  case c27 => rfl
  case c25 => simp [stC]
  case c26 => exact nfz0 _ _
  rintro v L' rfl
  refine G.q (Quiet.assign rfl) rfl (G.nil ?_)
  refine G.ptCast (b := b10) (l' := stC (statD τ p)) (by (repeat' constructor)) rfl ?_
  refine G.then_n (G.seq (G.region (G.q (Quiet.move rfl) rfl (G.q (Quiet.move rfl) rfl ?_))))
  refine G.op (OpSpec.call Tryz.func63 rfl rfl (vs := [_, _]) rfl (tracl_spec t τ p N ho)) (by (repeat' constructor)) rfl ?nx31
  rintro v L' ⟨ua, rfl, ⟨aa, ca, rfl⟩, rfl⟩; rw [if_pos hth]
  refine G.q (Quiet.move rfl) rfl (G.q (Quiet.extract rfl rfl) rfl (G.q (Quiet.extract rfl rfl) rfl (G.q (Quiet.assign rfl) rfl (G.q (Quiet.assign rfl) rfl (G.nil (G.then_n (G.seq (G.region (G.q (Quiet.move rfl) rfl (G.q (Quiet.move rfl) rfl ?_))))))))))
  refine G.op (OpSpec.call Tryz.func50 rfl rfl (vs := [_, _]) rfl (trkids_spec t τ p N ho (by omega))) (by (repeat' constructor)) rfl ?nx37
  rintro v L' ⟨uk, lk, rfl, -, hlk, ⟨ak, ck, rfl⟩, rfl⟩; rw [if_pos hth] at hlk; subst hlk; rw [if_pos hth]
  refine G.q (Quiet.move rfl) rfl (G.q (Quiet.extract rfl rfl) rfl (G.q (Quiet.extract rfl rfl) rfl (G.q (Quiet.assign rfl) rfl (G.q (Quiet.assign rfl) rfl (G.nil (G.then_n (G.seq (G.region (G.q (Quiet.move rfl) rfl (G.q (Quiet.move rfl) rfl ?_))))))))))
  refine G.op (OpSpec.call Tryz.func62 rfl rfl (vs := [_, _]) rfl (rstat_spec x τ p N ho hN)) (by (repeat' constructor)) rfl ?nx43
  rintro v L' ⟨rfl, rfl⟩; rw [decide_eq_true hth]
  refine G.q (Quiet.move rfl) rfl (G.q (Quiet.extract rfl rfl) rfl (G.q (Quiet.extract rfl rfl) rfl ?_))
  refine G.op (OpSpec.allocA ze_43) (by (repeat' constructor)) rfl ?nx47
  rintro v L' ⟨b16, rfl, rfl⟩
  refine G.op (OpSpec.storeA rfl rfl ?c49 sz_43 ?c52 ?c50 ?c51) (by (repeat' constructor)) rfl ?nx53
  case c49 => intro v hv; simp only [stC, List.mem_cons, List.not_mem_nil, or_false] at hv; rcases hv with rfl | rfl | rfl | rfl | rfl | rfl | rfl | rfl | rfl <;> rfl
  case c52 => rfl
  case c50 => simp [stC]
  case c51 => exact nfz0 _ _
  rintro v L' rfl
  refine G.q (Quiet.assign rfl) rfl (G.nil ?_)
  refine G.ptCast (b := b16) (l' := stC (statD τ p)) (by (repeat' constructor)) rfl ?_
  refine G.then_n (G.seq (G.seq (G.region (G.q (Quiet.move rfl) rfl (G.q (Quiet.not rfl) rfl (G.nil (G.then_n (G.condF rfl (G.skip (G.then_n (G.seq ?_)))))))))))
  obtain ⟨k, hk, hpk, hkp⟩ := place_get (l := τ.nodes) (place_iff.2 hth)
  have hlkT : alook τ.nodes p = some (τ.nodes[k]).2 := by have g2 : alook τ.nodes (τ.nodes[k]).1 = some (τ.nodes[k]).2 := al_of_mem (ho.sorted.nodup linB) (List.getElem_mem hk); rw [hkp] at g2; exact g2
  have hacT : aclD τ p = (τ.nodes[k]).2.acl := by unfold aclD; rw [hlkT]; rfl
  have hdaT : dataD τ p = (τ.nodes[k]).2.data := by unfold dataD; rw [hlkT]; rfl
  refine G.rfOpen (x := x) (τ := τ) (by (repeat' constructor)) fun am cm as2 cs2 m hm => ?_
  have hml := nds_len hm
  have hkm : k < m.length := by omega
  have hgm := nds_get hm hkm
  have haclk := ho.acls _ (List.getElem_mem hk)
  refine G.aclShape (l := m) (i := k) hkm (by (repeat' constructor)) fun hcl => ?_
  refine G.slShape (T := 131) (sz := 12) (v := .slice am m.length cm) (xs := m.flatMap rnC) (by (repeat' constructor)) (by omega) fun bm bm' e0 mbm _ => ?_
  simp only [Value.slice.injEq, true_and] at e0
  obtain ⟨rfl, rfl⟩ := e0
  refine G.draw [9, 10] [[0, 1, 2, 3, 4, 5, 6, 7, 8, 9], [10]] mixed (by kernel_rfl) ?_
  refine Phases.go [ptc x _ _, rnR _ m] (by (repeat' constructor)) ?_
  refine D.q rfl (by kernel_rfl) (Quiet.move rfl) ?_
  refine D.q rfl (by kernel_rfl) (Quiet.nilp rfl) ?_
  refine D.q rfl (by kernel_rfl) (Quiet.fieldAddr rfl fo_101_0) ?_
  refine D.q rfl (by kernel_rfl) (Quiet.load rfl ag_98 (by (repeat' constructor)) (rfl)) ?_
  refine D.q rfl (by kernel_rfl) (Quiet.move rfl) ?_
  refine D.q rfl (by kernel_rfl) (Quiet.move rfl) ?_
  refine D.m rfl (by kernel_rfl) (OpSpec.call Tryz.func69 rfl rfl (vs := [_, _]) rfl (rplace0_is x τ p m hm (by omega) hpk)) (by (repeat' constructor)) ?nx61
  refine D.q rfl (by kernel_rfl) (Quiet.indexAddr rfl rfl el_98 (by omega)) ?_
  refine D.q rfl (by kernel_rfl) (Quiet.loadRdA (sz := 12) (j := k * 12) (k := 12) (p := rnR _ m) (vs := rnC m[k]) rfl ag_131 (by (repeat' constructor)) (fun h hp => slR_rd hp) (by omega) (by omega) (by omega) (flatMap_at (f := rnC) (sz := 12) (fun _ _ => rfl) (by omega))) ?_
  refine D.h rfl (by kernel_rfl) (OpSpec.allocA ze_131) (by (repeat' constructor)) ?nx65
  rintro v L' ⟨b18, rfl, rfl⟩
  refine D.ph ?_
  refine Phases.go [] (by (repeat' constructor)) ?_
  refine D.h rfl (by kernel_rfl) (OpSpec.storeA rfl rfl ?c67 sz_131 ?c70 ?c68 ?c69) (by (repeat' constructor)) ?nx71
  case c67 => exact rn_cells hcl
  case c70 => rfl
  case c68 => simp [rnC]
  case c69 => exact nfz0 _ _
  rintro v L' rfl
  refine D.ph (Phases.fin ?_)
  refine G.ptCast (b := b18) (l' := rnC m[k]) (by (repeat' constructor)) rfl ?_
  refine G.then_n (G.seq (G.region (G.q (Quiet.move rfl) rfl (G.q (Quiet.fieldAddr rfl fo_131_2) rfl ?_))))
  refine G.q (Quiet.load rfl ag_34 (by (repeat' constructor)) (rfl)) rfl ?_
  refine G.op (OpSpec.call Tryz.func64 rfl rfl (vs := [_, _]) rfl (rrowseq_spec _ m[k].2.1 (aclD τ p) m[k].2.2.acl _ (bigR inA m) (fun h hp => slR_rd (T := 104) hp) (big_rd hkm) (by rw [hacT]; exact haclk))) (by (repeat' constructor)) rfl ?nx74
  rintro v L' ⟨rfl, rfl⟩; rw [decide_eq_true (by rw [hacT, hgm])]
  refine G.q (Quiet.assign rfl) rfl (G.nil ?_)
  refine G.rfFold (x := x) (τ := τ) (l := m) hm (by (repeat' constructor)) rfl rfl rfl rfl rfl ?_
  refine G.then_n (G.seq (G.region (G.q (Quiet.move rfl) rfl (G.q (Quiet.move rfl) rfl (G.q (Quiet.move rfl) rfl ?_)))))
  refine G.op (OpSpec.call Tryz.func65 rfl rfl (vs := [_, _]) rfl (rkids_spec x τ p N ho hN)) (by (repeat' constructor)) rfl ?nx78
  rintro v L' ⟨⟨a13, c13, rfl⟩, rfl⟩
  refine G.op (OpSpec.call Tryz.func17 rfl rfl (vs := [_, _]) rfl (texts7_spec (kidsZ τ p) (kidsZ τ p) _ _ (by omega))) (by (repeat' constructor)) rfl ?nx80
  rintro v L' ⟨rfl, rfl⟩; rw [decide_eq_true rfl]
  refine G.q (Quiet.assign rfl) rfl (G.nil (G.then_n (G.seq (G.seq (G.region (G.q (Quiet.assign rfl) rfl (G.nil (G.then_n (G.block ?_)))))))))
  have hall : (aclD τ p).length ≤ 1048576 := by rw [hacT]; exact haclk
  refine G.loopK (ι := Nat × (List Value)) (fun q E => (21, vint q.1) :: E) (fun q => [slR 104 2 (.slice aa (aclD τ p).length ca) (aclD τ p).length q.2]) (fun q => q.1 ≤ (aclD τ p).length ∧ q.2.length = (aclD τ p).length * 2 ∧ ∀ y ∈ q.2, isCell y = true) (fun q => (aclD τ p).length - q.1) (0, (aclD τ p).flatMap acC) (ts := [6, 7, 8, 9, 10, 11, 12, 13, 14, 15, 16, 18, 19, 20]) (.cons rfl (.cons rfl (.cons rfl (.cons rfl (.cons rfl (.cons rfl (.cons rfl (.cons rfl (.cons rfl (.cons rfl (.cons rfl (.cons rfl (.cons rfl (.cons rfl (.nil))))))))))))))) (⟨Nat.zero_le _, flatMap_len (fun _ _ => rfl), acC_cells _⟩) ⟨rfl, rfl, rfl, rfl, rfl, rfl, rfl, rfl, rfl, rfl, rfl, rfl, rfl, rfl, rfl, trivial⟩ (by (repeat' constructor)) ?_
  rintro ⟨j, ys⟩ ⟨hj, hyl, hyc⟩
  dsimp only
  dsimp only at hj hyl hyc
  refine G.seq (G.seq (G.region (G.q (Quiet.move rfl) rfl (G.q (Quiet.move rfl) rfl (G.q (Quiet.slen rfl Tryz.underlying34 rfl) rfl (G.q (Quiet.int rfl rfl rfl) rfl (G.nil (G.then_n ?_))))))))
  refine G.condD rfl (fun h117 => ?_) (fun h117 => ?_)
  ·have hj2 : j < (aclD τ p).length := by omega
   refine G.slShape (T := 104) (sz := 2) (v := .slice aa (aclD τ p).length ca) (xs := ys) (by (repeat' constructor)) (by omega) fun ba ba' e0 mba _ => ?_
   simp only [Value.slice.injEq, true_and] at e0
   obtain ⟨rfl, rfl⟩ := e0
   refine G.skip (G.then_n (G.seq (G.block (G.region (G.q (Quiet.move rfl) rfl (G.q (Quiet.move rfl) rfl ?_))))))
   refine G.q (Quiet.to (v' := .agg (acC (-1, [])).toArray) (Quiet.build (us := [(0, _)]) fl_104 ze_104 rfl rfl (by simp [isCell])) rfl) rfl ?_
   refine G.q (Quiet.indexAddr rfl rfl el_34 (by omega)) rfl ?_
   refine G.op (OpSpec.storeRdA (sz := 2) (j := j * 2) (k := 2) (vs := [vint (-1), vstr []]) rfl rfl (by simp [isCell]) sz_104 rfl ?ho91 ?hi92) (by (repeat' constructor)) rfl ?nx93
   case ho91 => omega
   case hi92 => omega
   rintro v L' rfl
   refine G.nil (G.blk_n (G.then_n (G.region (G.q (Quiet.move rfl) rfl ?_))))
   refine G.q (Quiet.add rfl rfl (by omega)) rfl ?_
   refine G.q (Quiet.assign rfl) rfl (G.nil (G.then_n ?_))
   exact G.roundK ((j + 1, spl ys (j * 2) [vint (-1), vstr []])) (⟨by dsimp only; omega, by dsimp only; rw [spl_length (by simp; omega)]; exact hyl, spl_cells hyc (by simp [isCell])⟩) (by dsimp only; omega) ⟨rfl, rfl, rfl, rfl, rfl, rfl, rfl, rfl, rfl, rfl, rfl, rfl, rfl, rfl, rfl, trivial⟩ (by (repeat' constructor)) (by ((repeat (apply Have.cons; (repeat (first | exact Pick.here | apply Pick.there)))); apply Have.base; repeat' constructor))
  ·refine G.exit (G.then_e (G.then_e (G.blk_e (G.then_n (G.seq (G.seq (G.region (G.q (Quiet.assign rfl) rfl (G.nil (G.then_n (G.block ?_)))))))))))
   refine G.loopK (ι := Nat × (List Value)) (fun q E => (22, vint q.1) :: E) (fun q => [slR 9 1 (.slice ak (kidsZ τ p).length ck) (kidsZ τ p).length q.2]) (fun q => q.1 ≤ (kidsZ τ p).length) (fun q => (kidsZ τ p).length - q.1) (0, strs (kidsZ τ p)) (ts := [6, 7, 8, 9, 10, 11, 12, 13, 14, 15, 16, 18, 19, 20]) (.cons rfl (.cons rfl (.cons rfl (.cons rfl (.cons rfl (.cons rfl (.cons rfl (.cons rfl (.cons rfl (.cons rfl (.cons rfl (.cons rfl (.cons rfl (.cons rfl (.nil))))))))))))))) (Nat.zero_le _) ⟨rfl, rfl, rfl, rfl, rfl, rfl, rfl, rfl, rfl, rfl, rfl, rfl, rfl, rfl, rfl, trivial⟩ (by (repeat' constructor)) ?_
   rintro ⟨j, zs⟩ hj
   dsimp only
   dsimp only at hj
   refine G.seq (G.seq (G.region (G.q (Quiet.move rfl) rfl (G.q (Quiet.move rfl) rfl (G.q (Quiet.slen rfl Tryz.underlying40 rfl) rfl (G.q (Quiet.int rfl rfl rfl) rfl (G.nil (G.then_n ?_))))))))
   refine G.condD rfl (fun h127 => ?_) (fun h127 => ?_)
   ·have hj2 : j < (kidsZ τ p).length := by omega
    refine G.slShape (T := 9) (sz := 1) (v := .slice ak (kidsZ τ p).length ck) (xs := zs) (by (repeat' constructor)) (by omega) fun bk bk' e0 mbk _ => ?_
    simp only [Value.slice.injEq, true_and] at e0
    obtain ⟨rfl, rfl⟩ := e0
    refine G.skip (G.then_n (G.seq (G.block (G.region (G.q (Quiet.move rfl) rfl (G.q (Quiet.move rfl) rfl ?_))))))
    refine G.q (Quiet.indexAddr rfl rfl el_40 (by omega)) rfl ?_
    refine G.op (OpSpec.storeRd (sz := 1) (j := j * 1) rfl rfl rfl sz_9 ?ho104 ?hi105) (by (repeat' constructor)) rfl ?nx106
    case ho104 => omega
    case hi105 => omega
    rintro v L' rfl
    refine G.nil (G.blk_n (G.then_n (G.region (G.q (Quiet.move rfl) rfl ?_))))
    refine G.q (Quiet.add rfl rfl (by omega)) rfl ?_
    refine G.q (Quiet.assign rfl) rfl (G.nil (G.then_n ?_))
    exact G.roundK ((j + 1, zs.set (j * 1) (vstr [111, 118, 101, 114]))) (by dsimp only; omega) (by dsimp only; omega) ⟨rfl, rfl, rfl, rfl, rfl, rfl, rfl, rfl, rfl, rfl, rfl, rfl, rfl, rfl, rfl, trivial⟩ (by (repeat' constructor)) (by ((repeat (apply Have.cons; (repeat (first | exact Pick.here | apply Pick.there)))); apply Have.base; repeat' constructor))
   ·refine G.exit (G.then_e (G.then_e (G.blk_e (G.then_n (G.seq (G.region (G.q (Quiet.move rfl) rfl ?_)))))))
    refine G.q (Quiet.to (v' := .agg (acC (-2, [])).toArray) (Quiet.build (us := [(0, _)]) fl_104 ze_104 rfl rfl (by simp [isCell])) rfl) rfl ?_
    refine G.op (OpSpec.buildSlice (vs := [_]) el_34 ze_104 rfl rfl rfl rfl (by first | (simp [Value.cells]; done) | (intro v hv; simp only [List.mem_cons, List.not_mem_nil, or_false] at hv; (repeat (first | (subst hv; rfl) | (rcases hv with hv | hv; (subst hv; rfl)))))) (by decide)) (by (repeat' constructor)) rfl ?nx111
    rintro v L' ⟨b19, rfl, rfl⟩
    refine G.op (OpSpec.append1 rfl rfl rfl el_34 ze_104 rfl rfl ?c113 ?c114 (Nat.le_refl _) ?c115 (by decide)) (by (repeat' constructor)) rfl ?nx116
    case c113 => simp only [List.map_cons, List.map_nil, List.flatten_cons, List.flatten_nil, List.append_nil]; simp [Value.cells, acC, isCell]
    case c114 => rfl
    case c115 => first | omega | (simp; omega)
    rintro v L' ⟨⟨a19_4, c19_4, rfl⟩, rfl⟩
    refine G.q (Quiet.assign rfl) rfl (G.nil (G.then_n (G.seq ?_)))
    refine G.slShape (T := 104) (sz := 2) (v := .slice a19_4 ((aclD τ p).length + 1) c19_4) (by (repeat' constructor)) (by omega) fun b20 b20' e0 mb20 hyl2 => ?_
    simp only [Value.slice.injEq, true_and] at e0
    obtain ⟨rfl, rfl⟩ := e0
    refine G.region (G.q (Quiet.move rfl) rfl (G.q (Quiet.move rfl) rfl (G.grun (t := 138) rfl rfl rfl (G.q (Quiet.move rfl) rfl (G.q (Quiet.pickT rfl rfl) rfl (G.q (Quiet.move rfl) rfl (G.grun (t := 141) rfl rfl rfl (G.q (Quiet.move rfl) rfl (G.grun (t := 141) rfl rfl rfl (G.q (Quiet.fieldAddr rfl fo_131_1) rfl (G.grun (t := 141) rfl rfl rfl ?_)))))))))))
    refine G.q (Quiet.to (v' := vstr (dataD τ p)) (Quiet.load rfl ag_9 (by (repeat' constructor)) rfl) (by rw [hdaT, hgm])) rfl ?_
    refine G.grun (t := 141) rfl rfl rfl ?_
    refine G.q (Quiet.as (v' := .bool true) (by simp) (Quiet.streq rfl rfl)) rfl ?_
    refine G.q (Quiet.pickT rfl rfl) rfl (G.q (Quiet.move rfl) rfl (G.grun (t := 147) rfl rfl rfl ?_))
    refine G.q (Quiet.loadAs (vs := stC (statD τ p)) rfl ag_43 (by (repeat' constructor)) (by simp [stC]) rfl) rfl ?_
    refine G.grun (t := 147) rfl rfl rfl ?_
    refine G.q (Quiet.loadAs (vs := stC (statD τ p)) rfl ag_43 (by (repeat' constructor)) (by simp [stC]) rfl) rfl ?_
    refine G.grun (t := 147) rfl rfl rfl ?_
    refine G.q (Quiet.as (v' := .bool true) (by simp) (Quiet.structEq (r := decide (statD τ p = statD τ p)) rfl rfl (by kernel_rfl) (st_eq 9998 _ _))) rfl ?_
    refine G.q (Quiet.pickT rfl rfl) rfl (G.q (Quiet.move rfl) rfl (G.grun (t := 152) rfl rfl rfl ?_))
    refine G.q (Quiet.loadAs (vs := stC (statD τ p)) rfl ag_43 (by (repeat' constructor)) (by simp [stC]) rfl) rfl ?_
    refine G.grun (t := 152) rfl rfl rfl ?_
    refine G.q (Quiet.loadAs (vs := stC (statD τ p)) rfl ag_43 (by (repeat' constructor)) (by simp [stC]) rfl) rfl ?_
    refine G.grun (t := 152) rfl rfl rfl ?_
    refine G.q (Quiet.as (v' := .bool true) (by simp) (Quiet.structEq (r := decide (statD τ p = statD τ p)) rfl rfl (by kernel_rfl) (st_eq 9998 _ _))) rfl ?_
    refine G.q (Quiet.pickT rfl rfl) rfl (G.q (Quiet.move rfl) rfl (G.grun (t := 157) rfl rfl rfl (G.q (Quiet.move rfl) rfl (G.q (Quiet.pickT rfl rfl) rfl (G.q (Quiet.move rfl) rfl (G.grun (t := 160) rfl rfl rfl (G.q (Quiet.move rfl) rfl (G.grun (t := 160) rfl rfl rfl ?_))))))))
    refine G.q (Quiet.as (v' := .bool true) (by rfl) (Quiet.int rfl rfl rfl)) rfl ?_
    refine G.q (Quiet.pickT rfl rfl) rfl (G.q (Quiet.move rfl) rfl (G.grun (t := 164) rfl rfl rfl (G.q (Quiet.move rfl) rfl (G.grun (t := 164) rfl rfl rfl ?_))))
    refine G.q (Quiet.as (v' := .bool true) (by rfl) (Quiet.int rfl rfl rfl)) rfl ?_
    refine G.q (Quiet.pickT rfl rfl) rfl (G.q (Quiet.move rfl) rfl (G.grun (t := 168) rfl rfl rfl (G.q (Quiet.move rfl) rfl (G.grun (t := 168) rfl rfl rfl ?_))))
    refine G.q (Quiet.as (v' := .bool true) (by rfl) (Quiet.int rfl rfl rfl)) rfl ?_
    refine G.q (Quiet.pickT rfl rfl) rfl (G.q (Quiet.move rfl) rfl (G.grun (t := 172) rfl rfl rfl (G.q (Quiet.move rfl) rfl (G.grun (t := 172) rfl rfl rfl (G.q (Quiet.move rfl) rfl (G.grun (t := 172) rfl rfl rfl (G.q (Quiet.slen rfl Tryz.underlying34 rfl) rfl (G.grun (t := 172) rfl rfl rfl ?_))))))))
    refine G.q (Quiet.as (v' := vint ((aclD τ p).length : Int)) (by simp) (Quiet.sub rfl rfl (by omega))) rfl ?_
    refine G.grun (t := 172) rfl rfl rfl ?_
    refine G.q (Quiet.indexAddr rfl rfl el_34 (by omega)) rfl ?_
    refine G.grun (t := 172) rfl rfl rfl (G.q (Quiet.fieldAddr rfl fo_104_0) rfl (G.grun (t := 172) rfl rfl rfl ?_))
    refine G.q (Quiet.loadRd (sz := 2) (j := (aclD τ p).length * 2 + 0) (p := slR 104 2 _ ((aclD τ p).length + 1) _) (v := vint (-2)) rfl ag_3 (by (repeat' constructor)) (fun h hp => slR_rd hp) (by omega) (by rw [← hyl, Nat.add_zero, List.getElem?_append_right (Nat.le_refl _), Nat.sub_self]; rfl)) rfl ?_
    refine G.grun (t := 172) rfl rfl rfl ?_
    refine G.q (Quiet.as (v' := .bool true) (by rfl) (Quiet.int rfl rfl rfl)) rfl ?_
    refine G.q (Quiet.pickT rfl rfl) rfl (G.q (Quiet.assign rfl) rfl (G.nil (G.then_n (G.ret ?_))))
    exact G.done (l := [.tmp 6]) rfl rfl ⟨rfl, rfl⟩ (by (repeat' constructor)) (by (repeat' constructor))
 ·have hac0 := (acl_none hth).1
  have hda0 := (acl_none hth).2
  refine G.q (Quiet.move rfl) rfl (G.q (Quiet.move rfl) rfl ?_)
  refine G.op (OpSpec.call Tryz.func41 rfl rfl (vs := [_, _]) rfl (trget_spec t τ p N ho (by omega))) (by (repeat' constructor)) rfl ?nx145
  rintro v L' ⟨rfl, rfl⟩; rw [if_neg hth]
  refine G.q (Quiet.move rfl) rfl (G.q (Quiet.extract rfl rfl) rfl (G.q (Quiet.extract rfl rfl) rfl (G.q (Quiet.extract rfl rfl) rfl ?_)))
  refine G.op (OpSpec.allocA ze_43) (by (repeat' constructor)) rfl ?nx150
  rintro v L' ⟨b8, rfl, rfl⟩
  refine G.q (Quiet.assign rfl) rfl ?_
  refine G.op (OpSpec.storeA rfl rfl ?c152 sz_43 ?c155 ?c153 ?c154) (by (repeat' constructor)) rfl ?nx156
  case c152 => intro v hv; simp only [stC, List.mem_cons, List.not_mem_nil, or_false] at hv; rcases hv with rfl | rfl | rfl | rfl | rfl | rfl | rfl | rfl | rfl <;> rfl
  case c155 => rfl
  case c153 => simp [stC]
  case c154 => exact nfz0 _ _
  rintro v L' rfl
  refine G.q (Quiet.assign rfl) rfl (G.nil ?_)
  refine G.ptCast (b := b8) (l' := stC (statD τ p)) (by (repeat' constructor)) rfl ?_
  refine G.then_n (G.seq (G.region (G.q (Quiet.move rfl) rfl (G.q (Quiet.move rfl) rfl ?_))))
  refine G.op (OpSpec.call Tryz.func16 rfl rfl (vs := [_, _]) rfl (trstat_spec t τ p N ho (by omega))) (by (repeat' constructor)) rfl ?nx159
  rintro v L' ⟨rfl, rfl⟩; rw [decide_eq_false hth]
  refine G.q (Quiet.move rfl) rfl (G.q (Quiet.extract rfl rfl) rfl (G.q (Quiet.extract rfl rfl) rfl ?_))
  refine G.op (OpSpec.allocA ze_43) (by (repeat' constructor)) rfl ?nx163
  rintro v L' ⟨b10, rfl, rfl⟩
  refine G.op (OpSpec.storeA rfl rfl ?c165 sz_43 ?c168 ?c166 ?c167) (by (repeat' constructor)) rfl ?nx169
  case c165 => intro v hv; simp only [stC, List.mem_cons, List.not_mem_nil, or_false] at hv; rcases hv with rfl | rfl | rfl | rfl | rfl | rfl | rfl | rfl | rfl <;> rfl
  case c168 => rfl
  case c166 => simp [stC]
  case c167 => exact nfz0 _ _
  rintro v L' rfl
  refine G.q (Quiet.assign rfl) rfl (G.nil ?_)
  refine G.ptCast (b := b10) (l' := stC (statD τ p)) (by (repeat' constructor)) rfl ?_
  refine G.then_n (G.seq (G.region (G.q (Quiet.move rfl) rfl (G.q (Quiet.move rfl) rfl ?_))))
  refine G.op (OpSpec.call Tryz.func63 rfl rfl (vs := [_, _]) rfl (tracl_spec t τ p N ho)) (by (repeat' constructor)) rfl ?nx172
  rintro v L' ⟨ua, rfl, ⟨aa, ca, rfl⟩, rfl⟩; rw [if_neg hth]; rw [hac0]
  refine G.q (Quiet.move rfl) rfl (G.q (Quiet.extract rfl rfl) rfl (G.q (Quiet.extract rfl rfl) rfl (G.q (Quiet.assign rfl) rfl (G.q (Quiet.assign rfl) rfl (G.nil (G.then_n (G.seq (G.region (G.q (Quiet.move rfl) rfl (G.q (Quiet.move rfl) rfl ?_))))))))))
  refine G.op (OpSpec.call Tryz.func50 rfl rfl (vs := [_, _]) rfl (trkids_spec t τ p N ho (by omega))) (by (repeat' constructor)) rfl ?nx178
  rintro v L' ⟨uk, lk, rfl, -, hlk, ⟨ak, ck, rfl⟩, rfl⟩; rw [if_neg hth] at hlk; subst hlk; rw [if_neg hth]
  refine G.q (Quiet.move rfl) rfl (G.q (Quiet.extract rfl rfl) rfl (G.q (Quiet.extract rfl rfl) rfl (G.q (Quiet.assign rfl) rfl (G.q (Quiet.assign rfl) rfl (G.nil (G.then_n (G.seq (G.region (G.q (Quiet.move rfl) rfl (G.q (Quiet.move rfl) rfl ?_))))))))))
  refine G.op (OpSpec.call Tryz.func62 rfl rfl (vs := [_, _]) rfl (rstat_spec x τ p N ho hN)) (by (repeat' constructor)) rfl ?nx184
  rintro v L' ⟨rfl, rfl⟩; rw [decide_eq_false hth]
  refine G.q (Quiet.move rfl) rfl (G.q (Quiet.extract rfl rfl) rfl (G.q (Quiet.extract rfl rfl) rfl ?_))
  refine G.op (OpSpec.allocA ze_43) (by (repeat' constructor)) rfl ?nx188
  rintro v L' ⟨b16, rfl, rfl⟩
  refine G.op (OpSpec.storeA rfl rfl ?c190 sz_43 ?c193 ?c191 ?c192) (by (repeat' constructor)) rfl ?nx194
  case c190 => intro v hv; simp only [stC, List.mem_cons, List.not_mem_nil, or_false] at hv; rcases hv with rfl | rfl | rfl | rfl | rfl | rfl | rfl | rfl | rfl <;> rfl
  case c193 => rfl
  case c191 => simp [stC]
  case c192 => exact nfz0 _ _
  rintro v L' rfl
  refine G.q (Quiet.assign rfl) rfl (G.nil ?_)
  refine G.ptCast (b := b16) (l' := stC (statD τ p)) (by (repeat' constructor)) rfl ?_
  refine G.then_n (G.seq (G.seq (G.region (G.q (Quiet.move rfl) rfl (G.q (Quiet.not rfl) rfl (G.nil (G.then_n (G.condT rfl (G.seq (G.region (G.q (Quiet.move rfl) rfl ?_)))))))))))
  refine G.q (Quiet.as (v' := .bool true) (by simp [hda0]) (Quiet.streq rfl rfl)) rfl ?_
  refine G.q (Quiet.move rfl) rfl (G.grun (t := 58) rfl rfl rfl ?_)
  refine G.q (Quiet.loadAs (vs := stC (statD τ p)) rfl ag_43 (by (repeat' constructor)) (by simp [stC]) rfl) rfl ?_
  refine G.grun (t := 58) rfl rfl rfl ?_
  refine G.q (Quiet.to (v' := .agg (stC st0).toArray) (Quiet.build (us := []) fl_43 ze_43 rfl rfl (by simp [isCell])) rfl) rfl ?_
  refine G.grun (t := 58) rfl rfl rfl ?_
  refine G.q (Quiet.as (v' := .bool true) (by rw [stat_none hth]; simp) (Quiet.structEq (r := decide (statD τ p = st0)) rfl rfl (by kernel_rfl) (st_eq 9998 _ _))) rfl ?_
  refine G.q (Quiet.pickT rfl rfl) rfl (G.q (Quiet.move rfl) rfl (G.grun (t := 63) rfl rfl rfl ?_))
  refine G.q (Quiet.loadAs (vs := stC (statD τ p)) rfl ag_43 (by (repeat' constructor)) (by simp [stC]) rfl) rfl ?_
  refine G.grun (t := 63) rfl rfl rfl ?_
  refine G.q (Quiet.to (v' := .agg (stC st0).toArray) (Quiet.build (us := []) fl_43 ze_43 rfl rfl (by simp [isCell])) rfl) rfl ?_
  refine G.grun (t := 63) rfl rfl rfl ?_
  refine G.q (Quiet.as (v' := .bool true) (by rw [stat_none hth]; simp) (Quiet.structEq (r := decide (statD τ p = st0)) rfl rfl (by kernel_rfl) (st_eq 9998 _ _))) rfl ?_
  refine G.q (Quiet.pickT rfl rfl) rfl (G.q (Quiet.move rfl) rfl (G.grun (t := 68) rfl rfl rfl (G.q (Quiet.move rfl) rfl (G.grun (t := 68) rfl rfl rfl (G.q (Quiet.not rfl) rfl (G.q (Quiet.pickT rfl rfl) rfl (G.q (Quiet.move rfl) rfl (G.grun (t := 72) rfl rfl rfl (G.q (Quiet.move rfl) rfl (G.grun (t := 72) rfl rfl rfl (G.q (Quiet.slen rfl Tryz.underlying34 rfl) rfl (G.grun (t := 72) rfl rfl rfl ?_))))))))))))
  refine G.q (Quiet.as (v' := .bool true) (by rfl) (Quiet.int rfl rfl rfl)) rfl ?_
  refine G.q (Quiet.pickT rfl rfl) rfl (G.q (Quiet.move rfl) rfl (G.grun (t := 77) rfl rfl rfl (G.q (Quiet.move rfl) rfl (G.grun (t := 77) rfl rfl rfl (G.q (Quiet.slen rfl Tryz.underlying40 rfl) rfl (G.grun (t := 77) rfl rfl rfl ?_))))))
  refine G.q (Quiet.as (v' := .bool true) (by rfl) (Quiet.int rfl rfl rfl)) rfl ?_
  refine G.q (Quiet.pickT rfl rfl) rfl (G.q (Quiet.move rfl) rfl (G.grun (t := 82) rfl rfl rfl (G.q (Quiet.move rfl) rfl (G.grun (t := 82) rfl rfl rfl ?_))))
  refine G.q (Quiet.as (v' := .bool true) (by rfl) (Quiet.int rfl rfl rfl)) rfl ?_
  refine G.q (Quiet.pickT rfl rfl) rfl (G.q (Quiet.move rfl) rfl (G.grun (t := 86) rfl rfl rfl (G.q (Quiet.move rfl) rfl (G.grun (t := 86) rfl rfl rfl (G.q (Quiet.move rfl) rfl (G.grun (t := 86) rfl rfl rfl ?_))))))
  refine G.q (Quiet.as (v' := .bool true) (by rfl) (Quiet.int rfl rfl rfl)) rfl ?_
  refine G.q (Quiet.pickT rfl rfl) rfl (G.q (Quiet.move rfl) rfl (G.grun (t := 91) rfl rfl rfl (G.q (Quiet.move rfl) rfl (G.grun (t := 91) rfl rfl rfl (G.q (Quiet.move rfl) rfl (G.grun (t := 91) rfl rfl rfl ?_))))))
  refine G.q (Quiet.as (v' := .bool true) (by rfl) (Quiet.int rfl rfl rfl)) rfl ?_
  refine G.q (Quiet.pickT rfl rfl) rfl (G.q (Quiet.assign rfl) rfl (G.nil (G.then_n (G.ret (G.then_r ?_)))))
  exact G.done (l := [.tmp 6]) rfl rfl ⟨rfl, rfl⟩ (by (repeat' constructor)) (by (repeat' constructor))

end Go.Proofs.YtnnbelmpbmfdnaaGreatDoor

/- Own work, by program: law 07: clones: walked. -/

namespace Go.Proofs.YtnnbelmpbmfdnaaGreatDoor
open Go
set_option maxRecDepth 100000 in
theorem tapart7_spec (va vb : Value) (a b : List En) (q : Bs) (p : HP) (ha : EntsA p va a) (hb : EntsA p vb b) : Fn Tryz.prog 7 #[va, vb, vstr q] [p] fun r L => r = .bool true ∧ L = [p] := by
 refine Fn.intro (vs := [va, vb, vstr q]) Tryz.func7 rfl rfl ?_
 intro F W
 refine G.rdAny (p := p) ha.cells (by (repeat' constructor)) fun aa ca e0 _ => ?_
 subst e0
 refine G.rdAny (p := p) hb.cells (by (repeat' constructor)) fun ab cb e0 _ => ?_
 subst e0
 have hla := ha.len
 have hlb := hb.len
 obtain ⟨τ, hτ⟩ : ∃ τ, τ = appL newT a := ⟨_, rfl⟩
 have hok : τ.Ok (1 + 2097152) := by have h := ha.ok newT_ok a.length; rw [List.take_length, ← hτ] at h; exact h
 have hsb : SesB τ := by rw [hτ]; exact ents_sesB (fun y hy => by cases hy) ha.own
 have hokb : (appL τ b).Ok (1 + 2097152 + 2097152) := by have h := hb.ok hok b.length; rw [List.take_length] at h; exact h
 refine G.seq (G.region (G.q (Quiet.assign rfl) rfl (G.nil (G.then_n (G.seq (G.region ?_))))))
 refine G.op (OpSpec.call Tryz.func11 rfl rfl (vs := []) rfl (awake7_spec)) (by (repeat' constructor)) rfl ?nx2
 rintro v L' ⟨rfl, rfl⟩
 refine G.q (Quiet.assign rfl) rfl (G.nil (G.then_n (G.seq (G.region ?_))))
 refine G.op (OpSpec.call Tryz.func13 rfl rfl (vs := []) rfl (trnew_spec)) (by (repeat' constructor)) rfl ?nx4
 rintro v L' ⟨t, rfl, rfl⟩
 refine G.q (Quiet.assign rfl) rfl (G.nil (G.then_n (G.seq (G.region ?_))))
 refine G.op (OpSpec.call Tryz.func25 rfl rfl (vs := []) rfl (rfnew_spec)) (by (repeat' constructor)) rfl ?nx6
 rintro v L' ⟨x, rfl, rfl⟩
 refine G.q (Quiet.assign rfl) rfl (G.nil (G.then_n (G.seq (G.seq (G.region (G.q (Quiet.move rfl) rfl (G.q (Quiet.not rfl) rfl (G.q (Quiet.move rfl) rfl (G.grun (t := 23) rfl rfl rfl (G.q (Quiet.move rfl) rfl (G.grun (t := 23) rfl rfl rfl ?_)))))))))))
 refine G.q (Quiet.as (v' := .bool false) (by rfl) (Quiet.ptreq rfl rfl Tryz.underlying28)) rfl ?_
 refine G.q (Quiet.pickF rfl rfl) rfl (G.nil (G.then_n (G.condF rfl (G.skip (G.then_n (G.seq (G.seq (G.region (G.q (Quiet.assign rfl) rfl (G.nil (G.then_n (G.block ?_))))))))))))
 refine G.trCast (t := t) (τ' := (appL newT (a.take 0))) (by (repeat' constructor)) (by rw [List.take_zero]; rfl) ?_
 refine G.rfCast (x := x) (τ' := (appL newT (a.take 0))) (by (repeat' constructor)) (by rw [List.take_zero]; rfl) ?_
 refine G.loopK (ι := Nat) (fun q E => (10, vint q) :: E) (fun q => [treeR t (appL newT (a.take q)), refR x (appL newT (a.take q))]) (fun q => q ≤ a.length) (fun q => a.length - q) (0) (ts := [0, 1, 2, 6, 8, 9]) (.cons rfl (.cons rfl (.cons rfl (.cons rfl (.cons rfl (.cons rfl (.nil))))))) (Nat.zero_le _) ⟨rfl, rfl, rfl, rfl, rfl, rfl, rfl, trivial⟩ (by (repeat' constructor)) ?_
 rintro i hi
 refine G.seq (G.seq (G.region (G.q (Quiet.move rfl) rfl (G.q (Quiet.move rfl) rfl (G.q (Quiet.slen rfl Tryz.underlying24 rfl) rfl (G.q (Quiet.int rfl rfl rfl) rfl (G.nil (G.then_n ?_))))))))
 refine G.condD rfl (fun h30 => ?_) (fun h30 => ?_)
 ·have hi2 : i < a.length := by omega
  refine G.rdShape (p := p) ha.cells (by (repeat' constructor)) (by omega) fun ba oa e1 => ?_
  subst e1
  have hfs := ha.few hi2
  refine G.skip (G.then_n (G.seq (G.block (G.seq (G.region (G.q (Quiet.move rfl) rfl (G.q (Quiet.move rfl) rfl (G.q (Quiet.move rfl) rfl ?_))))))))
  refine G.q (Quiet.indexAddr rfl rfl el_24 (by omega)) rfl ?_
  refine G.q (Quiet.loadRdA (sz := 11) (j := i * 11) (k := 11) (p := p) (vs := enC a[i]) rfl ag_39 (by (repeat' constructor)) ha.cells (by simp) (by omega) (by omega) (flatMap_at (f := enC) (sz := 11) (fun _ _ => rfl) (by omega))) rfl ?_
  refine G.op (OpSpec.call Tryz.func14 rfl rfl (vs := [_, _]) rfl (trapply_spec t (appL newT (a.take i)) a[i].zx a[i].ses a[i].xid a[i].x a[i].subs p (ha.tx _ (List.getElem_mem hi2)) _ (ha.ok newT_ok i) (by omega))) (by (repeat' constructor)) rfl ?nx20
  rintro v L' ⟨ue, ee, rfl, he, hue, rfl⟩
  refine G.nil (G.then_n (G.region (G.q (Quiet.move rfl) rfl (G.q (Quiet.move rfl) rfl (G.q (Quiet.move rfl) rfl ?_)))))
  refine G.q (Quiet.indexAddr rfl rfl el_24 (by omega)) rfl ?_
  refine G.q (Quiet.loadRdA (sz := 11) (j := i * 11) (k := 11) (p := p) (vs := enC a[i]) rfl ag_39 (by (repeat' constructor)) ha.cells (by simp) (by omega) (by omega) (flatMap_at (f := enC) (sz := 11) (fun _ _ => rfl) (by omega))) rfl ?_
  refine G.op (OpSpec.call Tryz.func26 rfl rfl (vs := [_, _]) rfl (rapply_spec x (appL newT (a.take i)) a[i].zx a[i].ses a[i].xid a[i].x a[i].subs p (ha.tx _ (List.getElem_mem hi2)) _ (ha.ok newT_ok i) (by omega))) (by (repeat' constructor)) rfl ?nx27
  rintro v L' ⟨ue, ee, rfl, he, hue, rfl⟩
  refine G.nil (G.blk_n (G.then_n (G.region (G.q (Quiet.move rfl) rfl ?_))))
  refine G.q (Quiet.add rfl rfl (by omega)) rfl ?_
  refine G.q (Quiet.assign rfl) rfl (G.nil (G.then_n ?_))
  refine G.trCast (t := t) (τ' := (appL newT (a.take (i + 1)))) (by (repeat' constructor)) (by rw [appL_step _ hi2]; rfl) ?_
  refine G.rfCast (x := x) (τ' := (appL newT (a.take (i + 1)))) (by (repeat' constructor)) (by rw [appL_step _ hi2]; rfl) ?_
  exact G.roundK (i + 1) (by omega) (by omega) ⟨rfl, rfl, rfl, rfl, rfl, rfl, rfl, trivial⟩ (by (repeat' constructor)) (by ((repeat (apply Have.cons; (repeat (first | exact Pick.here | apply Pick.there)))); apply Have.base; repeat' constructor))
 ·have hii : i = a.length := by omega
  rw [hii, List.take_length]
  rw [← hτ]
  refine G.exit (G.then_e (G.then_e (G.blk_e (G.then_n (G.seq (G.region (G.q (Quiet.move rfl) rfl ?_)))))))
  refine G.op (OpSpec.call Tryz.func24 rfl rfl (vs := [_]) rfl (trclone_spec t τ _ hok (by omega))) (by (repeat' constructor)) rfl ?nx32
  rintro v L' ⟨c, rfl, rfl⟩
  refine G.q (Quiet.assign rfl) rfl (G.nil (G.then_n (G.seq (G.seq (G.region (G.q (Quiet.move rfl) rfl ?_))))))
  refine G.q (Quiet.as (v' := .bool false) (by rfl) (Quiet.ptreq rfl rfl Tryz.underlying28)) rfl ?_
  refine G.q (Quiet.move rfl) rfl (G.grun (t := 49) rfl rfl rfl (G.q (Quiet.move rfl) rfl (G.grun (t := 49) rfl rfl rfl (G.q (Quiet.move rfl) rfl (G.grun (t := 49) rfl rfl rfl ?_)))))
  refine G.op (OpSpec.call Tryz.func23 rfl rfl (vs := [_, _]) rfl (trsame_spec c t τ τ _ _ hok hok)) (by (repeat' constructor)) rfl ?nx36
  rintro v L' ⟨rfl, rfl⟩; rw [decide_eq_true rfl]
  refine G.grun (t := 49) rfl rfl rfl (G.q (Quiet.not rfl) rfl (G.q (Quiet.pickF rfl rfl) rfl (G.q (Quiet.move rfl) rfl (G.grun (t := 55) rfl rfl rfl (G.q (Quiet.move rfl) rfl (G.grun (t := 55) rfl rfl rfl (G.q (Quiet.move rfl) rfl (G.grun (t := 55) rfl rfl rfl ?_))))))))
  refine G.op (OpSpec.call Tryz.func23 rfl rfl (vs := [_, _]) rfl (trsame_spec t c τ τ _ _ hok hok)) (by (repeat' constructor)) rfl ?nx40
  rintro v L' ⟨rfl, rfl⟩; rw [decide_eq_true rfl]
  refine G.grun (t := 55) rfl rfl rfl (G.q (Quiet.not rfl) rfl (G.q (Quiet.pickF rfl rfl) rfl (G.nil (G.then_n (G.condF rfl (G.skip (G.then_n (G.seq (G.seq (G.region (G.q (Quiet.assign rfl) rfl (G.nil (G.then_n (G.block ?_))))))))))))))
  refine G.trCast (t := c) (τ' := (appL τ (b.take 0))) (by (repeat' constructor)) (by rw [List.take_zero]; rfl) ?_
  refine G.loopK (ι := Nat) (fun q E => (12, vint q) :: E) (fun q => [treeR c (appL τ (b.take q))]) (fun q => q ≤ b.length) (fun q => b.length - q) (0) (ts := [1, 2, 6, 8, 9, 11]) (.cons rfl (.cons rfl (.cons rfl (.cons rfl (.cons rfl (.cons rfl (.nil))))))) (Nat.zero_le _) ⟨rfl, rfl, rfl, rfl, rfl, rfl, rfl, trivial⟩ (by (repeat' constructor)) ?_
  rintro i hi
  refine G.seq (G.seq (G.region (G.q (Quiet.move rfl) rfl (G.q (Quiet.move rfl) rfl (G.q (Quiet.slen rfl Tryz.underlying24 rfl) rfl (G.q (Quiet.int rfl rfl rfl) rfl (G.nil (G.then_n ?_))))))))
  refine G.condD rfl (fun h64 => ?_) (fun h64 => ?_)
  ·have hi2 : i < b.length := by omega
   refine G.rdShape (p := p) hb.cells (by (repeat' constructor)) (by omega) fun bb ob e1 => ?_
   subst e1
   have hfs := hb.few hi2
   refine G.skip (G.then_n (G.seq (G.block (G.region (G.q (Quiet.move rfl) rfl (G.q (Quiet.move rfl) rfl (G.q (Quiet.move rfl) rfl ?_)))))))
   refine G.q (Quiet.indexAddr rfl rfl el_24 (by omega)) rfl ?_
   refine G.q (Quiet.loadRdA (sz := 11) (j := i * 11) (k := 11) (p := p) (vs := enC b[i]) rfl ag_39 (by (repeat' constructor)) hb.cells (by simp) (by omega) (by omega) (flatMap_at (f := enC) (sz := 11) (fun _ _ => rfl) (by omega))) rfl ?_
   refine G.op (OpSpec.call Tryz.func14 rfl rfl (vs := [_, _]) rfl (trapply_spec c (appL τ (b.take i)) b[i].zx b[i].ses b[i].xid b[i].x b[i].subs p (hb.tx _ (List.getElem_mem hi2)) _ (hb.ok hok i) (by omega))) (by (repeat' constructor)) rfl ?nx53
   rintro v L' ⟨ue, ee, rfl, he, hue, rfl⟩
   refine G.nil (G.blk_n (G.then_n (G.region (G.q (Quiet.move rfl) rfl ?_))))
   refine G.q (Quiet.add rfl rfl (by omega)) rfl ?_
   refine G.q (Quiet.assign rfl) rfl (G.nil (G.then_n ?_))
   refine G.trCast (t := c) (τ' := (appL τ (b.take (i + 1)))) (by (repeat' constructor)) (by rw [appL_step _ hi2]; rfl) ?_
   exact G.roundK (i + 1) (by omega) (by omega) ⟨rfl, rfl, rfl, rfl, rfl, rfl, rfl, trivial⟩ (by (repeat' constructor)) (by ((repeat (apply Have.cons; (repeat (first | exact Pick.here | apply Pick.there)))); apply Have.base; repeat' constructor))
  ·have hii : i = b.length := by omega
   rw [hii, List.take_length]
   refine G.exit (G.then_e (G.then_e (G.blk_e (G.then_n (G.seq (G.region (G.q (Quiet.move rfl) rfl (G.q (Quiet.move rfl) rfl ?_))))))))
   refine G.op (OpSpec.call Tryz.func27 rfl rfl (vs := [_, _]) rfl (alike7_spec t x τ _ hok (by omega) hsb)) (by (repeat' constructor)) rfl ?nx59
   rintro v L' ⟨rfl, rfl⟩
   refine G.q (Quiet.assign rfl) rfl (G.nil (G.then_n (G.seq (G.region (G.q (Quiet.move rfl) rfl (G.q (Quiet.move rfl) rfl (G.q (Quiet.move rfl) rfl ?_)))))))
   refine G.op (OpSpec.call Tryz.func28 rfl rfl (vs := [_, _, _]) rfl (reads7_spec t x τ q _ hok (by omega))) (by (repeat' constructor)) rfl ?nx64
   rintro v L' ⟨rfl, rfl⟩
   refine G.q (Quiet.assign rfl) rfl (G.nil (G.then_n (G.seq (G.region (G.q (Quiet.move rfl) rfl ?_)))))
   refine G.op (OpSpec.call Tryz.func24 rfl rfl (vs := [_]) rfl (trclone_spec t τ _ hok (by omega))) (by (repeat' constructor)) rfl ?nx67
   rintro v L' ⟨d, rfl, rfl⟩
   refine G.q (Quiet.assign rfl) rfl (G.nil (G.then_n (G.seq (G.seq (G.region (G.q (Quiet.move rfl) rfl ?_))))))
   refine G.q (Quiet.as (v' := .bool false) (by rfl) (Quiet.ptreq rfl rfl Tryz.underlying28)) rfl ?_
   refine G.nil (G.then_n (G.condF rfl (G.skip (G.then_n (G.seq (G.seq (G.region (G.q (Quiet.assign rfl) rfl (G.nil (G.then_n (G.block ?_)))))))))))
   refine G.trCast (t := t) (τ' := (appL τ (b.take 0))) (by (repeat' constructor)) (by rw [List.take_zero]; rfl) ?_
   refine G.loopK (ι := Nat) (fun q E => (16, vint q) :: E) (fun q => [treeR t (appL τ (b.take q))]) (fun q => q ≤ b.length) (fun q => b.length - q) (0) (ts := [1, 6, 8, 9, 11, 13, 14, 15]) (.cons rfl (.cons rfl (.cons rfl (.cons rfl (.cons rfl (.cons rfl (.cons rfl (.cons rfl (.nil))))))))) (Nat.zero_le _) ⟨rfl, rfl, rfl, rfl, rfl, rfl, rfl, rfl, rfl, trivial⟩ (by (repeat' constructor)) ?_
   rintro i hi
   refine G.seq (G.seq (G.region (G.q (Quiet.move rfl) rfl (G.q (Quiet.move rfl) rfl (G.q (Quiet.slen rfl Tryz.underlying24 rfl) rfl (G.q (Quiet.int rfl rfl rfl) rfl (G.nil (G.then_n ?_))))))))
   refine G.condD rfl (fun h87 => ?_) (fun h87 => ?_)
   ·have hi2 : i < b.length := by omega
    refine G.rdShape (p := p) hb.cells (by (repeat' constructor)) (by omega) fun bb ob e1 => ?_
    subst e1
    have hfs := hb.few hi2
    refine G.skip (G.then_n (G.seq (G.block (G.region (G.q (Quiet.move rfl) rfl (G.q (Quiet.move rfl) rfl (G.q (Quiet.move rfl) rfl ?_)))))))
    refine G.q (Quiet.indexAddr rfl rfl el_24 (by omega)) rfl ?_
    refine G.q (Quiet.loadRdA (sz := 11) (j := i * 11) (k := 11) (p := p) (vs := enC b[i]) rfl ag_39 (by (repeat' constructor)) hb.cells (by simp) (by omega) (by omega) (flatMap_at (f := enC) (sz := 11) (fun _ _ => rfl) (by omega))) rfl ?_
    refine G.op (OpSpec.call Tryz.func14 rfl rfl (vs := [_, _]) rfl (trapply_spec t (appL τ (b.take i)) b[i].zx b[i].ses b[i].xid b[i].x b[i].subs p (hb.tx _ (List.getElem_mem hi2)) _ (hb.ok hok i) (by omega))) (by (repeat' constructor)) rfl ?nx80
    rintro v L' ⟨ue, ee, rfl, he, hue, rfl⟩
    refine G.nil (G.blk_n (G.then_n (G.region (G.q (Quiet.move rfl) rfl ?_))))
    refine G.q (Quiet.add rfl rfl (by omega)) rfl ?_
    refine G.q (Quiet.assign rfl) rfl (G.nil (G.then_n ?_))
    refine G.trCast (t := t) (τ' := (appL τ (b.take (i + 1)))) (by (repeat' constructor)) (by rw [appL_step _ hi2]; rfl) ?_
    exact G.roundK (i + 1) (by omega) (by omega) ⟨rfl, rfl, rfl, rfl, rfl, rfl, rfl, rfl, rfl, trivial⟩ (by (repeat' constructor)) (by ((repeat (apply Have.cons; (repeat (first | exact Pick.here | apply Pick.there)))); apply Have.base; repeat' constructor))
   ·have hii : i = b.length := by omega
    rw [hii, List.take_length]
    refine G.exit (G.then_e (G.then_e (G.blk_e (G.then_n (G.seq (G.region (G.q (Quiet.move rfl) rfl (G.q (Quiet.move rfl) rfl ?_))))))))
    refine G.op (OpSpec.call Tryz.func27 rfl rfl (vs := [_, _]) rfl (alike7_spec d x τ _ hok (by omega) hsb)) (by (repeat' constructor)) rfl ?nx86
    rintro v L' ⟨rfl, rfl⟩
    refine G.q (Quiet.assign rfl) rfl (G.nil (G.then_n (G.seq (G.region (G.q (Quiet.move rfl) rfl (G.q (Quiet.move rfl) rfl (G.grun (t := 100) rfl rfl rfl (G.q (Quiet.move rfl) rfl (G.q (Quiet.pickT rfl rfl) rfl (G.q (Quiet.move rfl) rfl (G.grun (t := 103) rfl rfl rfl (G.q (Quiet.move rfl) rfl (G.q (Quiet.pickT rfl rfl) rfl (G.q (Quiet.move rfl) rfl (G.grun (t := 106) rfl rfl rfl (G.q (Quiet.move rfl) rfl (G.grun (t := 106) rfl rfl rfl (G.q (Quiet.move rfl) rfl (G.grun (t := 106) rfl rfl rfl ?_)))))))))))))))))))
    refine G.op (OpSpec.call Tryz.func23 rfl rfl (vs := [_, _]) rfl (trsame_spec t c (appL τ b) (appL τ b) _ _ hokb hokb)) (by (repeat' constructor)) rfl ?nx92
    rintro v L' ⟨rfl, rfl⟩; rw [decide_eq_true rfl]
    refine G.q (Quiet.pickT rfl rfl) rfl (G.q (Quiet.assign rfl) rfl (G.nil (G.then_n (G.ret ?_))))
    exact G.done (l := [.tmp 6]) rfl rfl ⟨rfl, rfl⟩ (by (repeat' constructor)) (by (repeat' constructor))

end Go.Proofs.YtnnbelmpbmfdnaaGreatDoor

/- Own work: from what a call is given to the atoms of SlCore, and back to what a statement asks. -/

namespace Go.Proofs.YtnnbelmpbmfdnaaGreatDoor
open Go Go.ChangeShapes Go.WideShapes Go.ChangeAt Go.RowKit

section
variable {H : Type} {enc : TypeId × Value → H} {P : Program} {W W' : World}
theorem trodAll_old (hl : laidOutB P = true) (hb : Below W.heap.size W W') (sp : Nat → Bool) : ∀ (ts : List TypeId) (vs : List Value) (ds : List (DataW H)) (p : List MemPlace), (∀ t ∈ ts, P.readableRec t = true ∧ t < P.types.size) →
    DataW.TrodAll enc P W 0 (fun _ => true) true ts vs ds p → (∀ x ∈ p, x.block < W.heap.size) → (∀ x ∈ p, sp x.block = true) → DataW.TrodAll enc P W' 0 sp true ts vs ds p
  | [], vs, ds, p, _, h, _, _ => by
    obtain ⟨rfl, rfl, rfl⟩ := trodAll_nil h
    exact h
  | t :: ts, vs, ds, p, hr, h, hlt, hsp => by
    obtain ⟨v, vs1, d, ds1, a, b, rfl, rfl, rfl, h1, h2⟩ := trodAll_cons h
    have r := hr t (by simp)
    refine ⟨a, b, WideElems.Trod_stays hl r.1 r.2 h1 (fun x hx => hb.same (hlt x (by simp [hx]))) (fun x hx => hsp x (by simp [hx])), ?_, rfl⟩
    exact trodAll_old hl hb sp ts vs1 ds1 b (fun t ht => hr t (by simp [ht])) h2 (fun x hx => hlt x (by simp [hx])) (fun x hx => hsp x (by simp [hx]))
theorem settled {fn : Func} {s : ChangeSpec} {apart fresh handsOn again : Bool} {args : Array Value} {ds gs : List (DataW H)} {before : List MemPlace} {tb : TypeId}
    (hW : DataW.Whole enc P fn.params.toList s.vars apart W args.toList ds gs before) (hvars : s.vars = []) (hspec : ∀ gs', gs' = [] → s.fn H (ds ++ gs') = { results := [.lit (.bool true)], args := ds })
    (hres : fn.resultTypes = #[tb]) (htb : P.underlying tb = some .bool) (hl : laidOutB P = true) (hr : ∀ t ∈ fn.params.toList, P.readableRec t = true ∧ t < P.types.size) (hb : Below W.heap.size W W') :
    s.post enc P fn apart fresh handsOn again W args (.bool true) W' := by
  have hW' := hW
  have hlt := hW.lt
  obtain ⟨p, q, hA, hV, rfl, hfz, hnd⟩ := hW
  rw [hvars] at hV
  obtain ⟨rfl, rfl⟩ := trodVars_none hV
  have hs := hspec [] rfl
  have hargs : ∀ sp : Nat → Bool, (∀ x ∈ p, sp x.block = true) → DataW.TrodAll enc P W' 0 sp true fn.params.toList args.toList ds p := fun sp hsp =>
    trodAll_old hl hb sp _ _ _ _ hr hA (fun x hx => hlt x (by simp [hx])) hsp
  have hbool : ∀ (b : Nat) (sp : Nat → Bool) (hd : Bool), DataW.TrodAll enc P W' b sp hd fn.resultTypes.toList ((Value.bool true).resultList fn.resultTypes.size) [.lit (.bool true)] [] := by
    intro b sp hd
    rw [hres]
    exact trodAll_cons_mk (shut_bool htb _) trodAll_mk0
  refine ⟨ds, [], p ++ [], [], p, [], hW', ?_, ?_, ?_, hb.frame _, fun _ => ⟨ok_one hres rfl (okWide_bool_mk htb _), [.lit (.bool true)] ++ ds, [], p, ⟨p, [], ?_, ?_, by simp, ?_, ?_⟩, ?_⟩⟩
  · rw [hs]; exact hbool _ _ _
  · rw [hs]; exact hargs _ (fun x hx => by simpa using hlt x (by simp [hx]))
  · rw [hs, hvars]; exact hV
  · exact trodAll_append (hargs _ (fun _ _ => rfl)) (hbool _ _ _)
  · rw [hvars]; exact hV
  · intro b off hp
    rw [hb.frozen (p := ⟨b, off, none⟩) (hlt (.cell b off) (by simp [hp]))]
    exact hfz b off (by simp [hp])
  · intro ha
    have := hnd ha
    simpa using this
  · intro x hx _
    simp [hx]
theorem old_calls {f : FuncId} {args : Array Value} (h : Fn P f args [Old W] fun v L => v = .bool true ∧ L = [Old W]) :
    Calls P f args W fun e W' => e = .returned (.bool true) ∧ Below W.heap.size W W' := by
  have h0 : St [Old W] W := ⟨fun b => W.heap[b]?, fun _ => none, fun _ => .inr rfl, fun b o h => h, fun b o h => (by cases h), fun b hb => rfl, trivial⟩
  refine (h [] W h0).mono ?_
  rintro e W' ⟨v, L, ⟨rfl, rfl⟩, rfl, hs, hk⟩
  refine ⟨rfl, hk.os, hk.tape, hk.output, hk.size, fun k hk' => ?_⟩
  obtain ⟨h1, a1, hp⟩ := sep_head hs
  have e1 := hp k hk'
  have : ∃ o, W.heap[k]? = some o := ⟨_, Array.getElem?_eq_getElem hk'⟩
  obtain ⟨o, ho⟩ := this
  rw [ho] at e1 ⊢
  exact a1 _ _ e1
theorem old_rd {a : Addr} {len cap : Nat} {V : Nat → Value} (hc : ∀ i, i < len → W.cell? (a.add i) = some (V i)) (hle : len ≤ cap) : ∀ h : Hp, Old W h → rdS 1 h (.slice (some a) len cap) len ((List.range len).map V) := by
  intro h hold
  rcases Nat.eq_zero_or_pos len with rfl | hpos
  · exact .inl ⟨rfl, rfl, some a, cap, rfl⟩
  · obtain ⟨b, off, spot⟩ := a
    have h0 := hc 0 hpos
    have e0 : (⟨b, off, spot⟩ : Addr).add 0 = ⟨b, off, spot⟩ := by simp [Addr.add]
    rw [e0] at h0
    simp only [World.cell?] at h0
    rcases hw : W.heap[b]? with _ | o
    · rw [hw] at h0; cases h0
    · cases o with
      | cells c T fr =>
        rw [hw] at h0
        dsimp only at h0
        split at h0
        · cases h0
        · rename_i hsp
          have hspot : spot = none := by simpa using hsp
          subst hspot
          have hc' : ∀ i, i < len → c[off + i]? = some (V i) := by
            intro i hi
            have := hc i hi
            have e1 : (⟨b, off, none⟩ : Addr).add i = ⟨b, off + i, none⟩ := by
              simp only [Addr.add]; split
              · rename_i h0; simp [h0]
              · rfl
            rw [e1] at this
            simp only [World.cell?, hw] at this
            simpa using this
          have hlt : b < W.heap.size := by
            rcases Nat.lt_or_ge b W.heap.size with h' | h'
            · exact h'
            · rw [Array.getElem?_eq_none h'] at hw; cases hw
          have hlen : off + len ≤ c.size := by
            have := hc' (len - 1) (by omega)
            rcases Nat.lt_or_ge (off + (len - 1)) c.size with h' | h'
            · omega
            · rw [Array.getElem?_eq_none h'] at this; cases this
          refine .inr ⟨b, off, cap, c.toList, T, fr, rfl, by rw [hold b hlt, hw], ?_, by simpa using hlen, hle⟩
          apply List.ext_getElem?
          intro i
          rw [Nat.mul_one, List.getElem?_take, List.getElem?_map, List.getElem?_drop]
          split
          · rename_i hi
            rw [List.getElem?_range hi]
            simpa using hc' i hi
          · rename_i hi
            rw [List.getElem?_eq_none (by simpa using hi)]; rfl
      | _ => rw [hw] at h0; cases h0
end
end Go.Proofs.YtnnbelmpbmfdnaaGreatDoor

/- Own work: strings and rows of strings as arguments. -/
namespace Go.Proofs.YtnnbelmpbmfdnaaGreatDoor
open Go Go.ChangeShapes Go.WideShapes Go.ChangeAt Go.RowKit

section
variable {H : Type} {enc : TypeId × Value → H} {P : Program} {W : World}
theorem string_vstr (s : ByteArray) : Value.string s = vstr s.data.toList := by cases s; rfl
end
end Go.Proofs.YtnnbelmpbmfdnaaGreatDoor

/- Own work: nested arguments decoded: slices of structs, and what the row says of their weight. -/

namespace Go.Proofs.YtnnbelmpbmfdnaaGreatDoor
open Go Go.ChangeShapes Go.WideShapes Go.ChangeAt Go.RowKit

section
variable {H : Type} {enc : TypeId × Value → H} {P : Program} {W : World}
/-- No slice and no string in this datum weighs more than the row's reach. -/
def Light (P : Program) (t : TypeId) (d : DataW H) : Prop := ∀ n ∈ d.weights P t, n ≤ reachBytes
theorem flat_at {α : Type} {sz : Nat} (f : Nat → List α) : ∀ n, (∀ i, i < n → (f i).length = sz) → ∀ j, j < n * sz → ((List.range n).flatMap f)[j]? = (f (j / sz))[j % sz]? ∧ ((List.range n).flatMap f).length = n * sz := by
  intro n
  induction n with
  | zero => intro _ j hj; omega
  | succ n ih =>
    intro hf j hj
    have hn := hf n (by omega)
    have hlen : ((List.range n).flatMap f).length = n * sz := by
      rcases Nat.eq_zero_or_pos (n * sz) with h0 | h0
      · rcases Nat.eq_zero_or_pos n with h1 | h1
        · subst h1; simp
        · have : sz = 0 := by
            rcases Nat.eq_zero_or_pos sz with h2 | h2
            · exact h2
            · have := Nat.mul_pos h1 h2; omega
          subst this; omega
      · exact (ih (fun i hi => hf i (by omega)) 0 h0).2
    have e : (List.range (n + 1)).flatMap f = (List.range n).flatMap f ++ f n := by simp [List.range_succ]
    have hm : (n + 1) * sz = n * sz + sz := by rw [Nat.add_mul, Nat.one_mul]
    rw [e]
    refine ⟨?_, by rw [List.length_append, hlen, hn, hm]⟩
    rcases Nat.lt_or_ge j (n * sz) with h | h
    · rw [List.getElem?_append_left (by omega)]
      exact (ih (fun i hi => hf i (by omega)) j h).1
    · rw [List.getElem?_append_right (by omega), hlen]
      have hs : 0 < sz := by omega
      have h1 : j / sz = n := by
        have : j < (n + 1) * sz := hj
        have a := Nat.div_lt_of_lt_mul (show j < sz * (n + 1) by rw [Nat.mul_comm]; exact this)
        have b := (Nat.le_div_iff_mul_le hs).2 h
        omega
      have h2 : j % sz = j - n * sz := by
        have := Nat.div_add_mod j sz
        rw [h1, Nat.mul_comm] at this; omega
      rw [h1, h2]
theorem rdS_regroup {sz n c c1 : Nat} {a : Option Addr} {ys : List Value} {h : Hp} (hr : rdS 1 h (.slice a (n * sz) c1) (n * sz) ys) (hc : n ≤ c) (hs : 0 < sz) : rdS sz h (.slice a n c) n ys := by
  rcases hr with ⟨h1, h2, -⟩ | ⟨b, off, cap, l, T, fr, hv, hb, h1, h2, h3⟩
  · have : n = 0 := by
      rcases Nat.eq_zero_or_pos n with h0 | h0
      · exact h0
      · have := Nat.mul_pos h0 hs; omega
    subst this
    exact .inl ⟨rfl, h2, a, c, rfl⟩
  · simp only [Value.slice.injEq] at hv
    obtain ⟨rfl, -, -⟩ := hv
    exact .inr ⟨b, off, c, l, T, fr, rfl, hb, by rw [← h1, Nat.mul_one], by rw [Nat.mul_one] at h2; exact h2, hc⟩
abbrev Reads (enc : TypeId × Value → H) (P : Program) (W : World) (fuel : Nat) (t : TypeId) (cs : List Value) (x : DataW H × List MemPlace) : Prop := DataW.trod enc P W 0 (fun _ => true) true fuel t cs = some x
theorem dec_int {t : TypeId} {fuel : Nat} {cs : List Value} {x : DataW H × List MemPlace} (ht : P.underlying t = some (.int .i64)) (h : Reads enc P W fuel t cs x) : ∃ n : Int, cs = [vint n] ∧ -9223372036854775808 ≤ n ∧ n ≤ 9223372036854775807 := by
  obtain ⟨n, rfl, -, hwf⟩ := DataW.trod_int ht h
  exact ⟨n, rfl, bounds_i64 hwf⟩
end
end Go.Proofs.YtnnbelmpbmfdnaaGreatDoor

/- Own work: arguments of a bounded bulk (the second form's bound), decoded. -/
namespace Go.Proofs.YtnnbelmpbmfdnaaGreatDoor
open Go Go.ChangeShapes Go.WideShapes Go.ChangeAt Go.RowKit

theorem bulk_pos {H : Type} (d : DataW H) : 1 ≤ Rows.uptoBulk d := by
  cases d with
  | lit l => cases l <;> simp [Rows.uptoBulk]
  | _ => simp [Rows.uptoBulk]
theorem bulk_part {H : Type} {d : DataW H} : ∀ {l : List (DataW H)}, d ∈ l → Rows.uptoBulk d ≤ Rows.uptoBulkAll l
  | x :: l, h => by
    unfold Rows.uptoBulkAll
    rcases List.mem_cons.1 h with rfl | h
    · omega
    · have := bulk_part h; omega
theorem bulk_count {H : Type} : ∀ l : List (DataW H), l.length ≤ Rows.uptoBulkAll l
  | [] => by simp
  | x :: l => by
    have h1 := bulk_pos x
    have h2 := bulk_count l
    unfold Rows.uptoBulkAll
    rw [List.length_cons]; omega
theorem bulk_sum {H : Type} : ∀ l : List (DataW H), (l.map Rows.uptoBulk).sum ≤ Rows.uptoBulkAll l
  | [] => by simp
  | x :: l => by
    have h2 := bulk_sum l
    unfold Rows.uptoBulkAll
    rw [List.map_cons, List.sum_cons]; omega
theorem bulk_agg {H : Type} {d : DataW H} {l : List (DataW H)} {N : Nat} (h : Rows.uptoBulk (.agg l) ≤ N) (hd : d ∈ l) : Rows.uptoBulk d ≤ N := by
  have := bulk_part hd
  simp only [Rows.uptoBulk] at h
  omega
theorem bulk_small {H : Type} {l : List (DataW H)} (h : Rows.uptoSmall H l = true) {d : DataW H} (hd : d ∈ l) : Rows.uptoBulk d ≤ 1048576 :=
  Nat.le_trans (bulk_part hd) (of_decide_eq_true h)
instance : Inhabited Value := ⟨.bool false⟩
section
variable {H : Type} {enc : TypeId × Value → H} {P : Program} {W : World} {N : Nat}
theorem dec_str {t : TypeId} {fuel : Nat} {cs : List Value} {x : DataW H × List MemPlace} (ht : P.underlying t = some .string) (h : Reads enc P W fuel t cs x) (hb : Rows.uptoBulk x.1 ≤ N) : ∃ s : List UInt8, cs = [vstr s] ∧ s.length ≤ N := by
  obtain ⟨s, rfl, rfl, -⟩ := DataW.trod_string ht h
  simp only [Rows.uptoBulk] at hb
  exact ⟨s.data.toList, by rw [string_vstr], by omega⟩
theorem dec_int' {t : TypeId} {fuel : Nat} {cs : List Value} {x : DataW H × List MemPlace} (ht : P.underlying t = some (.int .i64)) (h : Reads enc P W fuel t cs x) : ∃ n : Int, cs = [vint n] ∧ (-9223372036854775808 ≤ n ∧ n ≤ 9223372036854775807) := by
  obtain ⟨n, h1, h2⟩ := dec_int ht h; exact ⟨n, h1, h2⟩
theorem slice_cell {t e : TypeId} {fuel : Nat} {v : Value} {x : DataW H × List MemPlace} (ht : P.underlying t = some (.slice e)) (h : Reads enc P W fuel t [v] x) : isCell v = true := by
  rcases Go.Deep.open_slice ht h with ⟨hv, -⟩ | ⟨a, len, cap, m, n, Dd, Pl, hv, -⟩
  · rw [List.cons.injEq] at hv; rw [hv.1]; rfl
  · rw [List.cons.injEq] at hv; rw [hv.1]; rfl
/-- A slice, each of whose elements is decoded. -/
theorem dec_sliceU {Z : Type} [Inhabited Z] (toC : Z → List Value) (Q : Z → Prop) {t e : TypeId} {sz : Nat} {fuel : Nat} {cs : List Value} {x : DataW H × List MemPlace} (ht : P.underlying t = some (.slice e)) (hc : P.cellsOf e = sz) (hs : 0 < sz)
    (hdec : ∀ (n : Nat) (cs : List Value) (y : DataW H × List MemPlace), Reads enc P W n e cs y → Rows.uptoBulk y.1 ≤ N → ∃ z, cs = toC z ∧ Q z) (h : Reads enc P W fuel t cs x) (hb : Rows.uptoBulk x.1 ≤ N) :
    ∃ z : Value × List Z, cs = [z.1] ∧ (∀ h : Hp, Old W h → rdS sz h z.1 z.2.length (z.2.flatMap toC)) ∧ z.2.length ≤ N ∧ ∀ y ∈ z.2, Q y := by
  subst hc
  rcases Go.Deep.open_slice ht h with ⟨rfl, rfl⟩ | ⟨a, len, cap, m, n, Dd, Pl, rfl, -, hl, hm, hmm, rfl, hx⟩
  · exact ⟨(_, []), rfl, fun h _ => .inl ⟨rfl, rfl, none, 0, rfl⟩, by simp, by simp⟩
  · simp only [if_true] at hmm
    subst hmm
    have hbl : len ≤ N := by
      have := bulk_count ((List.range len).map Dd)
      simp only [Rows.uptoBulk] at hb
      rw [List.length_map, List.length_range] at this
      omega
    have hbe : ∀ i, i < len → Rows.uptoBulk (Dd i) ≤ N := fun i hi => by
      have := bulk_part (d := Dd i) (l := (List.range len).map Dd) (List.mem_map_of_mem (by simpa using hi))
      simp only [Rows.uptoBulk] at hb
      omega
    obtain ⟨Zf, hZ⟩ := Go.Deep.choose_lt (α := Z) (p := fun i z => W.cells? 0 (a.add (i * P.cellsOf e)) (P.cellsOf e) = some (toC z) ∧ Q z) (n := len) (fun i hi => by
      obtain ⟨cs', h1, h2⟩ := hx i (by omega)
      obtain ⟨z, rfl, h3⟩ := hdec _ _ _ h2 (hbe i hi)
      exact ⟨z, h1, h3⟩)
    have hlenf : ∀ i, i < len → (toC (Zf i)).length = P.cellsOf e := fun i hi => (World.cells?_some (hZ i hi).1).2.1
    have hflat := flat_at (fun i => toC (Zf i)) len hlenf
    refine ⟨(_, (List.range len).map Zf), rfl, ?_, ?_, ?_⟩
    · intro h hold
      dsimp only
      rw [List.length_map, List.length_range]
      refine rdS_regroup (c1 := len * P.cellsOf e) ?_ hl hs
      have e1 : ((List.range len).map Zf).flatMap toC = (List.range (len * P.cellsOf e)).map (fun j => ((List.range len).flatMap fun i => toC (Zf i)).getD j (.bool false)) := by
        rw [List.flatMap_map]
        apply List.ext_getElem?
        intro j
        rcases Nat.lt_or_ge j (len * P.cellsOf e) with hj | hj
        · rw [List.getElem?_map, List.getElem?_range hj]
          have := (hflat j hj).2
          have hjl : j < ((List.range len).flatMap fun i => toC (Zf i)).length := by omega
          simp only [Option.map_some, List.getD_eq_getElem?_getD, List.getElem?_eq_getElem hjl, Option.getD_some]
        · have : ((List.range len).flatMap fun i => toC (Zf i)).length = len * P.cellsOf e := by
            rcases Nat.eq_zero_or_pos (len * P.cellsOf e) with h0 | h0
            · have : len = 0 := by
                rcases Nat.eq_zero_or_pos len with h1 | h1
                · exact h1
                · have := Nat.mul_pos h1 hs; omega
              subst this; simp
            · exact (hflat 0 h0).2
          rw [List.getElem?_eq_none (by omega), List.getElem?_eq_none (by simpa using hj)]
      rw [e1]
      refine old_rd (W := W) (fun j hj => ?_) (Nat.le_refl _) h hold
      have hi : j / P.cellsOf e < len := Nat.div_lt_of_lt_mul (by rw [Nat.mul_comm]; exact hj)
      have hcell := (World.cells?_some (hZ (j / P.cellsOf e) hi).1).2.2 (j % P.cellsOf e) (Nat.mod_lt _ hs)
      rw [Addr.add_add, Nat.mul_comm, Nat.div_add_mod] at hcell
      rw [hcell]
      obtain ⟨f1, f2⟩ := hflat j hj
      rw [List.getD_eq_getElem?_getD, f1]
      have : j % P.cellsOf e < (toC (Zf (j / P.cellsOf e))).length := by rw [hlenf _ hi]; exact Nat.mod_lt _ hs
      simp [this]
    · dsimp only; rw [List.length_map, List.length_range]; exact hbl
    · intro z hz
      obtain ⟨i, hi, rfl⟩ := List.mem_map.1 hz
      exact (hZ i (by simpa using hi)).2
/-- The same, with each element's own bulk, and their sum. -/
theorem dec_sliceQ {Z : Type} [Inhabited Z] (toC : Z → List Value) (Q : Nat → Z → Prop) {t e : TypeId} {sz : Nat} {fuel : Nat} {cs : List Value} {x : DataW H × List MemPlace} (ht : P.underlying t = some (.slice e)) (hc : P.cellsOf e = sz) (hs : 0 < sz)
    (hdec : ∀ (n : Nat) (cs : List Value) (y : DataW H × List MemPlace), Reads enc P W n e cs y → ∃ z, cs = toC z ∧ Q (Rows.uptoBulk y.1) z) (h : Reads enc P W fuel t cs x) (hb : Rows.uptoBulk x.1 ≤ N) :
    ∃ (z : Value × List Z) (ws : List Nat), cs = [z.1] ∧ (∀ h : Hp, Old W h → rdS sz h z.1 z.2.length (z.2.flatMap toC)) ∧ z.2.length ≤ N ∧ ws.length = z.2.length ∧ ws.sum ≤ N ∧ (∀ w ∈ ws, 1 ≤ w) ∧ ∀ i (h1 : i < z.2.length) (h2 : i < ws.length), Q ws[i] z.2[i] := by
  subst hc
  rcases Go.Deep.open_slice ht h with ⟨rfl, rfl⟩ | ⟨a, len, cap, m, n, Dd, Pl, rfl, -, hl, hm, hmm, rfl, hx⟩
  · exact ⟨(_, []), [], rfl, fun h _ => .inl ⟨rfl, rfl, none, 0, rfl⟩, by simp, rfl, by simp, (fun _ h => by cases h), (fun i h1 _ => by simp at h1)⟩
  · simp only [if_true] at hmm
    subst hmm
    have hbl : len ≤ N := by
      have := bulk_count ((List.range len).map Dd)
      simp only [Rows.uptoBulk] at hb
      rw [List.length_map, List.length_range] at this
      omega
    have hall : ((List.range len).map fun i => Rows.uptoBulk (Dd i)).sum ≤ N := by
      have := bulk_sum ((List.range len).map Dd)
      rw [List.map_map] at this
      simp only [Rows.uptoBulk] at hb
      have e : ((List.range len).map fun i => Rows.uptoBulk (Dd i)) = (List.range len).map (Rows.uptoBulk ∘ Dd) := rfl
      rw [e]; omega
    obtain ⟨Zf, hZ⟩ := Go.Deep.choose_lt (α := Z) (p := fun i z => W.cells? 0 (a.add (i * P.cellsOf e)) (P.cellsOf e) = some (toC z) ∧ Q (Rows.uptoBulk (Dd i)) z) (n := len) (fun i hi => by
      obtain ⟨cs', h1, h2⟩ := hx i (by omega)
      obtain ⟨z, rfl, h3⟩ := hdec _ _ _ h2
      exact ⟨z, h1, h3⟩)
    have hlenf : ∀ i, i < len → (toC (Zf i)).length = P.cellsOf e := fun i hi => (World.cells?_some (hZ i hi).1).2.1
    have hflat := flat_at (fun i => toC (Zf i)) len hlenf
    refine ⟨(_, (List.range len).map Zf), (List.range len).map fun i => Rows.uptoBulk (Dd i), rfl, ?_, ?_, by simp, hall, ?_, ?_⟩
    · intro h hold
      dsimp only
      rw [List.length_map, List.length_range]
      refine rdS_regroup (c1 := len * P.cellsOf e) ?_ hl hs
      have e1 : ((List.range len).map Zf).flatMap toC = (List.range (len * P.cellsOf e)).map (fun j => ((List.range len).flatMap fun i => toC (Zf i)).getD j (.bool false)) := by
        rw [List.flatMap_map]
        apply List.ext_getElem?
        intro j
        rcases Nat.lt_or_ge j (len * P.cellsOf e) with hj | hj
        · rw [List.getElem?_map, List.getElem?_range hj]
          have := (hflat j hj).2
          have hjl : j < ((List.range len).flatMap fun i => toC (Zf i)).length := by omega
          simp only [Option.map_some, List.getD_eq_getElem?_getD, List.getElem?_eq_getElem hjl, Option.getD_some]
        · have : ((List.range len).flatMap fun i => toC (Zf i)).length = len * P.cellsOf e := by
            rcases Nat.eq_zero_or_pos (len * P.cellsOf e) with h0 | h0
            · have : len = 0 := by
                rcases Nat.eq_zero_or_pos len with h1 | h1
                · exact h1
                · have := Nat.mul_pos h1 hs; omega
              subst this; simp
            · exact (hflat 0 h0).2
          rw [List.getElem?_eq_none (by omega), List.getElem?_eq_none (by simpa using hj)]
      rw [e1]
      refine old_rd (W := W) (fun j hj => ?_) (Nat.le_refl _) h hold
      have hi : j / P.cellsOf e < len := Nat.div_lt_of_lt_mul (by rw [Nat.mul_comm]; exact hj)
      have hcell := (World.cells?_some (hZ (j / P.cellsOf e) hi).1).2.2 (j % P.cellsOf e) (Nat.mod_lt _ hs)
      rw [Addr.add_add, Nat.mul_comm, Nat.div_add_mod] at hcell
      rw [hcell]
      obtain ⟨f1, f2⟩ := hflat j hj
      rw [List.getD_eq_getElem?_getD, f1]
      have : j % P.cellsOf e < (toC (Zf (j / P.cellsOf e))).length := by rw [hlenf _ hi]; exact Nat.mod_lt _ hs
      simp [this]
    · dsimp only; rw [List.length_map, List.length_range]; exact hbl
    · intro w hw
      obtain ⟨i, -, rfl⟩ := List.mem_map.1 hw
      exact bulk_pos _
    · intro i h1 h2
      simp only [List.getElem_map, List.getElem_range]
      exact (hZ i (by simpa using h1)).2
end
end Go.Proofs.YtnnbelmpbmfdnaaGreatDoor

/- Own work, by program: what the arguments are. -/
namespace Go.Proofs.YtnnbelmpbmfdnaaGreatDoor
open Go Go.ChangeShapes Go.WideShapes Go.ChangeAt Go.RowKit
theorem cells_3 : Tryz.prog.cellsOf 3 = 1 := by kernel_rfl
theorem cells_9 : Tryz.prog.cellsOf 9 = 1 := by kernel_rfl
theorem cells_104 : Tryz.prog.cellsOf 104 = 2 := by kernel_rfl
def okAcl (N : Nat) (_p : HP) (z : Ac) : Prop := (-9223372036854775808 ≤ z.1 ∧ z.1 ≤ 9223372036854775807) ∧ z.2.length ≤ N
set_option maxRecDepth 100000 in
theorem dec_Acl {H : Type} {enc : TypeId × Value → H} {W : World} {N : Nat} (n : Nat) (cs : List Value) (y : DataW H × List MemPlace) (h : Reads enc Tryz.prog W n 104 cs y) (hb : Rows.uptoBulk y.1 ≤ N) : ∃ z : Ac, cs = acC z ∧ okAcl N (Old W) z := by
  obtain ⟨xs, m, -, rfl, hlen, hxs, hf⟩ := DataW.trod_struct Tryz.underlying104 h
  rw [cells_104] at hlen
  obtain ⟨a0, a1, rfl⟩ : ∃ a0 a1, cs = [a0, a1] := by
    match cs, hlen with
    | [a0, a1], _ => exact ⟨a0, a1, rfl⟩
  obtain ⟨y0, y1, rfl⟩ : ∃ y0 y1, xs = [y0, y1] := by
    match xs, hxs with
    | [y0, y1], _ => exact ⟨y0, y1, rfl⟩
  have f0 := hf 0 _ rfl
  have g0 : Reads enc Tryz.prog W m 3 (([a0, a1] : List Value).drop 0 |>.take (Tryz.prog.cellsOf 3)) y0 := f0
  rw [cells_3] at g0
  have b0 : Rows.uptoBulk y0.1 ≤ N := bulk_agg hb (by simp)
  obtain ⟨z0, e0, q0⟩ := dec_int' Tryz.underlying3 g0
  simp at e0
  have f1 := hf 1 _ rfl
  have g1 : Reads enc Tryz.prog W m 9 (([a0, a1] : List Value).drop 1 |>.take (Tryz.prog.cellsOf 9)) y1 := f1
  rw [cells_9] at g1
  have b1 : Rows.uptoBulk y1.1 ≤ N := bulk_agg hb (by simp)
  obtain ⟨z1, e1, q1⟩ := dec_str Tryz.underlying9 g1 b1
  simp at e1
  subst e0
  subst e1
  exact ⟨(z0, z1), rfl, q0, q1⟩
theorem cells_34 : Tryz.prog.cellsOf 34 = 1 := by kernel_rfl
theorem cells_31 : Tryz.prog.cellsOf 31 = 1 := by kernel_rfl
theorem cells_35 : Tryz.prog.cellsOf 35 = 1 := by kernel_rfl
theorem cells_37 : Tryz.prog.cellsOf 37 = 8 := by kernel_rfl
abbrev ZTxn := Int × (Bs × (Bs × ((Value × List Ac) × (Int × (Int × (Int × Value))))))
def cTxn (z : ZTxn) : List Value := [vint z.1, vstr z.2.1, vstr z.2.2.1, z.2.2.2.1.1, vint z.2.2.2.2.1, vint z.2.2.2.2.2.1, vint z.2.2.2.2.2.2.1, z.2.2.2.2.2.2.2]
def okTxn (N : Nat) (_p : HP) (z : ZTxn) : Prop := (-9223372036854775808 ≤ z.1 ∧ z.1 ≤ 9223372036854775807) ∧ z.2.1.length ≤ N ∧ z.2.2.1.length ≤ N ∧ ((∀ h : Hp, _p h → rdS 2 h z.2.2.2.1.1 z.2.2.2.1.2.length (z.2.2.2.1.2.flatMap (acC))) ∧ z.2.2.2.1.2.length ≤ N ∧ ∀ y ∈ z.2.2.2.1.2, okAcl N _p y) ∧ (-9223372036854775808 ≤ z.2.2.2.2.1 ∧ z.2.2.2.2.1 ≤ 9223372036854775807) ∧ (-9223372036854775808 ≤ z.2.2.2.2.2.1 ∧ z.2.2.2.2.2.1 ≤ 9223372036854775807) ∧ (-9223372036854775808 ≤ z.2.2.2.2.2.2.1 ∧ z.2.2.2.2.2.2.1 ≤ 9223372036854775807) ∧ isCell z.2.2.2.2.2.2.2 = true
set_option maxRecDepth 100000 in
theorem dec_Txn {H : Type} {enc : TypeId × Value → H} {W : World} {N : Nat} (n : Nat) (cs : List Value) (y : DataW H × List MemPlace) (h : Reads enc Tryz.prog W n 37 cs y) (hb : Rows.uptoBulk y.1 ≤ N) : ∃ z : ZTxn, cs = cTxn z ∧ okTxn N (Old W) z := by
  obtain ⟨xs, m, -, rfl, hlen, hxs, hf⟩ := DataW.trod_struct Tryz.underlying37 h
  rw [cells_37] at hlen
  obtain ⟨a0, a1, a2, a3, a4, a5, a6, a7, rfl⟩ : ∃ a0 a1 a2 a3 a4 a5 a6 a7, cs = [a0, a1, a2, a3, a4, a5, a6, a7] := by
    match cs, hlen with
    | [a0, a1, a2, a3, a4, a5, a6, a7], _ => exact ⟨a0, a1, a2, a3, a4, a5, a6, a7, rfl⟩
  obtain ⟨y0, y1, y2, y3, y4, y5, y6, y7, rfl⟩ : ∃ y0 y1 y2 y3 y4 y5 y6 y7, xs = [y0, y1, y2, y3, y4, y5, y6, y7] := by
    match xs, hxs with
    | [y0, y1, y2, y3, y4, y5, y6, y7], _ => exact ⟨y0, y1, y2, y3, y4, y5, y6, y7, rfl⟩
  have f0 := hf 0 _ rfl
  have g0 : Reads enc Tryz.prog W m 3 (([a0, a1, a2, a3, a4, a5, a6, a7] : List Value).drop 0 |>.take (Tryz.prog.cellsOf 3)) y0 := f0
  rw [cells_3] at g0
  have b0 : Rows.uptoBulk y0.1 ≤ N := bulk_agg hb (by simp)
  obtain ⟨z0, e0, q0⟩ := dec_int' Tryz.underlying3 g0
  simp at e0
  have f1 := hf 1 _ rfl
  have g1 : Reads enc Tryz.prog W m 9 (([a0, a1, a2, a3, a4, a5, a6, a7] : List Value).drop 1 |>.take (Tryz.prog.cellsOf 9)) y1 := f1
  rw [cells_9] at g1
  have b1 : Rows.uptoBulk y1.1 ≤ N := bulk_agg hb (by simp)
  obtain ⟨z1, e1, q1⟩ := dec_str Tryz.underlying9 g1 b1
  simp at e1
  have f2 := hf 2 _ rfl
  have g2 : Reads enc Tryz.prog W m 9 (([a0, a1, a2, a3, a4, a5, a6, a7] : List Value).drop 2 |>.take (Tryz.prog.cellsOf 9)) y2 := f2
  rw [cells_9] at g2
  have b2 : Rows.uptoBulk y2.1 ≤ N := bulk_agg hb (by simp)
  obtain ⟨z2, e2, q2⟩ := dec_str Tryz.underlying9 g2 b2
  simp at e2
  have f3 := hf 3 _ rfl
  have g3 : Reads enc Tryz.prog W m 34 (([a0, a1, a2, a3, a4, a5, a6, a7] : List Value).drop 3 |>.take (Tryz.prog.cellsOf 34)) y3 := f3
  rw [cells_34] at g3
  have b3 : Rows.uptoBulk y3.1 ≤ N := bulk_agg hb (by simp)
  obtain ⟨z3, e3, q3⟩ := dec_sliceU (N := N) (acC) (fun y => okAcl N (Old W) y) Tryz.underlying34 cells_104 (by decide) (fun n cs y h hb => dec_Acl n cs y h hb) g3 b3
  simp at e3
  have f4 := hf 4 _ rfl
  have g4 : Reads enc Tryz.prog W m 3 (([a0, a1, a2, a3, a4, a5, a6, a7] : List Value).drop 4 |>.take (Tryz.prog.cellsOf 3)) y4 := f4
  rw [cells_3] at g4
  have b4 : Rows.uptoBulk y4.1 ≤ N := bulk_agg hb (by simp)
  obtain ⟨z4, e4, q4⟩ := dec_int' Tryz.underlying3 g4
  simp at e4
  have f5 := hf 5 _ rfl
  have g5 : Reads enc Tryz.prog W m 3 (([a0, a1, a2, a3, a4, a5, a6, a7] : List Value).drop 5 |>.take (Tryz.prog.cellsOf 3)) y5 := f5
  rw [cells_3] at g5
  have b5 : Rows.uptoBulk y5.1 ≤ N := bulk_agg hb (by simp)
  obtain ⟨z5, e5, q5⟩ := dec_int' Tryz.underlying3 g5
  simp at e5
  have f6 := hf 6 _ rfl
  have g6 : Reads enc Tryz.prog W m 31 (([a0, a1, a2, a3, a4, a5, a6, a7] : List Value).drop 6 |>.take (Tryz.prog.cellsOf 31)) y6 := f6
  rw [cells_31] at g6
  have b6 : Rows.uptoBulk y6.1 ≤ N := bulk_agg hb (by simp)
  obtain ⟨z6, e6, q6⟩ := dec_int' Tryz.underlying31 g6
  simp at e6
  have f7 := hf 7 _ rfl
  have g7 : Reads enc Tryz.prog W m 35 (([a0, a1, a2, a3, a4, a5, a6, a7] : List Value).drop 7 |>.take (Tryz.prog.cellsOf 35)) y7 := f7
  rw [cells_35] at g7
  obtain ⟨z7, e7, q7⟩ : ∃ z : Value, a7 = z ∧ isCell z = true := ⟨_, rfl, slice_cell Tryz.underlying35 g7⟩
  subst e0
  subst e1
  subst e2
  subst e3
  subst e4
  subst e5
  subst e6
  replace e7 := e7.symm
  subst e7
  exact ⟨(z0, z1, z2, z3, z4, z5, z6, z7), rfl, q0, q1, q2, q3, q4, q5, q6, q7⟩
def okTxn1 (N : Nat) (_p : HP) (z : ZTxn) : Prop := (-9223372036854775808 ≤ z.1 ∧ z.1 ≤ 9223372036854775807) ∧ z.2.1.length ≤ N ∧ z.2.2.1.length ≤ N ∧ ((∀ h : Hp, _p h → rdS 2 h z.2.2.2.1.1 z.2.2.2.1.2.length (z.2.2.2.1.2.flatMap (acC))) ∧ z.2.2.2.1.2.length ≤ N ∧ ∀ y ∈ z.2.2.2.1.2, okAcl N _p y) ∧ (-9223372036854775808 ≤ z.2.2.2.2.1 ∧ z.2.2.2.2.1 ≤ 9223372036854775807) ∧ (-9223372036854775808 ≤ z.2.2.2.2.2.1 ∧ z.2.2.2.2.2.1 ≤ 9223372036854775807) ∧ (-9223372036854775808 ≤ z.2.2.2.2.2.2.1 ∧ z.2.2.2.2.2.2.1 ≤ 9223372036854775807) ∧ (∃ l : List ZTxn, (∀ h : Hp, _p h → rdS 8 h z.2.2.2.2.2.2.2 l.length (l.flatMap (cTxn))) ∧ l.length ≤ N ∧ ∀ y ∈ l, okTxn N _p y)
set_option maxRecDepth 100000 in
theorem dec_Txn1 {H : Type} {enc : TypeId × Value → H} {W : World} {N : Nat} (n : Nat) (cs : List Value) (y : DataW H × List MemPlace) (h : Reads enc Tryz.prog W n 37 cs y) (hb : Rows.uptoBulk y.1 ≤ N) : ∃ z : ZTxn, cs = cTxn z ∧ okTxn1 N (Old W) z := by
  obtain ⟨xs, m, -, rfl, hlen, hxs, hf⟩ := DataW.trod_struct Tryz.underlying37 h
  rw [cells_37] at hlen
  obtain ⟨a0, a1, a2, a3, a4, a5, a6, a7, rfl⟩ : ∃ a0 a1 a2 a3 a4 a5 a6 a7, cs = [a0, a1, a2, a3, a4, a5, a6, a7] := by
    match cs, hlen with
    | [a0, a1, a2, a3, a4, a5, a6, a7], _ => exact ⟨a0, a1, a2, a3, a4, a5, a6, a7, rfl⟩
  obtain ⟨y0, y1, y2, y3, y4, y5, y6, y7, rfl⟩ : ∃ y0 y1 y2 y3 y4 y5 y6 y7, xs = [y0, y1, y2, y3, y4, y5, y6, y7] := by
    match xs, hxs with
    | [y0, y1, y2, y3, y4, y5, y6, y7], _ => exact ⟨y0, y1, y2, y3, y4, y5, y6, y7, rfl⟩
  have f0 := hf 0 _ rfl
  have g0 : Reads enc Tryz.prog W m 3 (([a0, a1, a2, a3, a4, a5, a6, a7] : List Value).drop 0 |>.take (Tryz.prog.cellsOf 3)) y0 := f0
  rw [cells_3] at g0
  have b0 : Rows.uptoBulk y0.1 ≤ N := bulk_agg hb (by simp)
  obtain ⟨z0, e0, q0⟩ := dec_int' Tryz.underlying3 g0
  simp at e0
  have f1 := hf 1 _ rfl
  have g1 : Reads enc Tryz.prog W m 9 (([a0, a1, a2, a3, a4, a5, a6, a7] : List Value).drop 1 |>.take (Tryz.prog.cellsOf 9)) y1 := f1
  rw [cells_9] at g1
  have b1 : Rows.uptoBulk y1.1 ≤ N := bulk_agg hb (by simp)
  obtain ⟨z1, e1, q1⟩ := dec_str Tryz.underlying9 g1 b1
  simp at e1
  have f2 := hf 2 _ rfl
  have g2 : Reads enc Tryz.prog W m 9 (([a0, a1, a2, a3, a4, a5, a6, a7] : List Value).drop 2 |>.take (Tryz.prog.cellsOf 9)) y2 := f2
  rw [cells_9] at g2
  have b2 : Rows.uptoBulk y2.1 ≤ N := bulk_agg hb (by simp)
  obtain ⟨z2, e2, q2⟩ := dec_str Tryz.underlying9 g2 b2
  simp at e2
  have f3 := hf 3 _ rfl
  have g3 : Reads enc Tryz.prog W m 34 (([a0, a1, a2, a3, a4, a5, a6, a7] : List Value).drop 3 |>.take (Tryz.prog.cellsOf 34)) y3 := f3
  rw [cells_34] at g3
  have b3 : Rows.uptoBulk y3.1 ≤ N := bulk_agg hb (by simp)
  obtain ⟨z3, e3, q3⟩ := dec_sliceU (N := N) (acC) (fun y => okAcl N (Old W) y) Tryz.underlying34 cells_104 (by decide) (fun n cs y h hb => dec_Acl n cs y h hb) g3 b3
  simp at e3
  have f4 := hf 4 _ rfl
  have g4 : Reads enc Tryz.prog W m 3 (([a0, a1, a2, a3, a4, a5, a6, a7] : List Value).drop 4 |>.take (Tryz.prog.cellsOf 3)) y4 := f4
  rw [cells_3] at g4
  have b4 : Rows.uptoBulk y4.1 ≤ N := bulk_agg hb (by simp)
  obtain ⟨z4, e4, q4⟩ := dec_int' Tryz.underlying3 g4
  simp at e4
  have f5 := hf 5 _ rfl
  have g5 : Reads enc Tryz.prog W m 3 (([a0, a1, a2, a3, a4, a5, a6, a7] : List Value).drop 5 |>.take (Tryz.prog.cellsOf 3)) y5 := f5
  rw [cells_3] at g5
  have b5 : Rows.uptoBulk y5.1 ≤ N := bulk_agg hb (by simp)
  obtain ⟨z5, e5, q5⟩ := dec_int' Tryz.underlying3 g5
  simp at e5
  have f6 := hf 6 _ rfl
  have g6 : Reads enc Tryz.prog W m 31 (([a0, a1, a2, a3, a4, a5, a6, a7] : List Value).drop 6 |>.take (Tryz.prog.cellsOf 31)) y6 := f6
  rw [cells_31] at g6
  have b6 : Rows.uptoBulk y6.1 ≤ N := bulk_agg hb (by simp)
  obtain ⟨z6, e6, q6⟩ := dec_int' Tryz.underlying31 g6
  simp at e6
  have f7 := hf 7 _ rfl
  have g7 : Reads enc Tryz.prog W m 35 (([a0, a1, a2, a3, a4, a5, a6, a7] : List Value).drop 7 |>.take (Tryz.prog.cellsOf 35)) y7 := f7
  rw [cells_35] at g7
  have b7 : Rows.uptoBulk y7.1 ≤ N := bulk_agg hb (by simp)
  obtain ⟨w7, e7, q7⟩ := dec_sliceU (N := N) (cTxn) (fun y => okTxn N (Old W) y) Tryz.underlying35 cells_37 (by decide) (fun n cs y h hb => dec_Txn n cs y h hb) g7 b7
  simp at e7
  obtain ⟨z7, l7⟩ := w7
  dsimp only at e7 q7
  subst e0
  subst e1
  subst e2
  subst e3
  subst e4
  subst e5
  subst e6
  replace e7 := e7.symm
  subst e7
  exact ⟨(z0, z1, z2, z3, z4, z5, z6, z7), rfl, q0, q1, q2, q3, q4, q5, q6, ⟨l7, q7⟩⟩
theorem cells_39 : Tryz.prog.cellsOf 39 = 11 := by kernel_rfl
abbrev ZEntry := Int × (Int × (Int × ZTxn))
def cEntry (z : ZEntry) : List Value := [vint z.1, vint z.2.1, vint z.2.2.1, vint z.2.2.2.1, vstr z.2.2.2.2.1, vstr z.2.2.2.2.2.1, z.2.2.2.2.2.2.1.1, vint z.2.2.2.2.2.2.2.1, vint z.2.2.2.2.2.2.2.2.1, vint z.2.2.2.2.2.2.2.2.2.1, z.2.2.2.2.2.2.2.2.2.2]
def okEntry (N : Nat) (_p : HP) (z : ZEntry) : Prop := (-9223372036854775808 ≤ z.1 ∧ z.1 ≤ 9223372036854775807) ∧ (-9223372036854775808 ≤ z.2.1 ∧ z.2.1 ≤ 9223372036854775807) ∧ (-9223372036854775808 ≤ z.2.2.1 ∧ z.2.2.1 ≤ 9223372036854775807) ∧ okTxn1 N _p z.2.2.2
set_option maxRecDepth 100000 in
theorem dec_Entry {H : Type} {enc : TypeId × Value → H} {W : World} {N : Nat} (n : Nat) (cs : List Value) (y : DataW H × List MemPlace) (h : Reads enc Tryz.prog W n 39 cs y) (hb : Rows.uptoBulk y.1 ≤ N) : ∃ z : ZEntry, cs = cEntry z ∧ okEntry N (Old W) z := by
  obtain ⟨xs, m, -, rfl, hlen, hxs, hf⟩ := DataW.trod_struct Tryz.underlying39 h
  rw [cells_39] at hlen
  obtain ⟨a0, a1, a2, a3, a4, a5, a6, a7, a8, a9, a10, rfl⟩ : ∃ a0 a1 a2 a3 a4 a5 a6 a7 a8 a9 a10, cs = [a0, a1, a2, a3, a4, a5, a6, a7, a8, a9, a10] := by
    match cs, hlen with
    | [a0, a1, a2, a3, a4, a5, a6, a7, a8, a9, a10], _ => exact ⟨a0, a1, a2, a3, a4, a5, a6, a7, a8, a9, a10, rfl⟩
  obtain ⟨y0, y1, y2, y3, rfl⟩ : ∃ y0 y1 y2 y3, xs = [y0, y1, y2, y3] := by
    match xs, hxs with
    | [y0, y1, y2, y3], _ => exact ⟨y0, y1, y2, y3, rfl⟩
  have f0 := hf 0 _ rfl
  have g0 : Reads enc Tryz.prog W m 3 (([a0, a1, a2, a3, a4, a5, a6, a7, a8, a9, a10] : List Value).drop 0 |>.take (Tryz.prog.cellsOf 3)) y0 := f0
  rw [cells_3] at g0
  have b0 : Rows.uptoBulk y0.1 ≤ N := bulk_agg hb (by simp)
  obtain ⟨z0, e0, q0⟩ := dec_int' Tryz.underlying3 g0
  simp at e0
  have f1 := hf 1 _ rfl
  have g1 : Reads enc Tryz.prog W m 3 (([a0, a1, a2, a3, a4, a5, a6, a7, a8, a9, a10] : List Value).drop 1 |>.take (Tryz.prog.cellsOf 3)) y1 := f1
  rw [cells_3] at g1
  have b1 : Rows.uptoBulk y1.1 ≤ N := bulk_agg hb (by simp)
  obtain ⟨z1, e1, q1⟩ := dec_int' Tryz.underlying3 g1
  simp at e1
  have f2 := hf 2 _ rfl
  have g2 : Reads enc Tryz.prog W m 3 (([a0, a1, a2, a3, a4, a5, a6, a7, a8, a9, a10] : List Value).drop 2 |>.take (Tryz.prog.cellsOf 3)) y2 := f2
  rw [cells_3] at g2
  have b2 : Rows.uptoBulk y2.1 ≤ N := bulk_agg hb (by simp)
  obtain ⟨z2, e2, q2⟩ := dec_int' Tryz.underlying3 g2
  simp at e2
  have f3 := hf 3 _ rfl
  have g3 : Reads enc Tryz.prog W m 37 (([a0, a1, a2, a3, a4, a5, a6, a7, a8, a9, a10] : List Value).drop 3 |>.take (Tryz.prog.cellsOf 37)) y3 := f3
  rw [cells_37] at g3
  have b3 : Rows.uptoBulk y3.1 ≤ N := bulk_agg hb (by simp)
  obtain ⟨z3, e3, q3⟩ := dec_Txn1 _ _ _ g3 b3
  simp [cTxn] at e3
  subst e0
  subst e1
  subst e2
  obtain ⟨rfl, rfl, rfl, rfl, rfl, rfl, rfl, rfl⟩ := e3
  exact ⟨(z0, z1, z2, z3), rfl, q0, q1, q2, q3⟩
def ptOf (z : ZTxn) : Pt := ⟨z.1, z.2.1, z.2.2.1, z.2.2.2.1.1, z.2.2.2.1.2, z.2.2.2.2.1, z.2.2.2.2.2.1, z.2.2.2.2.2.2.1, z.2.2.2.2.2.2.2⟩
theorem ptA_of {p : HP} {N : Nat} (hN : N ≤ 1048576) {z : ZTxn} (h : okTxn N p z) (hc : isCell z.2.2.2.1.1 = true) : PtA p (ptOf z) := by
  obtain ⟨h1, h2, h3, ⟨h4, h5, h6⟩, h7, h8, h9, h10⟩ := h
  exact ⟨h4, by show z.2.2.2.1.2.length ≤ 1048576; omega, by show z.2.1.length ≤ 1048576; omega, h10, hc⟩
theorem rd_cellOld {W : World} {sz n : Nat} {v : Value} {ys : List Value} (hr : ∀ h : Hp, Old W h → rdS sz h v n ys) : isCell v = true := by
  have h := hr (fun b => if b < W.heap.size then W.heap[b]? else none) (fun b hb => if_pos hb)
  rcases h with ⟨-, -, a, c, rfl⟩ | ⟨b, off, cap, l, T, fr, rfl, -⟩ <;> rfl
def enOf (z : ZEntry) (subs : List Pt) : En := ⟨z.1, z.2.1, z.2.2.1, ptOf z.2.2.2, subs⟩
/-- One entry. -/
theorem ent_of {W : World} {B : Nat} (hB : B ≤ 1048576) {z : ZEntry} (h : okEntry B (Old W) z) : ∃ e : En, cEntry z = enC e ∧ TxA (Old W) e.x e.subs ∧ e.x.own ≤ 9223372036854775807 ∧ e.subs.length ≤ B := by
  obtain ⟨h1, h2, h3, ht⟩ := h
  obtain ⟨t1, t2, t3, ⟨t4, t5, t6⟩, t7, t8, t9, l, g1, g2, g3⟩ := ht
  refine ⟨enOf z (l.map ptOf), rfl, ⟨⟨t4, by show z.2.2.2.2.2.2.1.2.length ≤ 1048576; omega, by show z.2.2.2.2.1.length ≤ 1048576; omega, rd_cellOld g1, rd_cellOld t4⟩, fun h hp => ?_, by show (l.map ptOf).length ≤ 1048576; rw [List.length_map]; omega, fun y hy => ?_⟩, t7.2, by show (l.map ptOf).length ≤ B; rw [List.length_map]; exact g2⟩
  · have := g1 h hp
    show rdS 8 h _ (l.map ptOf).length ((l.map ptOf).flatMap ptC)
    rw [List.length_map, List.flatMap_map]
    exact this
  · obtain ⟨q, hq, rfl⟩ := List.mem_map.1 hy
    exact ptA_of hB (g3 q hq) (rd_cellOld (g3 q hq).2.2.2.1.1)
theorem ents_list {W : World} : ∀ {l : List ZEntry} {ws : List Nat}, ws.length = l.length → ws.sum ≤ 1048576 → (∀ w ∈ ws, 1 ≤ w) → (∀ i (h1 : i < l.length) (h2 : i < ws.length), okEntry ws[i] (Old W) l[i]) → ∃ es : List En, es.length = l.length ∧ es.flatMap enC = l.flatMap cEntry ∧ (∀ e ∈ es, TxA (Old W) e.x e.subs ∧ e.x.own ≤ 9223372036854775807) ∧ wtL es ≤ 2 * ws.sum
  | [], _, _, _, _, _ => ⟨[], rfl, rfl, (fun _ h => by cases h), by simp [wtL]⟩
  | z :: l, [], h, _, _, _ => by simp at h
  | z :: l, w :: ws, h, hs, hp, hq => by
    rw [List.sum_cons] at hs
    have h0 : okEntry w (Old W) z := hq 0 (by simp) (by simp)
    have hw1 : w ≤ 1048576 := by omega
    obtain ⟨e, e1, e2, e3, e4⟩ := ent_of hw1 h0
    obtain ⟨es, k1, k2, k3, k4⟩ := ents_list (l := l) (ws := ws) (by simpa using h) (by omega) (fun x hx => hp x (List.mem_cons_of_mem _ hx)) (fun i h1 h2 => hq (i + 1) (by simpa using h1) (by simpa using h2))
    have hw := hp w List.mem_cons_self
    have e4' : e.subs.length ≤ w := e4
    refine ⟨e :: es, by rw [List.length_cons, k1, List.length_cons], by rw [List.flatMap_cons, k2, List.flatMap_cons, e1], fun x hx => ?_, ?_⟩
    · rcases List.mem_cons.1 hx with rfl | hx
      · exact ⟨e2, e3⟩
      · exact k3 x hx
    · unfold wtL at k4 ⊢
      rw [List.map_cons, List.sum_cons, List.sum_cons]
      omega
theorem dec_ents {H : Type} {enc : TypeId × Value → H} {W : World} {fuel : Nat} {cs : List Value} {x : DataW H × List MemPlace} (h : Reads enc Tryz.prog W fuel 24 cs x) (hb : Rows.uptoBulk x.1 ≤ 1048576) : ∃ (v : Value) (es : List En), cs = [v] ∧ EntsA (Old W) v es := by
  obtain ⟨z, ws, h1, h2, h3, h4, h5, h6⟩ := dec_sliceQ (N := 1048576) cEntry (fun B z => okEntry B (Old W) z) Tryz.underlying24 cells_39 (by decide) (fun n cs y h => dec_Entry n cs y h (Nat.le_refl _)) h hb
  obtain ⟨es, k1, k2, k3, k4⟩ := ents_list h4 h5 (fun w hw => (h6.1 w hw)) h6.2
  exact ⟨z.1, es, h1, fun h hp => by rw [k1, k2]; exact h2 h hp, by omega, fun e he => (k3 e he).1, fun e he => (k3 e he).2, by omega⟩
end Go.Proofs.YtnnbelmpbmfdnaaGreatDoor

/- Own work: treeApart: the walk, brought to the given second form and its card. -/

namespace Go.Proofs.YtnnbelmpbmfdnaaGreatDoor.treeApart
open Go Go.ChangeShapes Go.WideShapes Go.ChangeAt Go.RowKit
theorem own : ownKnob Tryz.prog.godebug = none := by kernel_rfl
theorem laid : laidOutB Tryz.prog = true := by kernel_rfl
theorem readable : ∀ t ∈ Tryz.f7.params.toList, Tryz.prog.readableRec t = true ∧ t < Tryz.prog.types.size := by
  have h : (Tryz.f7.params.toList.all fun t => Tryz.prog.readableRec t && decide (t < Tryz.prog.types.size)) = true := by kernel_rfl
  intro t ht
  simpa using List.all_eq_true.1 h t ht
set_option maxRecDepth 100000 in
theorem contract (H : Type) (enc : TypeId × Value → H) (W : World) (base : Nat) (args : Array Value) (ds gs : List (DataW H)) (before : List MemPlace)
    (hval : ∀ (j : Nat) t v, Tryz.f7.params[j]? = some t → args[j]? = some v → Value.okWide Tryz.prog W .any base t v)
    (hW : DataW.Whole enc Tryz.prog Tryz.f7.params.toList Rows.treeApartSpec.vars false W args.toList ds gs before) (hk : Rows.uptoSmall H (ds ++ gs) = true) :
    Calls Tryz.prog 7 args W fun e W' => ∃ v, e = .returned v ∧ Rows.treeApartSpec.post enc Tryz.prog Tryz.f7 false true false false W args v W' := by
  have hW' := hW
  obtain ⟨p, q, hA, hV, rfl, hfz, hnd⟩ := hW
  obtain ⟨rfl, -⟩ := trodVars_none hV
  rw [List.append_nil] at hk
  have hpar : Tryz.f7.params = #[24, 24, 9] := Tryz.params7
  rw [hpar] at hval
  have hA' := hA
  rw [hpar] at hA'
  obtain ⟨v0, vs0, d0, ds0, p0, r0, ha0, rfl, rfl, h0, t0⟩ := trodAll_cons hA'
  obtain ⟨v1, vs1, d1, ds1, p1, r1, ha1, rfl, rfl, h1, t1⟩ := trodAll_cons t0
  obtain ⟨v2, vs2, d2, ds2, p2, r2, ha2, rfl, rfl, h2, t2⟩ := trodAll_cons t1
  obtain ⟨hv, rfl, rfl⟩ := trodAll_nil t2
  obtain rfl : args = #[v0, v1, v2] := by
    have e : args.toList = [v0, v1, v2] := by rw [ha0, ha1, ha2, hv]
    cases args; simp_all
  have b0 := bulk_small hk (d := d0) (by simp)
  obtain ⟨ad0, nn0, cp0, rfl⟩ := okWide_slice Tryz.underlying24 (hval 0 _ _ rfl rfl)
  obtain ⟨fu0, g0⟩ := h0
  obtain ⟨v0, xs0, e0, q0⟩ := dec_ents g0 b0
  simp [Value.cells] at e0
  subst e0
  have b1 := bulk_small hk (d := d1) (by simp)
  obtain ⟨ad1, nn1, cp1, rfl⟩ := okWide_slice Tryz.underlying24 (hval 1 _ _ rfl rfl)
  obtain ⟨fu1, g1⟩ := h1
  obtain ⟨v1, xs1, e1, q1⟩ := dec_ents g1 b1
  simp [Value.cells] at e1
  subst e1
  have b2 := bulk_small hk (d := d2) (by simp)
  obtain ⟨fu2, g2⟩ := h2
  obtain ⟨s2, e2, q2⟩ := dec_str Tryz.underlying9 g2 b2
  obtain ⟨s2', rfl⟩ := okWide_string Tryz.underlying9 (hval 2 _ _ rfl rfl)
  obtain rfl : s2' = bs s2 := by simpa [vstr, Value.cells] using e2
  refine (old_calls (tapart7_spec _ _ xs0 xs1 s2 (Old W) q0 q1)).mono fun e W' ⟨he, hb⟩ => ⟨_, he, ?_⟩
  exact settled hW' rfl (fun gs' h => by subst h; rfl) rfl Tryz.underlying4 laid readable hb
/-- A world for the witness: the two tables that the row lists, as they are laid. -/
def cellsTo (l : List Value) : Obj → Obj
  | .cells _ t frozen => .cells l.toArray t frozen
  | o => o
noncomputable def laidWorld (os : Os) : World :=
  let w := World.holding Tryz.prog os ⟨#[], #[], []⟩
  { w with heap := (w.heap.modify 1 (cellsTo (Pinned.utf8FirstZ.map fun (n : Nat) => Value.int .u8 n))).modify 2 (cellsTo [.int .u8 128, .int .u8 191, .int .u8 160, .int .u8 191, .int .u8 128, .int .u8 159, .int .u8 144, .int .u8 191, .int .u8 128, .int .u8 143, .int .u8 0, .int .u8 0, .int .u8 0, .int .u8 0, .int .u8 0, .int .u8 0, .int .u8 0, .int .u8 0, .int .u8 0, .int .u8 0, .int .u8 0, .int .u8 0, .int .u8 0, .int .u8 0, .int .u8 0, .int .u8 0, .int .u8 0, .int .u8 0, .int .u8 0, .int .u8 0, .int .u8 0, .int .u8 0]) }
theorem laid_met (os : Os) : laidMet Tryz.prog Rows.treeApartUptoRow.laid ((laidWorld os).forCall (fun _ _ => 0) ⟨#[], #[.slice none 0 0, .slice none 0 0, vstr []], []⟩).memory :=
  laidMet_of_run' 8 (by kernel_rfl) (by kernel_rfl)
theorem reads (os : Os) {H : Type} (enc : TypeId × Value → H) : ∃ places, DataW.whole enc Tryz.prog ((laidWorld os).forCall (fun _ _ => 0) ⟨#[], #[.slice none 0 0, .slice none 0 0, vstr []], []⟩).memory Tryz.f7.params.toList Rows.treeApartSpec.vars false (#[.slice none 0 0, .slice none 0 0, vstr []] : Array Value).toList 8 = some ([.nil, .nil, .lit (.string [])], [], places) :=
  ⟨[], by kernel_rfl⟩
set_option maxRecDepth 100000 in
theorem lifted (os : Os) (started : os.Started) (H : Type) (enc : TypeId × Value → H) (F : Stop.Interp) :
    ReturnsInHanded {} Tryz.checked os 7 .any ((Rows.OpenSpec.upto Rows.treeApartSpec).preRow enc Tryz.prog Tryz.f7 Rows.treeApartUptoRow.domain false Rows.treeApartUptoRow.laid) (((Rows.OpenSpec.upto Rows.treeApartSpec).at F).post enc Tryz.prog Tryz.f7 false true false false) := by
  obtain ⟨places, hx⟩ := reads os enc
  refine returnsInHanded_of_row (C := Tryz.checked) (s := Rows.OpenSpec.upto Rows.treeApartSpec) own started (by kernel_rfl) Tryz.func7
    (witness_row_at (enc := enc) (C := Tryz.checked) false (laidWorld os) #[.slice none 0 0, .slice none 0 0, vstr []] rfl (by kernel_rfl) (by kernel_rfl) (by kernel_rfl)
      (OpenSpec.preRow_of_cond 8 hx (by kernel_rfl) (fun k hk => by cases hk; kernel_rfl) (by kernel_rfl) (laid_met os))) ?_
  intro W base args ds gs before hval hW _ hcond _ _ _ _
  exact contract H enc W base args ds gs before hval hW (hcond _ rfl)
theorem saidUpto : Rows.TreeApartUptoSaid :=
  OpenClaim.holds_of_cond 7 Tryz.f7 rfl rfl rfl rfl rfl rfl rfl ⟨rfl, rfl, rfl, rfl, rfl⟩ rfl rfl rfl rfl rfl (by kernel_rfl) Tryz.func7 (by kernel_rfl)
    (of_decide_eq_true (by kernel_rfl)) (by unfold Func.isWrapper; first | (rw [if_pos (by decide +kernel)]; kernel_rfl) | (rw [if_neg (by decide +kernel)]; exact ⟨rfl, rfl⟩))
    (fun os started H enc _ F => by rw [OpenClaim.pre_eq_preRow]; exact lifted os started H enc F)
theorem plain (f : FuncId) (fn : Func) (hf : Tryz.pinned.checked.prog.funcNamed "arboretum/arboretumlaw07.TreeApart" = some f) (hfn : Tryz.pinned.checked.prog.funcs[f]? = some fn) :
    true = Tryz.pinned.checked.prog.looks [] ∧ ∀ (j : Nat) t, fn.params[j]? = some t → Tryz.pinned.checked.prog.wantsStandIn t = false := by
  obtain rfl : f = 7 := Option.some.inj ((show Tryz.prog.funcNamed "arboretum/arboretumlaw07.TreeApart" = some 7 by kernel_rfl).symm.trans hf) |>.symm
  obtain rfl : fn = Tryz.f7 := (Option.some.inj (Tryz.func7.symm.trans hfn)).symm
  refine ⟨by kernel_rfl, fun j t ht => ?_⟩
  have h : (Tryz.f7.params.toList.all fun t => !Tryz.pinned.checked.prog.wantsStandIn t) = true := by kernel_rfl
  have h2 := List.all_eq_true.1 h t (Array.mem_def.1 (Array.mem_of_getElem? ht))
  simpa using h2
theorem proved : Rows.TreeApartUptoCardSaid :=
  Claim7.holds_tied_plain_at .later [] _ _ _ _ saidUpto (fun _ h => by cases h) (by kernel_rfl) (fun _ h => by cases h) treeApartUpto_row_tie rfl ⟨rfl, rfl⟩ (by kernel_rfl) rfl plain (by kernel_rfl)
end Go.Proofs.YtnnbelmpbmfdnaaGreatDoor.treeApart

