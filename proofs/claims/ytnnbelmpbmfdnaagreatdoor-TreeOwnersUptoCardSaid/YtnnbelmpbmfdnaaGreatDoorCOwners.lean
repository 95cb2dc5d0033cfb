/- Own work, some of it printed by program, texts that were built one by one and are laid one behind the other here: law 07: transactions of a sound history: walked. | package tree: Owned, Session, Kids: walked. | who owns what in a sound history: plain. | law 07: who owns what: walked. | from what a call is given to the atoms of SlCore, and back to what a statement asks. | strings and rows of strings as arguments. | nested arguments decoded: slices of structs, and what the row says of their weight. | arguments of a bounded bulk (the second form's bound), decoded. | what the arguments are. | treeOwners: the walk, brought to the given second form and its card. -/
import Derived.Test.YtnnbelmpbmfdnaaGreatDoorCOwnersP4
import Derived.Test.YtnnbelmpbmfdnaaGreatDoorCOwnersP2
import Derived.Test.YtnnbelmpbmfdnaaGreatDoorCOwnersP3
import Derived.Test.YtnnbelmpbmfdnaaGreatDoorCOwnersP1
import Derived.Test.YtnnbelmpbmfdnaaGreatDoorRows
import Derived.WalkKit
import Derived.ProofKit
import Derived.OpenShut
import Derived.JoinedCond
import Derived.Carry
import Derived.Deep.Grids
import Derived.Handed
import Derived.Deep.Strs
import Derived.Test.YtnnbelmpbmfdnaaGreatDoorCards
import Derived.Test.YtnnbelmpbmfdnaaGreatDoorTie
import Derived.Deep.DeepHandedRow
import Derived.Lib.LaidTab
/- Own work, by program: law 07: transactions of a sound history: walked. -/
namespace Go.Proofs.YtnnbelmpbmfdnaaGreatDoor
open Go
set_option maxHeartbeats 1000000 in
set_option maxRecDepth 100000 in
theorem txn7_spec (x : Nat) (τ : Tr) (a : Ac0) (q : HP) (ss : List Ac0) (zx K : Int) (hinv : HInv τ K) (hK : K ≤ 1099511620000) (ha : IntsOk a) (hd : a.2.2.2.1.length ≤ 100) (hq : Acts0 q a.2.2.2.2 ss) (hsm : Smalls ss) : Fn Tryz.prog 43 #[vptr x, .agg (ac0C a).toArray, vint zx] [refR x τ, q] fun v L => ∃ (y : Pt) (subs : List Pt), v = .agg (ptC y).toArray ∧ ShapeH τ zx y subs K ∧ TxC y subs ∧ L = [refR x τ, q, txRd y subs] := by
 refine Fn.intro (vs := [vptr x, .agg (ac0C a).toArray, vint zx]) Tryz.func43 rfl rfl ?_
 intro F W
 refine G.rdAny (p := q) hq.cells (by (repeat' constructor)) fun ab cb eab _ => ?_
 have hrd := hq.cells
 rw [eab] at hrd
 have hfew := hinv.ok.few
 have hsf := hinv.ok.sfew
 have hs6 := hsm.few
 have hca : isCell a.2.2.2.2 = true := by rw [eab]; rfl
 have hp5 := pickZ_range a.2.1 (n := 5) (by decide)
 have hp50 := pickZ_range a.2.2.1 (n := 50) (by decide)
 have hp99 := pickZ_range a.2.1 (n := 99) (by decide)
 have hwl : (ownedZ τ (1 + pickZ a.2.1 5)).length ≤ 60 := Nat.le_trans (owned_len τ (1 + pickZ a.2.1 5)) hfew
 refine G.seq (G.region ?_)
 refine G.op (OpSpec.box rfl) (by (repeat' constructor)) rfl ?nx1
 rintro v L' ⟨ba, rfl, rfl⟩
 refine G.op (OpSpec.allocA ze_37) (by (repeat' constructor)) rfl ?nx3
 rintro v L' ⟨b6, rfl, rfl⟩
 refine G.nil ?_
 refine G.ptCast (b := ba) (l' := ac0C a) (by (repeat' constructor)) rfl ?_
 refine G.then_n (G.seq (G.seq (G.region (G.q (Quiet.fieldAddr rfl fo_94_0) rfl ?_))))
 refine G.q (Quiet.load rfl ag_3 (by (repeat' constructor)) (rfl)) rfl ?_
 refine G.op (OpSpec.call Tryz.func21 rfl rfl (vs := [_, _]) rfl (pick7_spec _ _ ha.h1 (by decide))) (by (repeat' constructor)) rfl ?nx7
 rintro v L' ⟨rfl, rfl⟩
 refine G.nil (G.then_n (G.block (G.seq (G.region (G.q (Quiet.int rfl rfl rfl) rfl (G.q (Quiet.assign rfl) rfl (G.nil (G.then_n ?_))))))))
 refine G.condD rfl (fun h23 => ?_) (fun h23 => ?_)
 ·refine G.seq ?_
  refine G.draw [11] [[0, 1, 2, 3, 4, 5, 6, 7, 8, 9, 10, 11]] mixed (by kernel_rfl) ?_
  refine Phases.go [ptc ba _ _] (by (repeat' constructor)) ?_
  refine D.qw [1, 2, 3, 6, 7, 10, 11] rfl (by kernel_rfl) (Quiet.fieldAddr rfl fo_94_1) ?_
  refine D.qw [2, 3, 6, 7, 10, 11] rfl (by kernel_rfl) (Quiet.load rfl ag_3 (by (repeat' constructor)) (rfl)) ?_
  refine D.m rfl (by kernel_rfl) (OpSpec.call Tryz.func21 rfl rfl (vs := [_, _]) rfl (pick7_spec _ _ ha.h2 (by decide))) (by (repeat' constructor)) ?nx12
  refine D.qw [10, 11] rfl (by kernel_rfl) (Quiet.add rfl rfl (by omega)) ?_
  refine D.qw [5, 6, 7, 10, 11] rfl (by kernel_rfl) (Quiet.fieldAddr rfl fo_94_2) ?_
  refine D.qw [6, 7, 10, 11] rfl (by kernel_rfl) (Quiet.load rfl ag_3 (by (repeat' constructor)) (rfl)) ?_
  refine D.m rfl (by kernel_rfl) (OpSpec.call Tryz.func21 rfl rfl (vs := [_, _]) rfl (pick7_spec _ _ ha.h3 (by decide))) (by (repeat' constructor)) ?nx17
  refine D.qw [10, 11] rfl (by kernel_rfl) (Quiet.add rfl rfl (by omega)) ?_
  refine D.qw [9, 10, 11] rfl (by kernel_rfl) (Quiet.fieldAddr rfl fo_94_3) ?_
  refine D.qw [10, 11] rfl (by kernel_rfl) (Quiet.load rfl ag_9 (by (repeat' constructor)) (rfl)) ?_
  refine D.qw [11] rfl (by kernel_rfl) (Quiet.to (v' := .agg (ptC (⟨5, [], a.2.2.2.1, .slice none 0 0, [], (1 + pickZ a.2.1 5), 4 + pickZ a.2.2.1 50, 0, .slice none 0 0⟩ : Pt)).toArray) (Quiet.build (us := [(0, _), (4, _), (5, _), (2, _)]) fl_37 ze_37 rfl rfl (by simp [isCell])) rfl) ?_
  refine D.h rfl (by kernel_rfl) (OpSpec.storeA rfl rfl ?c23 sz_37 ?c26 ?c24 ?c25) (by (repeat' constructor)) ?nx27
  case c23 => exact pt_cells rfl rfl
  case c26 => rfl
  case c24 => simp [ptC]
  case c25 => exact nfz0 _ _
  rintro v L' rfl
  refine D.ph (Phases.fin (G.then_n (G.ret (G.blk_r (G.then_r ?_)))))
  refine G.ptCast (b := b6) (l' := ptC (⟨5, [], a.2.2.2.1, .slice none 0 0, [], (1 + pickZ a.2.1 5), 4 + pickZ a.2.2.1 50, 0, .slice none 0 0⟩ : Pt)) (by (repeat' constructor)) rfl ?_
  refine G.add (p := txRd (⟨5, [], a.2.2.2.1, .slice none 0 0, [], (1 + pickZ a.2.1 5), 4 + pickZ a.2.2.1 50, 0, .slice none 0 0⟩ : Pt) []) (txRd_none rfl rfl rfl) ?_
  exact G.done1 rfl (.cellA rfl ag_37 (by (repeat' constructor)) (by simp [ptC]) rfl) ⟨(⟨5, [], a.2.2.2.1, .slice none 0 0, [], (1 + pickZ a.2.1 5), 4 + pickZ a.2.2.1 50, 0, .slice none 0 0⟩ : Pt), [], rfl, .opens rfl rfl ⟨by show 1 ≤ (1 + pickZ a.2.1 5); omega, by show (1 + pickZ a.2.1 5) ≤ 5; omega⟩ ⟨by show 4 ≤ 4 + pickZ a.2.2.1 50; omega, by show 4 + pickZ a.2.2.1 50 ≤ 53; omega⟩ hd rfl rfl, ⟨rfl, rfl, (fun w hw => by cases hw)⟩, rfl⟩ (by (repeat' constructor)) (by (repeat' constructor))
 ·refine G.seq (G.region (G.q (Quiet.int rfl rfl rfl) rfl (G.q (Quiet.assign rfl) rfl (G.nil (G.then_n ?_)))))
  refine G.condD rfl (fun h36 => ?_) (fun h36 => ?_)
  ·refine G.seq (G.region (G.q (Quiet.fieldAddr rfl fo_94_1) rfl ?_))
   refine G.q (Quiet.load rfl ag_3 (by (repeat' constructor)) (rfl)) rfl ?_
   refine G.op (OpSpec.call Tryz.func21 rfl rfl (vs := [_, _]) rfl (pick7_spec _ _ ha.h2 (by decide))) (by (repeat' constructor)) rfl ?nx31
   rintro v L' ⟨rfl, rfl⟩
   refine G.q (Quiet.add rfl rfl (by omega)) rfl ?_
   refine G.q (Quiet.to (v' := .agg (ptC (⟨6, [], [], .slice none 0 0, [], (1 + pickZ a.2.1 5), 0, 0, (.slice none 0 0)⟩ : Pt)).toArray) (Quiet.build (us := [(0, _), (4, _)]) fl_37 ze_37 rfl rfl (by simp [isCell])) rfl) rfl ?_
   refine G.op (OpSpec.allocA ze_37) (by (repeat' constructor)) rfl ?nx35
   rintro v L' ⟨bT, rfl, rfl⟩
   refine G.op (OpSpec.storeA rfl rfl ?c37 sz_37 ?c40 ?c38 ?c39) (by (repeat' constructor)) rfl ?nx41
   case c37 => exact pt_cells rfl rfl
   case c40 => rfl
   case c38 => simp [ptC]
   case c39 => exact nfz0 _ _
   rintro v L' rfl
   refine G.nil ?_
   refine G.ptCast (b := bT) (l' := ptC (⟨6, [], [], .slice none 0 0, [], (1 + pickZ a.2.1 5), 0, 0, (.slice none 0 0)⟩ : Pt)) (by (repeat' constructor)) rfl ?_
   refine G.then_n (G.seq (G.region (G.q (Quiet.move rfl) rfl ?_)))
   refine G.op (OpSpec.call Tryz.func91 rfl rfl (vs := [_]) rfl (rclone_spec x τ 60 hinv.ok (by omega))) (by (repeat' constructor)) rfl ?nx43
   rintro v L' ⟨u, rfl, rfl⟩
   refine G.q (Quiet.assign rfl) rfl (G.nil (G.then_n (G.seq (G.region (G.q (Quiet.move rfl) rfl (G.q (Quiet.fieldAddr rfl fo_37_4) rfl ?_))))))
   refine G.q (Quiet.load rfl ag_3 (by (repeat' constructor)) (rfl)) rfl ?_
   refine G.op (OpSpec.call Tryz.func66 rfl rfl (vs := [_, _]) rfl (rowned_spec x τ (1 + pickZ a.2.1 5) 60 hinv.ok (by omega))) (by (repeat' constructor)) rfl ?nx48
   rintro v L' ⟨⟨ao, co, rfl⟩, rfl⟩
   refine G.q (Quiet.assign rfl) rfl (G.nil (G.then_n (G.seq (G.seq (G.add (slR_nil 37 8) (G.region (G.q (Quiet.move rfl) rfl (G.q (Quiet.slen rfl Tryz.underlying40 rfl) rfl ?_))))))))
   refine G.q (Quiet.sub rfl rfl (by omega)) rfl ?_
   refine G.q (Quiet.assign rfl) rfl (G.nil (G.then_n (G.block ?_)))
   refine G.rfCast (x := u) (τ' := (zxT (partsZ τ zx []).1 τ.zx)) (by (repeat' constructor)) (rfl) ?_
   refine G.loopK (ι := Nat × (List Pt) × Int × Value) (fun q E => (10, vint ((q.1 : Int) - 1)) :: E) (fun q => [ptc bT (ptC (⟨6, [], [], .slice none 0 0, [], (1 + pickZ a.2.1 5), 0, 0, q.2.2.2⟩ : Pt)) 37, refR u (zxT (partsZ τ zx q.2.1).1 q.2.2.1), slR 37 8 q.2.2.2 q.2.1.length (q.2.1.flatMap ptC)]) (fun q => DelI τ zx K (1 + pickZ a.2.1 5) q.1 q.2.1 ∧ ∃ a c, q.2.2.2 = .slice a q.2.1.length c) (fun q => q.1) ((ownedZ τ (1 + pickZ a.2.1 5)).length, [], τ.zx, .slice none 0 0) (ts := [0, 2, 4, 6, 7, 8, 9]) (.cons rfl (.cons rfl (.cons rfl (.cons rfl (.cons rfl (.cons rfl (.cons rfl (.nil)))))))) (⟨DelI.init hinv _, none, 0, rfl⟩) ⟨rfl, rfl, rfl, rfl, rfl, rfl, rfl, rfl, trivial⟩ (by (repeat' constructor)) ?_
   rintro ⟨j, acc, z, w⟩ ⟨hdel, aw, cw, hw⟩
   dsimp only
   dsimp only at hdel hw
   subst hw
   have hdl := hdel.len
   have hal : ∀ w ∈ acc, w.acl.length ≤ 1 := fun w hw => by rw [(hdel.kinds w hw).2.2.1]; simp
   have hok := parts_ok hinv.ok zx hal z
   refine G.seq (G.seq (G.region (G.q (Quiet.move rfl) rfl (G.q (Quiet.int rfl rfl rfl) rfl (G.nil (G.then_n ?_))))))
   refine G.condD rfl (fun h53 => ?_) (fun h53 => ?_)
   ·obtain ⟨k, rfl⟩ : ∃ k, j = k + 1 := ⟨j - 1, by omega⟩
    rw [show (((k + 1 : Nat) : Int) - 1) = (k : Int) by omega]
    have hk2 : k < (ownedZ τ (1 + pickZ a.2.1 5)).length := by omega
    refine G.slShape (T := 9) (sz := 1) (v := .slice ao (ownedZ τ (1 + pickZ a.2.1 5)).length co) (xs := strs (ownedZ τ (1 + pickZ a.2.1 5))) (by (repeat' constructor)) (by omega) fun bo bo' e0 mbo _ => ?_
    simp only [Value.slice.injEq, true_and] at e0
    obtain ⟨rfl, rfl⟩ := e0
    have hth := hdel.parent hinv
    have hpl := able_len (.inr (owned_able hinv (List.getElem_mem hk2)).1)
    refine G.skip (G.then_n (G.seq (G.block (G.seq (G.region (G.q (Quiet.move rfl) rfl (G.q (Quiet.move rfl) rfl (G.q (Quiet.move rfl) rfl ?_))))))))
    refine G.q (Quiet.indexAddr rfl rfl el_40 (by omega)) rfl ?_
    refine G.q (Quiet.loadRd (sz := 1) (j := k * 1) (p := slR 9 1 _ (ownedZ τ (1 + pickZ a.2.1 5)).length (strs (ownedZ τ (1 + pickZ a.2.1 5)))) rfl ag_9 (by (repeat' constructor)) (fun h hp => slR_rd hp) (by omega) (strs_at hk2)) rfl ?_
    refine G.op (OpSpec.call Tryz.func51 rfl rfl (vs := [_]) rfl (rparent_spec _ ?hs59)) (by (repeat' constructor)) rfl ?nx60
    case hs59 => first | assumption | omega
    rintro v L' ⟨rfl, rfl⟩
    refine G.op (OpSpec.call Tryz.func69 rfl rfl (vs := [_, _]) rfl (rplace_spec u (zxT (partsZ τ zx acc).1 z) (parentZ (ownedZ τ (1 + pickZ a.2.1 5))[k]) (by have := hok.few; omega))) (by (repeat' constructor)) rfl ?nx62
    rintro v L' ⟨rfl, rfl⟩
    refine G.q (Quiet.assign rfl) rfl (G.nil ?_)
    obtain ⟨n, hn, hpn, hkn⟩ := place_get (l := (partsZ τ zx acc).1.nodes) (p := parentZ (ownedZ τ (1 + pickZ a.2.1 5))[k]) (place_iff.2 hth)
    have hpz : placeZ (zxT (partsZ τ zx acc).1 z) (parentZ (ownedZ τ (1 + pickZ a.2.1 5))[k]) = n := hpn
    rw [hpz]
    refine G.rfOpen (x := u) (τ := (zxT (partsZ τ zx acc).1 z)) (by (repeat' constructor)) fun am cm as2 cs2 m hm => ?_
    have hml := nds_len hm
    have hml2 : m.length = (partsZ τ zx acc).1.nodes.length := hml
    have hnm : n < m.length := by omega
    refine G.slShape (T := 131) (sz := 12) (v := .slice am m.length cm) (xs := m.flatMap rnC) (by (repeat' constructor)) (by omega) fun bm bm' e0 mbm _ => ?_
    simp only [Value.slice.injEq, true_and] at e0
    obtain ⟨rfl, rfl⟩ := e0
    have hlk : alook (partsZ τ zx acc).1.nodes (parentZ (ownedZ τ (1 + pickZ a.2.1 5))[k]) = some m[n].2.2 := by have g := nds_get hm (i := n) hnm; have g2 : alook (partsZ τ zx acc).1.nodes ((partsZ τ zx acc).1.nodes[n]).1 = some ((partsZ τ zx acc).1.nodes[n]).2 := al_get (hok.sorted.nodup linB) (i := n) hn; rw [hkn, show (partsZ τ zx acc).1.nodes[n] = (m[n].1, m[n].2.2) from g] at g2; exact g2
    have hv := hdel.ver _ _ hlk
    have hdel2 := hdel.step hinv hlk
    refine G.then_n (G.seq ?_)
    refine G.draw [15, 16] [[0, 1, 2, 3, 4, 5, 6, 7, 8, 9, 10, 11, 12, 13, 14, 15], [16]] mixed (by kernel_rfl) ?_
    refine Phases.go [rnR _ _, ptc u _ _, slR 9 1 _ _ _] (by (repeat' constructor)) ?_
    refine D.q rfl (by kernel_rfl) (Quiet.move rfl) ?_
    refine D.q rfl (by kernel_rfl) (Quiet.move rfl) ?_
    refine D.q rfl (by kernel_rfl) (Quiet.indexAddr rfl rfl el_40 (by omega)) ?_
    refine D.q rfl (by kernel_rfl) (Quiet.loadRd (sz := 1) (j := k * 1) (p := slR 9 1 _ (ownedZ τ (1 + pickZ a.2.1 5)).length (strs (ownedZ τ (1 + pickZ a.2.1 5)))) rfl ag_9 (by (repeat' constructor)) (fun h hp => slR_rd hp) (by omega) (strs_at hk2)) ?_
    refine D.q rfl (by kernel_rfl) (Quiet.move rfl) ?_
    refine D.q rfl (by kernel_rfl) (Quiet.nilp rfl) ?_
    refine D.q rfl (by kernel_rfl) (Quiet.fieldAddr rfl fo_101_0) ?_
    refine D.q rfl (by kernel_rfl) (Quiet.load rfl ag_98 (by (repeat' constructor)) (rfl)) ?_
    refine D.q rfl (by kernel_rfl) (Quiet.move rfl) ?_
    refine D.q rfl (by kernel_rfl) (Quiet.indexAddr rfl rfl el_98 (by omega)) ?_
    refine D.q rfl (by kernel_rfl) (Quiet.fieldAddr rfl fo_131_3) ?_
    refine D.q rfl (by kernel_rfl) (Quiet.fieldAddr rfl fo_43_4) ?_
    refine D.q rfl (by kernel_rfl) (Quiet.loadRd (sz := 12) (j := n * 12 + 7) (p := rnR _ m) rfl ag_3 (by (repeat' constructor)) (fun h hp => slR_rd hp) (by omega) ((rn_cell (l := m) (i := n) (k := 7) (by omega) (by decide)).trans rfl)) ?_
    refine D.q rfl (by kernel_rfl) (Quiet.add rfl rfl (by omega)) ?_
    refine D.q rfl (by kernel_rfl) (Quiet.to (v' := .agg (ptC (⟨2, (ownedZ τ (1 + pickZ a.2.1 5))[k], [], .slice none 0 0, [], 0, m[n].2.2.st.cver + 1, 0, .slice none 0 0⟩ : Pt)).toArray) (Quiet.build (us := [(0, _), (1, _), (5, _)]) fl_37 ze_37 rfl rfl (by simp [isCell])) rfl) ?_
    refine D.h rfl (by kernel_rfl) (OpSpec.allocA ze_37) (by (repeat' constructor)) ?nx78
    rintro v L' ⟨b12, rfl, rfl⟩
    refine D.ph ?_
    refine Phases.go [] (by (repeat' constructor)) ?_
    refine D.h rfl (by kernel_rfl) (OpSpec.storeA rfl rfl ?c80 sz_37 ?c83 ?c81 ?c82) (by (repeat' constructor)) ?nx84
    case c80 => exact pt_cells rfl rfl
    case c83 => rfl
    case c81 => simp [ptC]
    case c82 => exact nfz0 _ _
    rintro v L' rfl
    refine D.ph (Phases.fin ?_)
    refine G.ptCast (b := b12) (l' := ptC (⟨2, (ownedZ τ (1 + pickZ a.2.1 5))[k], [], .slice none 0 0, [], 0, m[n].2.2.st.cver + 1, 0, .slice none 0 0⟩ : Pt)) (by (repeat' constructor)) rfl ?_
    refine G.rfFold (x := u) (τ := (zxT (partsZ τ zx acc).1 z)) (l := m) hm (by (repeat' constructor)) rfl rfl rfl rfl rfl ?_
    refine G.then_n (G.seq (G.region (G.q (Quiet.fieldAddr rfl fo_37_7) rfl ?_)))
    refine G.q (Quiet.load rfl ag_35 (by (repeat' constructor)) (rfl)) rfl ?_
    refine G.q (Quiet.loadAs (vs := ptC (⟨2, (ownedZ τ (1 + pickZ a.2.1 5))[k], [], .slice none 0 0, [], 0, m[n].2.2.st.cver + 1, 0, .slice none 0 0⟩ : Pt)) rfl ag_37 (by (repeat' constructor)) (by simp [ptC]) rfl) rfl ?_
    refine G.op (OpSpec.buildSlice (vs := [_]) el_35 ze_37 rfl rfl rfl rfl (by first | (simp [Value.cells]; done) | (intro v hv; simp only [List.mem_cons, List.not_mem_nil, or_false] at hv; (repeat (first | (subst hv; rfl) | (rcases hv with hv | hv; (subst hv; rfl)))))) (by decide)) (by (repeat' constructor)) rfl ?nx88
    rintro v L' ⟨b13, rfl, rfl⟩
    refine G.op (OpSpec.append1 rfl rfl rfl el_35 ze_37 rfl rfl ?c90 ?c91 (Nat.le_refl _) ?c92 (by decide)) (by (repeat' constructor)) rfl ?nx93
    case c90 => simp only [List.map_cons, List.map_nil, List.flatten_cons, List.flatten_nil, List.append_nil]; exact pt_cells rfl rfl
    case c91 => rfl
    case c92 => first | omega | (simp; omega)
    rintro v L' ⟨⟨a13_4, c13_4, rfl⟩, rfl⟩
    refine G.q (Quiet.fieldAddr rfl fo_37_7) rfl ?_
    refine G.op (OpSpec.store rfl rfl rfl sz_35 ?c96 ?c97) (by (repeat' constructor)) rfl ?nx98
    case c96 => simp [ptC]
    case c97 => exact nfz0 _ _
    rintro v L' rfl
    refine G.nil ?_
    refine G.slCast (T := 37) (sz := 8) (m' := (acc ++ [(⟨2, (ownedZ τ (1 + pickZ a.2.1 5))[k], [], .slice none 0 0, [], 0, m[n].2.2.st.cver + 1, 0, .slice none 0 0⟩ : Pt)]).length) (xs' := (acc ++ [(⟨2, (ownedZ τ (1 + pickZ a.2.1 5))[k], [], .slice none 0 0, [], 0, m[n].2.2.st.cver + 1, 0, .slice none 0 0⟩ : Pt)]).flatMap ptC) (by (repeat' constructor)) (by rw [List.length_append]; rfl) (by rw [List.flatMap_append]; simp; rfl) ?_
    rw [show acc.length + 1 = (acc ++ [(⟨2, (ownedZ τ (1 + pickZ a.2.1 5))[k], [], .slice none 0 0, [], 0, m[n].2.2.st.cver + 1, 0, .slice none 0 0⟩ : Pt)]).length by rw [List.length_append]; rfl]
    refine G.then_n (G.add (p := nilA) nilA_ok (G.region (G.q (Quiet.move rfl) rfl (G.q (Quiet.move rfl) rfl ?_))))
    refine G.q (Quiet.loadAs (vs := ptC (⟨2, (ownedZ τ (1 + pickZ a.2.1 5))[k], [], .slice none 0 0, [], 0, m[n].2.2.st.cver + 1, 0, .slice none 0 0⟩ : Pt)) rfl ag_37 (by (repeat' constructor)) (by simp [ptC]) rfl) rfl ?_
    refine G.q (Quiet.buildN (pl := [(0, 1), (1, 1), (2, 1), (3, 8)]) (us := [(0, vint zx), (3, .agg (ptC (⟨2, (ownedZ τ (1 + pickZ a.2.1 5))[k], [], .slice none 0 0, [], 0, m[n].2.2.st.cver + 1, 0, .slice none 0 0⟩ : Pt)).toArray)]) (cells := [vint zx, vint 0, vint 0] ++ ptC (⟨2, (ownedZ τ (1 + pickZ a.2.1 5))[k], [], .slice none 0 0, [], 0, m[n].2.2.st.cver + 1, 0, .slice none 0 0⟩ : Pt)) Tryz.underlying39 (by kernel_rfl) ze_39 rfl (fill_entry _ _ _ _ _ _ _ _ _)) rfl ?_
    refine G.op (OpSpec.call Tryz.func26 rfl rfl (vs := [_, _]) rfl (rapply_spec u (zxT (partsZ τ zx acc).1 z) zx 0 0 (⟨2, (ownedZ τ (1 + pickZ a.2.1 5))[k], [], .slice none 0 0, [], 0, m[n].2.2.st.cver + 1, 0, .slice none 0 0⟩ : Pt) [] nilA ⟨⟨fun h _ => rd_none 2 h, by simp, by show ((ownedZ τ (1 + pickZ a.2.1 5))[k]).length ≤ 1048576; omega, rfl, rfl⟩, fun h _ => rd_none 8 h, by simp, fun w hw => by cases hw⟩ (60 + acc.length) hok (by simp; omega))) (by (repeat' constructor)) rfl ?nx103
    rintro v L' ⟨ue, ee, rfl, he, hue, rfl⟩
    refine G.nil ?_
    refine G.rfCast (x := u) (τ' := (zxT (partsZ τ zx (acc ++ [(⟨2, (ownedZ τ (1 + pickZ a.2.1 5))[k], [], .slice none 0 0, [], 0, m[n].2.2.st.cver + 1, 0, .slice none 0 0⟩ : Pt)])).1 zx)) (by (repeat' constructor)) (by have h1 := app_part (τ := (zxT (partsZ τ zx acc).1 z)) (e := ⟨zx, 0, 0, (⟨2, (ownedZ τ (1 + pickZ a.2.1 5))[k], [], .slice none 0 0, [], 0, m[n].2.2.st.cver + 1, 0, .slice none 0 0⟩ : Pt), []⟩) (.inl (by show (2 : Int) ≤ 4; decide)); rw [parts_snoc]; dsimp only; rw [part_zx'] at h1; exact h1.symm) ?_
    refine G.blk_n (G.then_n (G.region (G.q (Quiet.move rfl) rfl ?_)))
    refine G.q (Quiet.sub rfl rfl (by omega)) rfl ?_
    refine G.q (Quiet.assign rfl) rfl (G.nil (G.then_n ?_))
    refine G.ptCast (b := bT) (l' := ptC (⟨6, [], [], .slice none 0 0, [], (1 + pickZ a.2.1 5), 0, 0, (.slice a13_4 (acc ++ [(⟨2, (ownedZ τ (1 + pickZ a.2.1 5))[k], [], .slice none 0 0, [], 0, m[n].2.2.st.cver + 1, 0, .slice none 0 0⟩ : Pt)]).length c13_4)⟩ : Pt)) (by (repeat' constructor)) rfl ?_
    exact G.roundK ((k, acc ++ [(⟨2, (ownedZ τ (1 + pickZ a.2.1 5))[k], [], .slice none 0 0, [], 0, m[n].2.2.st.cver + 1, 0, .slice none 0 0⟩ : Pt)], zx, .slice a13_4 (acc ++ [(⟨2, (ownedZ τ (1 + pickZ a.2.1 5))[k], [], .slice none 0 0, [], 0, m[n].2.2.st.cver + 1, 0, .slice none 0 0⟩ : Pt)]).length c13_4)) (⟨hdel2, _, _, rfl⟩) (by dsimp only; omega) ⟨rfl, rfl, rfl, rfl, rfl, rfl, rfl, rfl, trivial⟩ (by (repeat' constructor)) (by ((repeat (apply Have.cons; (repeat (first | exact Pick.here | apply Pick.there)))); apply Have.base; repeat' constructor))
   ·have hj0 : j = 0 := by omega
    subst hj0
    refine G.exit (G.then_e (G.then_e (G.blk_e (G.then_n (G.seq (G.region ?_))))))
    refine G.q (Quiet.loadAs (vs := ptC (⟨6, [], [], .slice none 0 0, [], (1 + pickZ a.2.1 5), 0, 0, (.slice aw acc.length cw)⟩ : Pt)) rfl ag_37 (by (repeat' constructor)) (by simp [ptC]) rfl) rfl ?_
    refine G.op (OpSpec.storeA rfl rfl ?c108 sz_37 ?c111 ?c109 ?c110) (by (repeat' constructor)) rfl ?nx112
    case c108 => exact pt_cells rfl rfl
    case c111 => rfl
    case c109 => simp [ptC]
    case c110 => exact nfz0 _ _
    rintro v L' rfl
    refine G.nil (G.then_n (G.ret (G.blk_r (G.then_r ?_))))
    refine G.add (p := aclsA acc) (fun h w hw => by obtain ⟨-, e1, e2, -⟩ := hdel.kinds w hw; rw [e1, e2]; exact rd_none 2 h) ?_
    refine G.ptCast (b := b6) (l' := ptC (⟨6, [], [], .slice none 0 0, [], (1 + pickZ a.2.1 5), 0, 0, (.slice aw acc.length cw)⟩ : Pt)) (by (repeat' constructor)) rfl ?_
    refine G.fold (p := txRd (⟨6, [], [], .slice none 0 0, [], (1 + pickZ a.2.1 5), 0, 0, (.slice aw acc.length cw)⟩ : Pt) acc) (by (repeat' constructor)) (fun _ hp => txRd_of (T := 37) (x := (⟨6, [], [], .slice none 0 0, [], (1 + pickZ a.2.1 5), 0, 0, (.slice aw acc.length cw)⟩ : Pt)) rfl rfl hp) ?_
    exact G.done1 rfl (.cellA rfl ag_37 (by (repeat' constructor)) (by simp [ptC]) rfl) ⟨(⟨6, [], [], .slice none 0 0, [], (1 + pickZ a.2.1 5), 0, 0, (.slice aw acc.length cw)⟩ : Pt), acc, rfl, .close rfl (DelI.closeH (x := (⟨6, [], [], .slice none 0 0, [], (1 + pickZ a.2.1 5), 0, 0, (.slice aw acc.length cw)⟩ : Pt)) hdel ⟨by show 1 ≤ (1 + pickZ a.2.1 5); omega, by show (1 + pickZ a.2.1 5) ≤ 5; omega⟩) hdel.parts rfl rfl (by have := hdel.len; omega) rfl, ⟨rfl, rfl, (fun w hw => by obtain ⟨-, e1, -, e2⟩ := hdel.kinds w hw; rw [e1, e2]; exact ⟨rfl, rfl⟩)⟩, rfl⟩ (by (repeat' constructor)) (by (repeat' constructor))
  ·refine G.seq (G.region (G.q (Quiet.int rfl rfl rfl) rfl (G.q (Quiet.assign rfl) rfl (G.nil (G.then_n ?_)))))
   refine G.condD rfl (fun h90 => ?_) (fun h90 => ?_)
   ·refine G.seq (G.region ?_)
    refine G.q (Quiet.to (v' := .agg (ptC (⟨7, [], [], .slice none 0 0, [], 0, 0, 0, (.slice none 0 0)⟩ : Pt)).toArray) (Quiet.build (us := [(0, _)]) fl_37 ze_37 rfl rfl (by simp [isCell])) rfl) rfl ?_
    refine G.op (OpSpec.allocA ze_37) (by (repeat' constructor)) rfl ?nx115
    rintro v L' ⟨bT, rfl, rfl⟩
    refine G.op (OpSpec.storeA rfl rfl ?c117 sz_37 ?c120 ?c118 ?c119) (by (repeat' constructor)) rfl ?nx121
    case c117 => exact pt_cells rfl rfl
    case c120 => rfl
    case c118 => simp [ptC]
    case c119 => exact nfz0 _ _
    rintro v L' rfl
    refine G.nil ?_
    refine G.ptCast (b := bT) (l' := ptC (⟨7, [], [], .slice none 0 0, [], 0, 0, 0, (.slice none 0 0)⟩ : Pt)) (by (repeat' constructor)) rfl ?_
    refine G.then_n (G.seq (G.region (G.q (Quiet.move rfl) rfl ?_)))
    refine G.op (OpSpec.call Tryz.func91 rfl rfl (vs := [_]) rfl (rclone_spec x τ 60 hinv.ok (by omega))) (by (repeat' constructor)) rfl ?nx123
    rintro v L' ⟨u, rfl, rfl⟩
    refine G.q (Quiet.assign rfl) rfl (G.nil (G.then_n (G.seq (G.seq (G.add (slR_nil 37 8) (G.add (p := aclsA []) aclsA_nil (G.region (G.q (Quiet.assign rfl) rfl (G.nil (G.then_n (G.block ?_)))))))))))
    refine G.rfCast (x := u) (τ' := (zxT (partsZ τ zx []).1 τ.zx)) (by (repeat' constructor)) (rfl) ?_
    refine G.loopK (ι := Nat × (List Pt) × Int × Value) (fun q E => (15, vint q.1) :: E) (fun q => [ptc bT (ptC (⟨7, [], [], .slice none 0 0, [], 0, 0, 0, q.2.2.2⟩ : Pt)) 37, refR u (zxT (partsZ τ zx q.2.1).1 q.2.2.1), slR 37 8 q.2.2.2 q.2.1.length (q.2.1.flatMap ptC), aclsA q.2.1]) (fun q => (q.1 ≤ ss.length ∧ q.1 ≤ 6 ∧ q.2.1.length ≤ q.1) ∧ PartsH τ zx q.2.1 K ∧ HInv (partsZ τ zx q.2.1).1 (K + q.2.1.length) ∧ (∀ y ∈ q.2.1, isCell y.aclV = true ∧ isCell y.subsV = true) ∧ ∃ a c, q.2.2.2 = .slice a q.2.1.length c) (fun q => ss.length - q.1) (0, [], τ.zx, .slice none 0 0) (ts := [0, 2, 4, 6, 13, 14]) (.cons rfl (.cons rfl (.cons rfl (.cons rfl (.cons rfl (.cons rfl (.nil))))))) (⟨⟨Nat.zero_le _, Nat.zero_le _, Nat.le_refl _⟩, (fun i hi => by simp at hi), hinv.more (by simp), (fun w hw => by cases hw), none, 0, rfl⟩) ⟨rfl, rfl, rfl, rfl, rfl, rfl, rfl, trivial⟩ (by (repeat' constructor)) ?_
    rintro ⟨i, acc, z, w⟩ ⟨⟨hi, hi6, hai⟩, hps, hiv, hcs, aw, cw, hw⟩
    dsimp only
    dsimp only at hi hi6 hai hps hiv hcs hw
    subst hw
    have hivz := hiv.zx z
    refine G.seq (G.seq (G.region (G.q (Quiet.move rfl) rfl (G.q (Quiet.fieldAddr rfl fo_94_4) rfl ?_))))
    refine G.q (Quiet.as (v' := .slice ab ss.length cb) (by exact eab) (Quiet.load rfl ag_22 (by (repeat' constructor)) (rfl))) rfl ?_
    refine G.q (Quiet.slen rfl Tryz.underlying22 rfl) rfl (G.q (Quiet.int rfl rfl rfl) rfl (G.q (Quiet.move rfl) rfl ?_))
    refine G.dec (t := 100) rfl (fun h20_100 => ?_) (fun h20_100 => ?_)
    ·refine G.kDT (t := 99) rfl h20_100 (G.grun (t := 100) rfl rfl rfl (G.q (Quiet.move rfl) rfl (G.grun (t := 100) rfl rfl rfl (G.q (Quiet.int rfl rfl rfl) rfl (G.q (Quiet.pickT rfl rfl) rfl (G.nil (G.then_n ?_)))))))
     refine G.condD rfl (fun h103 => ?_) (fun h103 => ?_)
     ·have hi2 : i < ss.length := by omega
      refine G.rdShape (p := q) hrd (by (repeat' constructor)) (by omega) fun bb ob e1 => ?_
      subst e1
      obtain ⟨hio, hdo⟩ := hsm.ok _ (List.getElem_mem hi2)
      refine G.skip (G.then_n (G.seq (G.block (G.seq (G.region (G.q (Quiet.move rfl) rfl (G.q (Quiet.fieldAddr rfl fo_94_4) rfl ?_)))))))
      refine G.q (Quiet.as (v' := .slice (some ⟨bb, ob, none⟩) ss.length cb) (by exact eab) (Quiet.load rfl ag_22 (by (repeat' constructor)) (rfl))) rfl ?_
      refine G.q (Quiet.move rfl) rfl ?_
      refine G.q (Quiet.indexAddr rfl rfl el_22 (by omega)) rfl ?_
      refine G.q (Quiet.loadRdA (sz := 5) (j := i * 5) (k := 5) (p := q) (vs := ac0C ss[i]) rfl ag_94 (by (repeat' constructor)) hrd (by simp) (by omega) (by omega) (flatMap_at (f := ac0C) (sz := 5) (fun _ _ => rfl) (by omega))) rfl ?_
      refine G.op (OpSpec.call Tryz.func92 rfl rfl (vs := [_, _, _]) rfl (part7_spec u (zxT (partsZ τ zx acc).1 z) ss[i] (K + acc.length) hivz (by omega) hio hdo)) (by (repeat' constructor)) rfl ?nx139
      rintro v L' ⟨y, b, rfl, hP, hB, rfl⟩
      refine G.q (Quiet.move rfl) rfl (G.q (Quiet.extract rfl rfl) rfl (G.q (Quiet.extract rfl rfl) rfl ?_))
      refine G.op (OpSpec.allocA ze_37) (by (repeat' constructor)) rfl ?nx143
      rintro v L' ⟨b16, rfl, rfl⟩
      refine G.op (OpSpec.storeA rfl rfl ?c145 sz_37 ?c148 ?c146 ?c147) (by (repeat' constructor)) rfl ?nx149
      case c145 => exact pt_cells hB.cell (by rw [hB.subs]; rfl)
      case c148 => rfl
      case c146 => simp [ptC]
      case c147 => exact nfz0 _ _
      rintro v L' rfl
      refine G.q (Quiet.assign rfl) rfl (G.nil ?_)
      refine G.ptCast (b := b16) (l' := ptC y) (by (repeat' constructor)) rfl ?_
      have htx : TxA (rdO 2 y.aclV y.acl.length (y.acl.flatMap acC)) y [] := ⟨⟨fun h hp => hp, by have := hB.acl; omega, by have := hB.path; omega, by rw [hB.subs]; rfl, hB.cell⟩, fun h _ => by rw [hB.subs]; exact rd_none 8 h, by simp, fun w hw => by cases hw⟩
      refine G.then_n (G.seq (G.region (G.q (Quiet.move rfl) rfl (G.q (Quiet.move rfl) rfl ?_))))
      refine G.bool (t := 117) rfl (fun h23_117 => ?_) (fun h23_117 => ?_)
      ·have hb1 : b = true := h23_117
       have hPH := (hP hb1).congr (υ := (partsZ τ zx acc).1) rfl (by rfl)
       refine G.kB (t := 115) rfl h23_117 (G.kB (t := 17) rfl h23_117 (G.kB (t := 116) rfl h23_117 (G.grun (t := 117) rfl rfl rfl (G.q (Quiet.move rfl) rfl (G.grun (t := 117) rfl rfl rfl (G.q (Quiet.move rfl) rfl (G.grun (t := 117) rfl rfl rfl ?_)))))))
       refine G.q (Quiet.loadAs (vs := ptC y) rfl ag_37 (by (repeat' constructor)) (by simp [ptC]) rfl) rfl ?_
       refine G.grun (t := 117) rfl rfl rfl ?_
       refine G.q (Quiet.buildN (pl := [(0, 1), (1, 1), (2, 1), (3, 8)]) (us := [(0, vint zx), (3, .agg (ptC y).toArray)]) (cells := [vint zx, vint 0, vint 0] ++ ptC y) Tryz.underlying39 (by kernel_rfl) ze_39 rfl (fill_entry _ _ _ _ _ _ _ _ _)) rfl ?_
       refine G.grun (t := 117) rfl rfl rfl ?_
       refine G.op (OpSpec.call Tryz.func45 rfl rfl (vs := [_, _]) rfl (rsound_spec u (zxT (partsZ τ zx acc).1 z) zx 0 0 y [] _ htx 60 hivz.ok (by simp))) (by (repeat' constructor)) rfl ?nx154
       rintro v L' ⟨rfl, rfl⟩
       refine G.q (Quiet.pickT rfl rfl) rfl (G.nil (G.then_n ?_))
       refine G.condB rfl (fun h123 => ?_) (fun h123 => ?_)
       ·have hsd : soundZ (partsZ τ zx acc).1 zx y [] = true := (sound_zx hPH.kind.2).symm.trans h123
        have hiv2 : HInv (partsZ τ zx (acc ++ [y])).1 (K + (acc ++ [y]).length) := by rw [parts_snoc, List.length_append]; exact (hiv.part' hsd hPH).more (by simp; omega)
        have hps2 := hps.snoc hPH
        refine G.seq (G.region (G.q (Quiet.fieldAddr rfl fo_37_7) rfl ?_))
        refine G.q (Quiet.load rfl ag_35 (by (repeat' constructor)) (rfl)) rfl ?_
        refine G.q (Quiet.loadAs (vs := ptC y) rfl ag_37 (by (repeat' constructor)) (by simp [ptC]) rfl) rfl ?_
        refine G.op (OpSpec.buildSlice (vs := [_]) el_35 ze_37 rfl rfl rfl rfl (by first | (simp [Value.cells]; done) | (intro v hv; simp only [List.mem_cons, List.not_mem_nil, or_false] at hv; (repeat (first | (subst hv; rfl) | (rcases hv with hv | hv; (subst hv; rfl)))))) (by decide)) (by (repeat' constructor)) rfl ?nx159
        rintro v L' ⟨b24, rfl, rfl⟩
        refine G.op (OpSpec.append1 rfl rfl rfl el_35 ze_37 rfl rfl ?c161 ?c162 (Nat.le_refl _) ?c163 (by decide)) (by (repeat' constructor)) rfl ?nx164
        case c161 => simp only [List.map_cons, List.map_nil, List.flatten_cons, List.flatten_nil, List.append_nil]; exact pt_cells hB.cell (by rw [hB.subs]; rfl)
        case c162 => rfl
        case c163 => first | omega | (simp; omega)
        rintro v L' ⟨⟨a24_4, c24_4, rfl⟩, rfl⟩
        refine G.q (Quiet.fieldAddr rfl fo_37_7) rfl ?_
        refine G.op (OpSpec.store rfl rfl rfl sz_35 ?c167 ?c168) (by (repeat' constructor)) rfl ?nx169
        case c167 => simp [ptC]
        case c168 => exact nfz0 _ _
        rintro v L' rfl
        refine G.nil ?_
        refine G.slCast (T := 37) (sz := 8) (m' := (acc ++ [y]).length) (xs' := (acc ++ [y]).flatMap ptC) (by (repeat' constructor)) (by rw [List.length_append]; rfl) (by rw [List.flatMap_append]; simp; rfl) ?_
        rw [show acc.length + 1 = (acc ++ [y]).length by rw [List.length_append]; rfl]
        refine G.then_n (G.region (G.q (Quiet.move rfl) rfl (G.q (Quiet.move rfl) rfl ?_)))
        refine G.q (Quiet.loadAs (vs := ptC y) rfl ag_37 (by (repeat' constructor)) (by simp [ptC]) rfl) rfl ?_
        refine G.q (Quiet.buildN (pl := [(0, 1), (1, 1), (2, 1), (3, 8)]) (us := [(0, vint zx), (3, .agg (ptC y).toArray)]) (cells := [vint zx, vint 0, vint 0] ++ ptC y) Tryz.underlying39 (by kernel_rfl) ze_39 rfl (fill_entry _ _ _ _ _ _ _ _ _)) rfl ?_
        refine G.op (OpSpec.call Tryz.func26 rfl rfl (vs := [_, _]) rfl (rapply_spec u (zxT (partsZ τ zx acc).1 z) zx 0 0 y [] _ htx 60 hivz.ok (by simp))) (by (repeat' constructor)) rfl ?nx174
        rintro v L' ⟨ue, ee, rfl, he, hue, rfl⟩
        refine G.nil ?_
        refine G.rfCast (x := u) (τ' := (zxT (partsZ τ zx (acc ++ [y])).1 zx)) (by (repeat' constructor)) (by have h1 := app_part (τ := (zxT (partsZ τ zx acc).1 z)) (e := ⟨zx, 0, 0, y, []⟩) (.inl hPH.kind.2); rw [parts_snoc]; dsimp only; rw [part_zx'] at h1; exact h1.symm) ?_
        refine G.fold (p := aclsA (acc ++ [y])) (by (repeat' constructor)) (fun _ hp => aclsA_snoc hp) ?_
        refine G.blk_n (G.then_n (G.region (G.q (Quiet.move rfl) rfl ?_)))
        refine G.q (Quiet.add rfl rfl (by omega)) rfl ?_
        refine G.q (Quiet.assign rfl) rfl (G.nil (G.then_n ?_))
        refine G.ptCast (b := bT) (l' := ptC (⟨7, [], [], .slice none 0 0, [], 0, 0, 0, (.slice a24_4 (acc ++ [y]).length c24_4)⟩ : Pt)) (by (repeat' constructor)) rfl ?_
        exact G.roundK ((i + 1, acc ++ [y], zx, .slice a24_4 (acc ++ [y]).length c24_4)) (⟨⟨by dsimp only; omega, by dsimp only; omega, by dsimp only; rw [List.length_append]; simp; omega⟩, hps2, hiv2, (fun w hw => by rcases List.mem_append.1 hw with hw | hw; exact hcs w hw; rw [List.mem_singleton] at hw; subst hw; exact ⟨hB.cell, by rw [hB.subs]; rfl⟩), _, _, rfl⟩) (by dsimp only; omega) ⟨rfl, rfl, rfl, rfl, rfl, rfl, rfl, trivial⟩ (by (repeat' constructor)) (by ((repeat (apply Have.cons; (repeat (first | exact Pick.here | apply Pick.there)))); apply Have.base; repeat' constructor))
       ·refine G.skip (G.blk_n (G.then_n (G.region (G.q (Quiet.move rfl) rfl ?_))))
        refine G.q (Quiet.add rfl rfl (by omega)) rfl ?_
        refine G.q (Quiet.assign rfl) rfl (G.nil (G.then_n ?_))
        exact G.roundK ((i + 1, acc, z, .slice aw acc.length cw)) (⟨⟨by dsimp only; omega, by dsimp only; omega, by dsimp only; omega⟩, hps, hiv, hcs, _, _, rfl⟩) (by dsimp only; omega) ⟨rfl, rfl, rfl, rfl, rfl, rfl, rfl, trivial⟩ (by (repeat' constructor)) (by ((repeat (apply Have.cons; (repeat (first | exact Pick.here | apply Pick.there)))); apply Have.base; repeat' constructor))
      ·refine G.kB (t := 115) rfl h23_117 (G.kB (t := 17) rfl h23_117 (G.kB (t := 116) rfl h23_117 (G.gskip (t := 117) rfl rfl rfl rfl (G.gskip (t := 117) rfl rfl rfl rfl (G.gskip (t := 117) rfl rfl rfl rfl (G.gskip (t := 117) rfl rfl rfl rfl (G.gskip (t := 117) rfl rfl rfl rfl (G.q (Quiet.pickF rfl rfl) rfl (G.nil (G.then_n (G.condF rfl (G.skip (G.blk_n (G.then_n (G.region (G.q (Quiet.move rfl) rfl ?_))))))))))))))))
       refine G.q (Quiet.add rfl rfl (by omega)) rfl ?_
       refine G.q (Quiet.assign rfl) rfl (G.nil (G.then_n ?_))
       exact G.roundK ((i + 1, acc, z, .slice aw acc.length cw)) (⟨⟨by dsimp only; omega, by dsimp only; omega, by dsimp only; omega⟩, hps, hiv, hcs, _, _, rfl⟩) (by dsimp only; omega) ⟨rfl, rfl, rfl, rfl, rfl, rfl, rfl, trivial⟩ (by (repeat' constructor)) (by ((repeat (apply Have.cons; (repeat (first | exact Pick.here | apply Pick.there)))); apply Have.base; repeat' constructor))
     ·refine G.exit (G.then_e (G.then_e (G.blk_e (G.then_n (G.seq (G.region ?_))))))
      refine G.q (Quiet.loadAs (vs := ptC (⟨7, [], [], .slice none 0 0, [], 0, 0, 0, (.slice aw acc.length cw)⟩ : Pt)) rfl ag_37 (by (repeat' constructor)) (by simp [ptC]) rfl) rfl ?_
      refine G.op (OpSpec.storeA rfl rfl ?c184 sz_37 ?c187 ?c185 ?c186) (by (repeat' constructor)) rfl ?nx188
      case c184 => exact pt_cells rfl rfl
      case c187 => rfl
      case c185 => simp [ptC]
      case c186 => exact nfz0 _ _
      rintro v L' rfl
      refine G.nil (G.then_n (G.ret (G.blk_r (G.then_r ?_))))
      refine G.ptCast (b := b6) (l' := ptC (⟨7, [], [], .slice none 0 0, [], 0, 0, 0, (.slice aw acc.length cw)⟩ : Pt)) (by (repeat' constructor)) rfl ?_
      refine G.fold (p := txRd (⟨7, [], [], .slice none 0 0, [], 0, 0, 0, (.slice aw acc.length cw)⟩ : Pt) acc) (by (repeat' constructor)) (fun _ hp => txRd_of (T := 37) (x := (⟨7, [], [], .slice none 0 0, [], 0, 0, 0, (.slice aw acc.length cw)⟩ : Pt)) rfl rfl hp) ?_
      exact G.done1 rfl (.cellA rfl ag_37 (by (repeat' constructor)) (by simp [ptC]) rfl) ⟨(⟨7, [], [], .slice none 0 0, [], 0, 0, 0, (.slice aw acc.length cw)⟩ : Pt), acc, rfl, .multi rfl hps rfl rfl (by omega) rfl, ⟨rfl, rfl, hcs⟩, rfl⟩ (by (repeat' constructor)) (by (repeat' constructor))
    ·refine G.kDF (t := 99) rfl h20_100 (G.gskip (t := 100) rfl rfl rfl rfl (G.gskip (t := 100) rfl rfl rfl rfl (G.q (Quiet.pickF rfl rfl) rfl (G.nil (G.then_n (G.condF rfl (G.exit (G.then_e (G.then_e (G.blk_e (G.then_n (G.seq (G.region ?_)))))))))))))
     refine G.q (Quiet.loadAs (vs := ptC (⟨7, [], [], .slice none 0 0, [], 0, 0, 0, (.slice aw acc.length cw)⟩ : Pt)) rfl ag_37 (by (repeat' constructor)) (by simp [ptC]) rfl) rfl ?_
     refine G.op (OpSpec.storeA rfl rfl ?c191 sz_37 ?c194 ?c192 ?c193) (by (repeat' constructor)) rfl ?nx195
     case c191 => exact pt_cells rfl rfl
     case c194 => rfl
     case c192 => simp [ptC]
     case c193 => exact nfz0 _ _
     rintro v L' rfl
     refine G.nil (G.then_n (G.ret (G.blk_r (G.then_r ?_))))
     refine G.ptCast (b := b6) (l' := ptC (⟨7, [], [], .slice none 0 0, [], 0, 0, 0, (.slice aw acc.length cw)⟩ : Pt)) (by (repeat' constructor)) rfl ?_
     refine G.fold (p := txRd (⟨7, [], [], .slice none 0 0, [], 0, 0, 0, (.slice aw acc.length cw)⟩ : Pt) acc) (by (repeat' constructor)) (fun _ hp => txRd_of (T := 37) (x := (⟨7, [], [], .slice none 0 0, [], 0, 0, 0, (.slice aw acc.length cw)⟩ : Pt)) rfl rfl hp) ?_
     exact G.done1 rfl (.cellA rfl ag_37 (by (repeat' constructor)) (by simp [ptC]) rfl) ⟨(⟨7, [], [], .slice none 0 0, [], 0, 0, 0, (.slice aw acc.length cw)⟩ : Pt), acc, rfl, .multi rfl hps rfl rfl (by omega) rfl, ⟨rfl, rfl, hcs⟩, rfl⟩ (by (repeat' constructor)) (by (repeat' constructor))
   ·refine G.seq (G.region (G.q (Quiet.int rfl rfl rfl) rfl (G.q (Quiet.assign rfl) rfl (G.nil (G.then_n ?_)))))
    refine G.condD rfl (fun h136 => ?_) (fun h136 => ?_)
    ·refine G.seq (G.region (G.q (Quiet.fieldAddr rfl fo_94_1) rfl ?_))
     refine G.q (Quiet.load rfl ag_3 (by (repeat' constructor)) (rfl)) rfl ?_
     refine G.op (OpSpec.call Tryz.func21 rfl rfl (vs := [_, _]) rfl (pick7_spec _ _ ha.h2 (by decide))) (by (repeat' constructor)) rfl ?nx199
     rintro v L' ⟨rfl, rfl⟩
     refine G.q (Quiet.to (v' := .agg (ptC (⟨8, [], [], .slice none 0 0, [], 0, -1, pickZ a.2.1 99, .slice none 0 0⟩ : Pt)).toArray) (Quiet.build (us := [(0, _), (6, _), (5, _)]) fl_37 ze_37 rfl rfl (by simp [isCell])) rfl) rfl ?_
     refine G.op (OpSpec.storeA rfl rfl ?c202 sz_37 ?c205 ?c203 ?c204) (by (repeat' constructor)) rfl ?nx206
     case c202 => exact pt_cells rfl rfl
     case c205 => rfl
     case c203 => simp [ptC]
     case c204 => exact nfz0 _ _
     rintro v L' rfl
     refine G.nil (G.then_n (G.ret (G.blk_r (G.then_r ?_))))
     refine G.ptCast (b := b6) (l' := ptC (⟨8, [], [], .slice none 0 0, [], 0, -1, pickZ a.2.1 99, .slice none 0 0⟩ : Pt)) (by (repeat' constructor)) rfl ?_
     refine G.add (p := txRd (⟨8, [], [], .slice none 0 0, [], 0, -1, pickZ a.2.1 99, .slice none 0 0⟩ : Pt) []) (txRd_none rfl rfl rfl) ?_
     exact G.done1 rfl (.cellA rfl ag_37 (by (repeat' constructor)) (by simp [ptC]) rfl) ⟨(⟨8, [], [], .slice none 0 0, [], 0, -1, pickZ a.2.1 99, .slice none 0 0⟩ : Pt), [], rfl, .error rfl rfl ⟨by show 0 ≤ pickZ a.2.1 99; omega, by show pickZ a.2.1 99 < 99; omega⟩ rfl rfl rfl rfl, ⟨rfl, rfl, (fun w hw => by cases hw)⟩, rfl⟩ (by (repeat' constructor)) (by (repeat' constructor))
    ·refine G.seq (G.region (G.q (Quiet.int rfl rfl rfl) rfl (G.q (Quiet.assign rfl) rfl (G.nil (G.then_n ?_)))))
     refine G.condD rfl (fun h142 => ?_) (fun h142 => ?_)
     ·refine G.seq (G.region ?_)
      refine G.q (Quiet.to (v' := .agg (ptC (⟨0, [], [], .slice none 0 0, [], 0, 0, 0, .slice none 0 0⟩ : Pt)).toArray) (Quiet.build (us := [(0, _)]) fl_37 ze_37 rfl rfl (by simp [isCell])) rfl) rfl ?_
      refine G.op (OpSpec.storeA rfl rfl ?c209 sz_37 ?c212 ?c210 ?c211) (by (repeat' constructor)) rfl ?nx213
      case c209 => exact pt_cells rfl rfl
      case c212 => rfl
      case c210 => simp [ptC]
      case c211 => exact nfz0 _ _
      rintro v L' rfl
      refine G.nil (G.then_n (G.ret (G.blk_r (G.then_r ?_))))
      refine G.ptCast (b := b6) (l' := ptC (⟨0, [], [], .slice none 0 0, [], 0, 0, 0, .slice none 0 0⟩ : Pt)) (by (repeat' constructor)) rfl ?_
      refine G.add (p := txRd (⟨0, [], [], .slice none 0 0, [], 0, 0, 0, .slice none 0 0⟩ : Pt) []) (txRd_none rfl rfl rfl) ?_
      exact G.done1 rfl (.cellA rfl ag_37 (by (repeat' constructor)) (by simp [ptC]) rfl) ⟨(⟨0, [], [], .slice none 0 0, [], 0, 0, 0, .slice none 0 0⟩ : Pt), [], rfl, .part rfl ⟨⟨by show (0 : Int) ≤ 0; decide, by show (0 : Int) ≤ 4; decide⟩, by simp, by simp, .inl rfl, .inl rfl, ⟨by show (0 : Int) ≤ 0; decide, by show (0 : Int) ≤ K + 1; have := hinv.zx0; omega⟩, rfl, (fun e => by cases e)⟩, ⟨rfl, rfl, (fun w hw => by cases hw)⟩, rfl⟩ (by (repeat' constructor)) (by (repeat' constructor))
     ·refine G.skip (G.blk_n (G.then_n (G.seq (G.region (G.q (Quiet.move rfl) rfl ?_)))))
      refine G.q (Quiet.loadAs (vs := ac0C a) rfl ag_94 (by (repeat' constructor)) (by simp [ac0C]) rfl) rfl ?_
      refine G.op (OpSpec.call Tryz.func92 rfl rfl (vs := [_, _, _]) rfl (part7_spec x τ a K hinv (by omega) ha hd)) (by (repeat' constructor)) rfl ?nx216
      rintro v L' ⟨y, b, rfl, hP, hB, rfl⟩
      refine G.q (Quiet.move rfl) rfl (G.q (Quiet.extract rfl rfl) rfl (G.q (Quiet.extract rfl rfl) rfl ?_))
      refine G.op (OpSpec.allocA ze_37) (by (repeat' constructor)) rfl ?nx220
      rintro v L' ⟨b18, rfl, rfl⟩
      refine G.op (OpSpec.storeA rfl rfl ?c222 sz_37 ?c225 ?c223 ?c224) (by (repeat' constructor)) rfl ?nx226
      case c222 => exact pt_cells hB.cell (by rw [hB.subs]; rfl)
      case c225 => rfl
      case c223 => simp [ptC]
      case c224 => exact nfz0 _ _
      rintro v L' rfl
      refine G.q (Quiet.assign rfl) rfl (G.nil ?_)
      refine G.ptCast (b := b18) (l' := ptC y) (by (repeat' constructor)) rfl ?_
      refine G.then_n (G.seq (G.seq (G.region (G.q (Quiet.move rfl) rfl (G.q (Quiet.not rfl) rfl (G.nil (G.then_n ?_)))))))
      refine G.condB rfl (fun h152 => ?_) (fun h152 => ?_)
      ·refine G.seq (G.region ?_)
       refine G.q (Quiet.to (v' := .agg (ptC (⟨0, [], [], .slice none 0 0, [], 0, 0, 0, .slice none 0 0⟩ : Pt)).toArray) (Quiet.build (us := []) fl_37 ze_37 rfl rfl (by simp [isCell])) rfl) rfl ?_
       refine G.op (OpSpec.storeA rfl rfl ?c229 sz_37 ?c232 ?c230 ?c231) (by (repeat' constructor)) rfl ?nx233
       case c229 => exact pt_cells rfl rfl
       case c232 => rfl
       case c230 => simp [ptC]
       case c231 => exact nfz0 _ _
       rintro v L' rfl
       refine G.nil (G.then_n (G.ret (G.then_r ?_)))
       refine G.ptCast (b := b6) (l' := ptC (⟨0, [], [], .slice none 0 0, [], 0, 0, 0, .slice none 0 0⟩ : Pt)) (by (repeat' constructor)) rfl ?_
       refine G.add (p := txRd (⟨0, [], [], .slice none 0 0, [], 0, 0, 0, .slice none 0 0⟩ : Pt) []) (txRd_none rfl rfl rfl) ?_
       exact G.done1 rfl (.cellA rfl ag_37 (by (repeat' constructor)) (by simp [ptC]) rfl) ⟨(⟨0, [], [], .slice none 0 0, [], 0, 0, 0, .slice none 0 0⟩ : Pt), [], rfl, .part rfl ⟨⟨by show (0 : Int) ≤ 0; decide, by show (0 : Int) ≤ 4; decide⟩, by simp, by simp, .inl rfl, .inl rfl, ⟨by show (0 : Int) ≤ 0; decide, by show (0 : Int) ≤ K + 1; have := hinv.zx0; omega⟩, rfl, (fun e => by cases e)⟩, ⟨rfl, rfl, (fun w hw => by cases hw)⟩, rfl⟩ (by (repeat' constructor)) (by (repeat' constructor))
      ·refine G.skip (G.then_n (G.seq (G.region ?_)))
       refine G.q (Quiet.loadAs (vs := ptC y) rfl ag_37 (by (repeat' constructor)) (by simp [ptC]) rfl) rfl ?_
       refine G.op (OpSpec.storeA rfl rfl ?c235 sz_37 ?c238 ?c236 ?c237) (by (repeat' constructor)) rfl ?nx239
       case c235 => exact pt_cells hB.cell (by rw [hB.subs]; rfl)
       case c238 => rfl
       case c236 => simp [ptC]
       case c237 => exact nfz0 _ _
       rintro v L' rfl
       refine G.nil (G.then_n (G.ret ?_))
       refine G.ptCast (b := b6) (l' := ptC y) (by (repeat' constructor)) rfl ?_
       refine G.fold (p := txRd y []) (L := _) (by (repeat' constructor)) (fun _ hp => txRd_one hB.subs hp) ?_
       exact G.done1 rfl (.cellA rfl ag_37 (by (repeat' constructor)) (by simp [ptC]) rfl) ⟨y, [], rfl, .part rfl (hP (by simpa using h152)), ⟨hB.cell, by rw [hB.subs]; rfl, (fun w hw => by cases hw)⟩, rfl⟩ (by (repeat' constructor)) (by (repeat' constructor))

theorem fill_entry4 (zx ss xi : Int) (s0 s1 s2 s3 s4 s5 s6 s7 : Value) : Instr.fill (fun i => [(0, 1), (1, 1), (2, 1), (3, 8)].toArray[i]?) ([.int .i64 0, .int .i64 0, .int .i64 0, .int .i64 0, .string (bs []), .string (bs []), .slice none 0 0, .int .i64 0, .int .i64 0, .int .i64 0, .slice none 0 0] : List Value).toArray [(0, vint zx), (1, vint ss), (2, vint xi), (3, .agg ([s0, s1, s2, s3, s4, s5, s6, s7] : List Value).toArray)] = some (([vint zx, vint ss, vint xi] ++ [s0, s1, s2, s3, s4, s5, s6, s7] : List Value).toArray) := by kernel_rfl
theorem en_cells {e : En} (h : TxC e.x e.subs) : ∀ v ∈ enC e, isCell v = true := by
  intro v hv
  unfold enC at hv
  rcases List.mem_append.1 hv with hv | hv
  · simp only [List.mem_cons, List.not_mem_nil, or_false] at hv
    rcases hv with rfl | rfl | rfl <;> rfl
  · exact pt_cells h.1 h.2.1 v hv
set_option maxHeartbeats 1000000 in
set_option maxRecDepth 100000 in
theorem history7_spec (v : Value) (xs : List Ac0) (z0 : Int) (p : HP) (hx : Acts1 p v xs) (hz : 0 ≤ z0 ∧ z0 ≤ 2199023255552) : Fn Tryz.prog 12 #[v, vint z0] [p] fun v L => ∃ (es : List En) (τ : Tr) (x : Nat) (u : Value), v = .tuple #[u, vptr x] ∧ Hist z0 es τ ∧ (es.length ≤ 150 ∧ ∃ a c, u = .slice a es.length c) ∧ L = [p, refR x τ, slR 39 11 u es.length (es.flatMap enC), ensA es] := by
 refine Fn.intro (vs := [v, vint z0]) Tryz.func12 rfl rfl ?_
 intro F W
 refine G.rdAny (p := p) hx.own.cells (by (repeat' constructor)) fun av cv ev0 _ => ?_
 subst ev0
 have hrd := hx.own.cells
 have hlen := hx.own.len
 refine G.seq (G.region (G.q (Quiet.assign rfl) rfl (G.q (Quiet.assign rfl) rfl (G.nil (G.then_n (G.seq (G.region ?_)))))))
 refine G.op (OpSpec.call Tryz.func25 rfl rfl (vs := []) rfl (rfnew_spec)) (by (repeat' constructor)) rfl ?nx3
 rintro v L' ⟨x, rfl, rfl⟩
 refine G.q (Quiet.assign rfl) rfl (G.nil (G.then_n (G.seq (G.add (slR_nil 39 11) ?_))))
 refine G.add (p := ensA []) (fun h e he => by cases he) ?_
 refine G.region (G.q (Quiet.assign rfl) rfl (G.nil (G.then_n (G.seq (G.seq (G.region (G.q (Quiet.assign rfl) rfl (G.nil (G.then_n (G.block ?_))))))))))
 refine G.loopK (ι := Nat × (List En) × Tr × Value) (fun q E => (8, vint q.1) :: (7, q.2.2.2) :: E) (fun q => [refR x q.2.2.1, slR 39 11 q.2.2.2 q.2.1.length (q.2.1.flatMap enC), ensA q.2.1]) (fun q => (q.1 ≤ xs.length ∧ q.1 ≤ 150 ∧ q.2.1.length ≤ q.1) ∧ Hist z0 q.2.1 q.2.2.1 ∧ ∃ a c, q.2.2.2 = .slice a q.2.1.length c) (fun q => xs.length - q.1) (0, [], newT, .slice none 0 0) (ts := [0, 1, 4, 5, 6]) (.cons rfl (.cons rfl (.cons rfl (.cons rfl (.cons rfl (.nil)))))) (⟨⟨Nat.zero_le _, Nat.zero_le _, Nat.le_refl _⟩, .nil, none, 0, rfl⟩) ⟨rfl, rfl, rfl, rfl, rfl, rfl, rfl, trivial⟩ (by (repeat' constructor)) ?_
 rintro ⟨i, es, τ, u⟩ ⟨⟨hi, hi150, hei⟩, hh, au, cu, hu⟩
 dsimp only
 dsimp only at hi hi150 hei hh hu
 subst hu
 have hinv := hh.inv
 have hfew := hinv.ok.few
 refine G.seq (G.seq (G.region (G.q (Quiet.move rfl) rfl (G.q (Quiet.move rfl) rfl (G.q (Quiet.slen rfl Tryz.underlying22 rfl) rfl (G.q (Quiet.int rfl rfl rfl) rfl (G.q (Quiet.move rfl) rfl ?_)))))))
 refine G.dec (t := 16) rfl (fun h4_16 => ?_) (fun h4_16 => ?_)
 ·refine G.kDT (t := 15) rfl h4_16 (G.grun (t := 16) rfl rfl rfl (G.q (Quiet.move rfl) rfl (G.grun (t := 16) rfl rfl rfl (G.q (Quiet.int rfl rfl rfl) rfl (G.q (Quiet.pickT rfl rfl) rfl (G.nil (G.then_n ?_)))))))
  refine G.condD rfl (fun h19 => ?_) (fun h19 => ?_)
  ·have hi2 : i < xs.length := by omega
   refine G.rdShape (p := p) hrd (by (repeat' constructor)) (by omega) fun bv ov e1 => ?_
   subst e1
   obtain ⟨hk1, hk2, hk3, hk4⟩ := hx.own.ok _ (List.getElem_mem hi2)
   obtain ⟨ss, hss, hcs⟩ := hx.subs _ (List.getElem_mem hi2)
   have hp9 := pickZ_range xs[i].2.1 (n := 9) (by decide)
   refine G.skip (G.then_n (G.seq (G.block (G.seq ?_))))
   refine G.draw [16, 21, 23, 24] [[0, 1, 2, 3, 4, 5, 6, 7, 8, 9, 10, 11, 12, 13, 14, 15, 17, 18, 19, 20, 16, 21, 22, 23], [24]] mixed (by kernel_rfl) ?_
   refine Phases.go [p] (by (repeat' constructor)) ?_
   refine D.q rfl (by kernel_rfl) (Quiet.move rfl) ?_
   refine D.q rfl (by kernel_rfl) (Quiet.move rfl) ?_
   refine D.q rfl (by kernel_rfl) (Quiet.slen rfl Tryz.underlying24 rfl) ?_
   refine D.q rfl (by kernel_rfl) (Quiet.add rfl rfl (by omega)) ?_
   refine D.q rfl (by kernel_rfl) (Quiet.move rfl) ?_
   refine D.q rfl (by kernel_rfl) (Quiet.move rfl) ?_
   refine D.q rfl (by kernel_rfl) (Quiet.indexAddr rfl rfl el_22 (by omega)) ?_
   refine D.q rfl (by kernel_rfl) (Quiet.fieldAddr rfl fo_94_1) ?_
   refine D.q rfl (by kernel_rfl) (Quiet.loadRd (sz := 5) (j := i * 5 + 1) (p := p) rfl ag_3 (by (repeat' constructor)) hrd (by omega) ((ac0_cell (l := xs) (i := i) (k := 1) (by omega) (by decide)).trans rfl)) ?_
   refine D.m rfl (by kernel_rfl) (OpSpec.call Tryz.func21 rfl rfl (vs := [_, _]) rfl (pick7_spec _ _ hk2 (by decide))) (by (repeat' constructor)) ?nx22
   refine D.q rfl (by kernel_rfl) (Quiet.move rfl) ?_
   refine D.q rfl (by kernel_rfl) (Quiet.move rfl) ?_
   refine D.q rfl (by kernel_rfl) (Quiet.move rfl) ?_
   refine D.q rfl (by kernel_rfl) (Quiet.move rfl) ?_
   refine D.q rfl (by kernel_rfl) (Quiet.indexAddr rfl rfl el_22 (by omega)) ?_
   refine D.q rfl (by kernel_rfl) (Quiet.loadRdA (sz := 5) (j := i * 5) (k := 5) (p := p) (vs := ac0C xs[i]) rfl ag_94 (by (repeat' constructor)) hrd (by simp) (by omega) (by omega) (flatMap_at (f := ac0C) (sz := 5) (fun _ _ => rfl) (by omega))) ?_
   refine D.q rfl (by kernel_rfl) (Quiet.move rfl) ?_
   refine D.q rfl (by kernel_rfl) (Quiet.move rfl) ?_
   refine D.q rfl (by kernel_rfl) (Quiet.slen rfl Tryz.underlying24 rfl) ?_
   refine D.q rfl (by kernel_rfl) (Quiet.add rfl rfl (by omega)) ?_
   refine D.h2R (k := 23) rfl rfl (by kernel_rfl) rfl (SpecR.ro [p] (OpSpec.call Tryz.func44 rfl rfl (vs := [_]) rfl (small7_ro xs[i] p ss hss hcs (by omega))) (by (repeat' constructor))) (by (repeat' constructor)) (SpecR.own (OpSpec.allocA ze_39)) (by (repeat' constructor)) ?nx34 ?nx35
   ·rintro v L' ⟨uv, us, rfl, hsm, rfl⟩
    refine D.h2 (k := 23) rfl rfl (by kernel_rfl) rfl (OpSpec.call Tryz.func43 rfl rfl (vs := [_, _, _]) rfl (txn7_spec x τ (xs[i].1, (xs[i].2.1, (xs[i].2.2.1, (xs[i].2.2.2.1.take 100, uv)))) _ us (z0 + es.length) (60 * es.length) hinv (by omega) ⟨hk1, hk2, hk3⟩ (by rw [List.length_take]; omega) (acts0_own hsm) hsm)) (by (repeat' constructor)) (OpSpec.allocA ze_39) (by (repeat' constructor)) ?nx37 ?nx38
    ·rintro v L' ⟨y, subs, rfl, hsh, hcc, rfl⟩
     refine D.q rfl (by kernel_rfl) (Quiet.buildN (pl := [(0, 1), (1, 1), (2, 1), (3, 8)]) (us := [(0, vint (z0 + es.length)), (1, vint (pickZ xs[i].2.1 9)), (2, vint i), (3, .agg (ptC y).toArray)]) (cells := enC (⟨z0 + es.length, pickZ xs[i].2.1 9, i, y, subs⟩ : En)) Tryz.underlying39 (by kernel_rfl) ze_39 rfl (fill_entry4 _ _ _ _ _ _ _ _ _ _ _)) ?_
     refine D.h rfl (by kernel_rfl) (OpSpec.allocA ze_39) (by (repeat' constructor)) ?nx41
     rintro v L' ⟨b9, rfl, rfl⟩
     refine D.ph ?_
     refine Phases.go [] (by (repeat' constructor)) ?_
     refine D.h rfl (by kernel_rfl) (OpSpec.storeA rfl rfl ?c43 sz_39 ?c46 ?c44 ?c45) (by (repeat' constructor)) ?nx47
     case c43 => exact en_cells (e := (⟨z0 + es.length, pickZ xs[i].2.1 9, i, y, subs⟩ : En)) hcc
     case c46 => rfl
     case c44 => simp [enC, ptC]
     case c45 => exact nfz0 _ _
     rintro v L' rfl
     refine D.ph (Phases.fin ?_)
     refine G.ptCast (b := b9) (l' := enC (⟨z0 + es.length, pickZ xs[i].2.1 9, i, y, subs⟩ : En)) (by (repeat' constructor)) rfl ?_
     have htx := ShapeH.tx (e := (⟨z0 + es.length, pickZ xs[i].2.1 9, i, y, subs⟩ : En)) hsh hcc (p := txRd y subs) (fun h hp => hp)
     have hfs := (ShapeH.sz (e := (⟨z0 + es.length, pickZ xs[i].2.1 9, i, y, subs⟩ : En)) hsh).few
     have hfs2 : subs.length ≤ 60 := hfs
     refine G.then_n (G.seq (G.region (G.q (Quiet.move rfl) rfl ?_)))
     refine G.q (Quiet.loadAs (vs := enC (⟨z0 + es.length, pickZ xs[i].2.1 9, i, y, subs⟩ : En)) rfl ag_39 (by (repeat' constructor)) (by simp [enC, ptC]) rfl) rfl ?_
     refine G.op (OpSpec.call Tryz.func45 rfl rfl (vs := [_, _]) rfl (rsound_spec x τ (z0 + es.length) (pickZ xs[i].2.1 9) i y subs _ htx 60 hinv.ok (by omega))) (by (repeat' constructor)) rfl ?nx50
     rintro v L' ⟨rfl, rfl⟩
     refine G.q (Quiet.assign rfl) rfl (G.nil (G.then_n (G.seq (G.seq ?_))))
     refine G.rfOpen (x := x) (τ := τ) (by (repeat' constructor)) fun an cn as1 cs l hl => ?_
     have hll := nds_len hl
     refine G.region (G.q (Quiet.move rfl) rfl (G.q (Quiet.not rfl) rfl (G.q (Quiet.move rfl) rfl ?_)))
     refine G.bool (t := 50) rfl (fun h8_50 => ?_) (fun h8_50 => ?_)
     ·refine G.kB (t := 49) rfl h8_50 (G.gskip (t := 50) rfl rfl rfl rfl (G.gskip (t := 50) rfl rfl rfl rfl (G.gskip (t := 50) rfl rfl rfl rfl (G.gskip (t := 50) rfl rfl rfl rfl (G.gskip (t := 50) rfl rfl rfl rfl (G.gskip (t := 50) rfl rfl rfl rfl (G.gskip (t := 50) rfl rfl rfl rfl (G.gskipU (t := 57) rfl rfl rfl (G.gskipU (t := 57) rfl rfl rfl (G.gskipU (t := 57) rfl rfl rfl (G.gskipU (t := 57) rfl rfl rfl (G.gskipU (t := 57) rfl rfl rfl (G.gskipU (t := 62) rfl rfl rfl (G.gskipU (t := 62) rfl rfl rfl (G.gskipU (t := 62) rfl rfl rfl (G.gskipU (t := 62) rfl rfl rfl (G.gskipU (t := 57) rfl rfl rfl (G.gskip (t := 50) rfl rfl rfl rfl (G.q (Quiet.pickT rfl rfl) rfl (G.nil ?_))))))))))))))))))))
      refine G.rfFold (x := x) (τ := τ) (l := l) hl (by (repeat' constructor)) rfl rfl rfl rfl rfl ?_
      refine G.then_n (G.condT rfl (G.exit (G.then_e (G.blk_e (G.then_n (G.region (G.q (Quiet.move rfl) rfl ?_)))))))
      refine G.q (Quiet.add rfl rfl (by omega)) rfl ?_
      refine G.q (Quiet.assign rfl) rfl (G.nil (G.then_n ?_))
      exact G.roundK ((i + 1, es, τ, .slice au es.length cu)) (⟨⟨by dsimp only; omega, by dsimp only; omega, by dsimp only; omega⟩, hh, _, _, rfl⟩) (by dsimp only; omega) ⟨rfl, rfl, rfl, rfl, rfl, rfl, rfl, trivial⟩ (by (repeat' constructor)) (by ((repeat (apply Have.cons; (repeat (first | exact Pick.here | apply Pick.there)))); apply Have.base; repeat' constructor))
     ·refine G.kB (t := 49) rfl h8_50 (G.grun (t := 50) rfl rfl rfl (G.q (Quiet.move rfl) rfl (G.grun (t := 50) rfl rfl rfl (G.q (Quiet.nilp rfl) rfl (G.grun (t := 50) rfl rfl rfl (G.q (Quiet.fieldAddr rfl fo_101_0) rfl (G.grun (t := 50) rfl rfl rfl ?_)))))))
      refine G.q (Quiet.load rfl ag_98 (by (repeat' constructor)) (rfl)) rfl ?_
      refine G.grun (t := 50) rfl rfl rfl (G.q (Quiet.slen rfl Tryz.underlying98 rfl) rfl (G.grun (t := 50) rfl rfl rfl ?_))
      refine G.q (Quiet.as (v' := .bool false) (by exact congrArg Value.bool (decide_eq_false (by omega))) (Quiet.int rfl rfl rfl)) rfl ?_
      refine G.grun (t := 50) rfl rfl rfl (G.q (Quiet.move rfl) rfl (G.gskip (t := 57) rfl rfl rfl rfl (G.gskip (t := 57) rfl rfl rfl rfl (G.gskip (t := 57) rfl rfl rfl rfl (G.gskip (t := 57) rfl rfl rfl rfl (G.gskip (t := 57) rfl rfl rfl rfl (G.gskipU (t := 62) rfl rfl rfl (G.gskipU (t := 62) rfl rfl rfl (G.gskipU (t := 62) rfl rfl rfl (G.gskipU (t := 62) rfl rfl rfl (G.gskip (t := 57) rfl rfl rfl rfl (G.grun (t := 50) rfl rfl rfl (G.q (Quiet.pickF rfl rfl) rfl (G.q (Quiet.pickF rfl rfl) rfl (G.nil ?_)))))))))))))))
      refine G.rfFold (x := x) (τ := τ) (l := l) hl (by (repeat' constructor)) rfl rfl rfl rfl rfl ?_
      refine G.then_n (G.condF rfl (G.skip (G.then_n (G.seq ?_))))
      have hsd : soundZ τ (z0 + es.length) y subs = true := by simpa using h8_50
      have hE : EntH τ (⟨z0 + es.length, pickZ xs[i].2.1 9, i, y, subs⟩ : En) (60 * es.length) := ⟨hsd, hsh, ⟨hp9.1, hp9.2⟩, hcc⟩
      refine G.region (G.q (Quiet.move rfl) rfl ?_)
      refine G.q (Quiet.loadAs (vs := enC (⟨z0 + es.length, pickZ xs[i].2.1 9, i, y, subs⟩ : En)) rfl ag_39 (by (repeat' constructor)) (by simp [enC, ptC]) rfl) rfl ?_
      refine G.op (OpSpec.call Tryz.func26 rfl rfl (vs := [_, _]) rfl (rapply_spec x τ (z0 + es.length) (pickZ xs[i].2.1 9) i y subs _ htx 60 hinv.ok (by omega))) (by (repeat' constructor)) rfl ?nx65
      rintro v L' ⟨ue, ee, rfl, he, hue, rfl⟩
      refine G.nil ?_
      refine G.rfCast (x := x) (τ' := (appE τ (⟨z0 + es.length, pickZ xs[i].2.1 9, i, y, subs⟩ : En))) (by (repeat' constructor)) (rfl) ?_
      refine G.fold (p := ensA (es ++ [(⟨z0 + es.length, pickZ xs[i].2.1 9, i, y, subs⟩ : En)])) (.cons (p := ensA es) (by (repeat' constructor)) (.cons (p := txRd y subs) (by (repeat' constructor)) .nil)) (fun _ hp => ensA_snoc hp) ?_
      refine G.then_n (G.region (G.q (Quiet.move rfl) rfl ?_))
      refine G.q (Quiet.loadAs (vs := enC (⟨z0 + es.length, pickZ xs[i].2.1 9, i, y, subs⟩ : En)) rfl ag_39 (by (repeat' constructor)) (by simp [enC, ptC]) rfl) rfl ?_
      refine G.op (OpSpec.buildSlice (vs := [_]) el_24 ze_39 rfl rfl rfl rfl (by first | (simp [Value.cells]; done) | (intro v hv; simp only [List.mem_cons, List.not_mem_nil, or_false] at hv; (repeat (first | (subst hv; rfl) | (rcases hv with hv | hv; (subst hv; rfl)))))) (by decide)) (by (repeat' constructor)) rfl ?nx69
      rintro v L' ⟨b10, rfl, rfl⟩
      refine G.op (OpSpec.append1 rfl rfl rfl el_24 ze_39 rfl rfl ?c71 ?c72 (Nat.le_refl _) ?c73 (by decide)) (by (repeat' constructor)) rfl ?nx74
      case c71 => simp only [List.map_cons, List.map_nil, List.flatten_cons, List.flatten_nil, List.append_nil]; exact en_cells (e := (⟨z0 + es.length, pickZ xs[i].2.1 9, i, y, subs⟩ : En)) hcc
      case c72 => rfl
      case c73 => first | omega | (simp; omega)
      rintro v L' ⟨⟨a10_3, c10_3, rfl⟩, rfl⟩
      refine G.q (Quiet.assign rfl) rfl (G.nil (G.blk_n (G.then_n (G.region (G.q (Quiet.move rfl) rfl ?_)))))
      refine G.q (Quiet.add rfl rfl (by omega)) rfl ?_
      refine G.q (Quiet.assign rfl) rfl (G.nil (G.then_n ?_))
      refine G.slCast (T := 39) (sz := 11) (m' := (es ++ [(⟨z0 + es.length, pickZ xs[i].2.1 9, i, y, subs⟩ : En)]).length) (xs' := (es ++ [(⟨z0 + es.length, pickZ xs[i].2.1 9, i, y, subs⟩ : En)]).flatMap enC) (by (repeat' constructor)) (by rw [List.length_append]; rfl) (by rw [List.flatMap_append]; simp; rfl) ?_
      exact G.roundK ((i + 1, es ++ [(⟨z0 + es.length, pickZ xs[i].2.1 9, i, y, subs⟩ : En)], appE τ (⟨z0 + es.length, pickZ xs[i].2.1 9, i, y, subs⟩ : En), .slice a10_3 (es.length + 1) c10_3)) (⟨⟨by dsimp only; omega, by dsimp only; omega, by dsimp only; rw [List.length_append]; simp; omega⟩, .snoc hh hE rfl ⟨by show (0 : Int) ≤ (i : Int); omega, by show (i : Int) < 150; omega⟩, _, _, by rw [List.length_append]; rfl⟩) (by dsimp only; omega) ⟨rfl, rfl, rfl, rfl, rfl, rfl, rfl, trivial⟩ (by (repeat' constructor)) (by ((repeat (apply Have.cons; (repeat (first | exact Pick.here | apply Pick.there)))); apply Have.base; repeat' constructor))
    ·rintro v L' ⟨b9, rfl, rfl⟩
     refine D.h rfl (by kernel_rfl) (OpSpec.call Tryz.func43 rfl rfl (vs := [_, _, _]) rfl (txn7_spec x τ (xs[i].1, (xs[i].2.1, (xs[i].2.2.1, (xs[i].2.2.2.1.take 100, uv)))) _ us (z0 + es.length) (60 * es.length) hinv (by omega) ⟨hk1, hk2, hk3⟩ (by rw [List.length_take]; omega) (acts0_own hsm) hsm)) (by (repeat' constructor)) ?nx79
     rintro v L' ⟨y, subs, rfl, hsh, hcc, rfl⟩
     refine D.qw [] rfl (by kernel_rfl) (Quiet.buildN (pl := [(0, 1), (1, 1), (2, 1), (3, 8)]) (us := [(0, vint (z0 + es.length)), (1, vint (pickZ xs[i].2.1 9)), (2, vint i), (3, .agg (ptC y).toArray)]) (cells := enC (⟨z0 + es.length, pickZ xs[i].2.1 9, i, y, subs⟩ : En)) Tryz.underlying39 (by kernel_rfl) ze_39 rfl (fill_entry4 _ _ _ _ _ _ _ _ _ _ _)) ?_
     refine D.ph ?_
     refine Phases.go [] (by (repeat' constructor)) ?_
     refine D.h rfl (by kernel_rfl) (OpSpec.storeA rfl rfl ?c82 sz_39 ?c85 ?c83 ?c84) (by (repeat' constructor)) ?nx86
     case c82 => exact en_cells (e := (⟨z0 + es.length, pickZ xs[i].2.1 9, i, y, subs⟩ : En)) hcc
     case c85 => rfl
     case c83 => simp [enC, ptC]
     case c84 => exact nfz0 _ _
     rintro v L' rfl
     refine D.ph (Phases.fin ?_)
     refine G.ptCast (b := b9) (l' := enC (⟨z0 + es.length, pickZ xs[i].2.1 9, i, y, subs⟩ : En)) (by (repeat' constructor)) rfl ?_
     have htx := ShapeH.tx (e := (⟨z0 + es.length, pickZ xs[i].2.1 9, i, y, subs⟩ : En)) hsh hcc (p := txRd y subs) (fun h hp => hp)
     have hfs := (ShapeH.sz (e := (⟨z0 + es.length, pickZ xs[i].2.1 9, i, y, subs⟩ : En)) hsh).few
     have hfs2 : subs.length ≤ 60 := hfs
     refine G.then_n (G.seq (G.region (G.q (Quiet.move rfl) rfl ?_)))
     refine G.q (Quiet.loadAs (vs := enC (⟨z0 + es.length, pickZ xs[i].2.1 9, i, y, subs⟩ : En)) rfl ag_39 (by (repeat' constructor)) (by simp [enC, ptC]) rfl) rfl ?_
     refine G.op (OpSpec.call Tryz.func45 rfl rfl (vs := [_, _]) rfl (rsound_spec x τ (z0 + es.length) (pickZ xs[i].2.1 9) i y subs _ htx 60 hinv.ok (by omega))) (by (repeat' constructor)) rfl ?nx89
     rintro v L' ⟨rfl, rfl⟩
     refine G.q (Quiet.assign rfl) rfl (G.nil (G.then_n (G.seq (G.seq ?_))))
     refine G.rfOpen (x := x) (τ := τ) (by (repeat' constructor)) fun an cn as1 cs l hl => ?_
     have hll := nds_len hl
     refine G.region (G.q (Quiet.move rfl) rfl (G.q (Quiet.not rfl) rfl (G.q (Quiet.move rfl) rfl ?_)))
     refine G.bool (t := 50) rfl (fun h8_50 => ?_) (fun h8_50 => ?_)
     ·refine G.kB (t := 49) rfl h8_50 (G.gskip (t := 50) rfl rfl rfl rfl (G.gskip (t := 50) rfl rfl rfl rfl (G.gskip (t := 50) rfl rfl rfl rfl (G.gskip (t := 50) rfl rfl rfl rfl (G.gskip (t := 50) rfl rfl rfl rfl (G.gskip (t := 50) rfl rfl rfl rfl (G.gskip (t := 50) rfl rfl rfl rfl (G.gskipU (t := 57) rfl rfl rfl (G.gskipU (t := 57) rfl rfl rfl (G.gskipU (t := 57) rfl rfl rfl (G.gskipU (t := 57) rfl rfl rfl (G.gskipU (t := 57) rfl rfl rfl (G.gskipU (t := 62) rfl rfl rfl (G.gskipU (t := 62) rfl rfl rfl (G.gskipU (t := 62) rfl rfl rfl (G.gskipU (t := 62) rfl rfl rfl (G.gskipU (t := 57) rfl rfl rfl (G.gskip (t := 50) rfl rfl rfl rfl (G.q (Quiet.pickT rfl rfl) rfl (G.nil ?_))))))))))))))))))))
      refine G.rfFold (x := x) (τ := τ) (l := l) hl (by (repeat' constructor)) rfl rfl rfl rfl rfl ?_
      refine G.then_n (G.condT rfl (G.exit (G.then_e (G.blk_e (G.then_n (G.region (G.q (Quiet.move rfl) rfl ?_)))))))
      refine G.q (Quiet.add rfl rfl (by omega)) rfl ?_
      refine G.q (Quiet.assign rfl) rfl (G.nil (G.then_n ?_))
      exact G.roundK ((i + 1, es, τ, .slice au es.length cu)) (⟨⟨by dsimp only; omega, by dsimp only; omega, by dsimp only; omega⟩, hh, _, _, rfl⟩) (by dsimp only; omega) ⟨rfl, rfl, rfl, rfl, rfl, rfl, rfl, trivial⟩ (by (repeat' constructor)) (by ((repeat (apply Have.cons; (repeat (first | exact Pick.here | apply Pick.there)))); apply Have.base; repeat' constructor))
     ·refine G.kB (t := 49) rfl h8_50 (G.grun (t := 50) rfl rfl rfl (G.q (Quiet.move rfl) rfl (G.grun (t := 50) rfl rfl rfl (G.q (Quiet.nilp rfl) rfl (G.grun (t := 50) rfl rfl rfl (G.q (Quiet.fieldAddr rfl fo_101_0) rfl (G.grun (t := 50) rfl rfl rfl ?_)))))))
      refine G.q (Quiet.load rfl ag_98 (by (repeat' constructor)) (rfl)) rfl ?_
      refine G.grun (t := 50) rfl rfl rfl (G.q (Quiet.slen rfl Tryz.underlying98 rfl) rfl (G.grun (t := 50) rfl rfl rfl ?_))
      refine G.q (Quiet.as (v' := .bool false) (by exact congrArg Value.bool (decide_eq_false (by omega))) (Quiet.int rfl rfl rfl)) rfl ?_
      refine G.grun (t := 50) rfl rfl rfl (G.q (Quiet.move rfl) rfl (G.gskip (t := 57) rfl rfl rfl rfl (G.gskip (t := 57) rfl rfl rfl rfl (G.gskip (t := 57) rfl rfl rfl rfl (G.gskip (t := 57) rfl rfl rfl rfl (G.gskip (t := 57) rfl rfl rfl rfl (G.gskipU (t := 62) rfl rfl rfl (G.gskipU (t := 62) rfl rfl rfl (G.gskipU (t := 62) rfl rfl rfl (G.gskipU (t := 62) rfl rfl rfl (G.gskip (t := 57) rfl rfl rfl rfl (G.grun (t := 50) rfl rfl rfl (G.q (Quiet.pickF rfl rfl) rfl (G.q (Quiet.pickF rfl rfl) rfl (G.nil ?_)))))))))))))))
      refine G.rfFold (x := x) (τ := τ) (l := l) hl (by (repeat' constructor)) rfl rfl rfl rfl rfl ?_
      refine G.then_n (G.condF rfl (G.skip (G.then_n (G.seq ?_))))
      have hsd : soundZ τ (z0 + es.length) y subs = true := by simpa using h8_50
      have hE : EntH τ (⟨z0 + es.length, pickZ xs[i].2.1 9, i, y, subs⟩ : En) (60 * es.length) := ⟨hsd, hsh, ⟨hp9.1, hp9.2⟩, hcc⟩
      refine G.region (G.q (Quiet.move rfl) rfl ?_)
      refine G.q (Quiet.loadAs (vs := enC (⟨z0 + es.length, pickZ xs[i].2.1 9, i, y, subs⟩ : En)) rfl ag_39 (by (repeat' constructor)) (by simp [enC, ptC]) rfl) rfl ?_
      refine G.op (OpSpec.call Tryz.func26 rfl rfl (vs := [_, _]) rfl (rapply_spec x τ (z0 + es.length) (pickZ xs[i].2.1 9) i y subs _ htx 60 hinv.ok (by omega))) (by (repeat' constructor)) rfl ?nx104
      rintro v L' ⟨ue, ee, rfl, he, hue, rfl⟩
      refine G.nil ?_
      refine G.rfCast (x := x) (τ' := (appE τ (⟨z0 + es.length, pickZ xs[i].2.1 9, i, y, subs⟩ : En))) (by (repeat' constructor)) (rfl) ?_
      refine G.fold (p := ensA (es ++ [(⟨z0 + es.length, pickZ xs[i].2.1 9, i, y, subs⟩ : En)])) (.cons (p := ensA es) (by (repeat' constructor)) (.cons (p := txRd y subs) (by (repeat' constructor)) .nil)) (fun _ hp => ensA_snoc hp) ?_
      refine G.then_n (G.region (G.q (Quiet.move rfl) rfl ?_))
      refine G.q (Quiet.loadAs (vs := enC (⟨z0 + es.length, pickZ xs[i].2.1 9, i, y, subs⟩ : En)) rfl ag_39 (by (repeat' constructor)) (by simp [enC, ptC]) rfl) rfl ?_
      refine G.op (OpSpec.buildSlice (vs := [_]) el_24 ze_39 rfl rfl rfl rfl (by first | (simp [Value.cells]; done) | (intro v hv; simp only [List.mem_cons, List.not_mem_nil, or_false] at hv; (repeat (first | (subst hv; rfl) | (rcases hv with hv | hv; (subst hv; rfl)))))) (by decide)) (by (repeat' constructor)) rfl ?nx108
      rintro v L' ⟨b10, rfl, rfl⟩
      refine G.op (OpSpec.append1 rfl rfl rfl el_24 ze_39 rfl rfl ?c110 ?c111 (Nat.le_refl _) ?c112 (by decide)) (by (repeat' constructor)) rfl ?nx113
      case c110 => simp only [List.map_cons, List.map_nil, List.flatten_cons, List.flatten_nil, List.append_nil]; exact en_cells (e := (⟨z0 + es.length, pickZ xs[i].2.1 9, i, y, subs⟩ : En)) hcc
      case c111 => rfl
      case c112 => first | omega | (simp; omega)
      rintro v L' ⟨⟨a10_3, c10_3, rfl⟩, rfl⟩
      refine G.q (Quiet.assign rfl) rfl (G.nil (G.blk_n (G.then_n (G.region (G.q (Quiet.move rfl) rfl ?_)))))
      refine G.q (Quiet.add rfl rfl (by omega)) rfl ?_
      refine G.q (Quiet.assign rfl) rfl (G.nil (G.then_n ?_))
      refine G.slCast (T := 39) (sz := 11) (m' := (es ++ [(⟨z0 + es.length, pickZ xs[i].2.1 9, i, y, subs⟩ : En)]).length) (xs' := (es ++ [(⟨z0 + es.length, pickZ xs[i].2.1 9, i, y, subs⟩ : En)]).flatMap enC) (by (repeat' constructor)) (by rw [List.length_append]; rfl) (by rw [List.flatMap_append]; simp; rfl) ?_
      exact G.roundK ((i + 1, es ++ [(⟨z0 + es.length, pickZ xs[i].2.1 9, i, y, subs⟩ : En)], appE τ (⟨z0 + es.length, pickZ xs[i].2.1 9, i, y, subs⟩ : En), .slice a10_3 (es.length + 1) c10_3)) (⟨⟨by dsimp only; omega, by dsimp only; omega, by dsimp only; rw [List.length_append]; simp; omega⟩, .snoc hh hE rfl ⟨by show (0 : Int) ≤ (i : Int); omega, by show (i : Int) < 150; omega⟩, _, _, by rw [List.length_append]; rfl⟩) (by dsimp only; omega) ⟨rfl, rfl, rfl, rfl, rfl, rfl, rfl, trivial⟩ (by (repeat' constructor)) (by ((repeat (apply Have.cons; (repeat (first | exact Pick.here | apply Pick.there)))); apply Have.base; repeat' constructor))
   ·rintro v L' ⟨b9, rfl, rfl⟩
    refine D.hR rfl (by kernel_rfl) (SpecR.ro [p] (OpSpec.call Tryz.func44 rfl rfl (vs := [_]) rfl (small7_ro xs[i] p ss hss hcs (by omega))) (by (repeat' constructor))) (by (repeat' constructor)) ?nx118
    rintro v L' ⟨uv, us, rfl, hsm, rfl⟩
    refine D.h rfl (by kernel_rfl) (OpSpec.call Tryz.func43 rfl rfl (vs := [_, _, _]) rfl (txn7_spec x τ (xs[i].1, (xs[i].2.1, (xs[i].2.2.1, (xs[i].2.2.2.1.take 100, uv)))) _ us (z0 + es.length) (60 * es.length) hinv (by omega) ⟨hk1, hk2, hk3⟩ (by rw [List.length_take]; omega) (acts0_own hsm) hsm)) (by (repeat' constructor)) ?nx120
    rintro v L' ⟨y, subs, rfl, hsh, hcc, rfl⟩
    refine D.qw [] rfl (by kernel_rfl) (Quiet.buildN (pl := [(0, 1), (1, 1), (2, 1), (3, 8)]) (us := [(0, vint (z0 + es.length)), (1, vint (pickZ xs[i].2.1 9)), (2, vint i), (3, .agg (ptC y).toArray)]) (cells := enC (⟨z0 + es.length, pickZ xs[i].2.1 9, i, y, subs⟩ : En)) Tryz.underlying39 (by kernel_rfl) ze_39 rfl (fill_entry4 _ _ _ _ _ _ _ _ _ _ _)) ?_
    refine D.ph ?_
    refine Phases.go [] (by (repeat' constructor)) ?_
    refine D.h rfl (by kernel_rfl) (OpSpec.storeA rfl rfl ?c123 sz_39 ?c126 ?c124 ?c125) (by (repeat' constructor)) ?nx127
    case c123 => exact en_cells (e := (⟨z0 + es.length, pickZ xs[i].2.1 9, i, y, subs⟩ : En)) hcc
    case c126 => rfl
    case c124 => simp [enC, ptC]
    case c125 => exact nfz0 _ _
    rintro v L' rfl
    refine D.ph (Phases.fin ?_)
    refine G.ptCast (b := b9) (l' := enC (⟨z0 + es.length, pickZ xs[i].2.1 9, i, y, subs⟩ : En)) (by (repeat' constructor)) rfl ?_
    have htx := ShapeH.tx (e := (⟨z0 + es.length, pickZ xs[i].2.1 9, i, y, subs⟩ : En)) hsh hcc (p := txRd y subs) (fun h hp => hp)
    have hfs := (ShapeH.sz (e := (⟨z0 + es.length, pickZ xs[i].2.1 9, i, y, subs⟩ : En)) hsh).few
    have hfs2 : subs.length ≤ 60 := hfs
    refine G.then_n (G.seq (G.region (G.q (Quiet.move rfl) rfl ?_)))
    refine G.q (Quiet.loadAs (vs := enC (⟨z0 + es.length, pickZ xs[i].2.1 9, i, y, subs⟩ : En)) rfl ag_39 (by (repeat' constructor)) (by simp [enC, ptC]) rfl) rfl ?_
    refine G.op (OpSpec.call Tryz.func45 rfl rfl (vs := [_, _]) rfl (rsound_spec x τ (z0 + es.length) (pickZ xs[i].2.1 9) i y subs _ htx 60 hinv.ok (by omega))) (by (repeat' constructor)) rfl ?nx130
    rintro v L' ⟨rfl, rfl⟩
    refine G.q (Quiet.assign rfl) rfl (G.nil (G.then_n (G.seq (G.seq ?_))))
    refine G.rfOpen (x := x) (τ := τ) (by (repeat' constructor)) fun an cn as1 cs l hl => ?_
    have hll := nds_len hl
    refine G.region (G.q (Quiet.move rfl) rfl (G.q (Quiet.not rfl) rfl (G.q (Quiet.move rfl) rfl ?_)))
    refine G.bool (t := 50) rfl (fun h8_50 => ?_) (fun h8_50 => ?_)
    ·refine G.kB (t := 49) rfl h8_50 (G.gskip (t := 50) rfl rfl rfl rfl (G.gskip (t := 50) rfl rfl rfl rfl (G.gskip (t := 50) rfl rfl rfl rfl (G.gskip (t := 50) rfl rfl rfl rfl (G.gskip (t := 50) rfl rfl rfl rfl (G.gskip (t := 50) rfl rfl rfl rfl (G.gskip (t := 50) rfl rfl rfl rfl (G.gskipU (t := 57) rfl rfl rfl (G.gskipU (t := 57) rfl rfl rfl (G.gskipU (t := 57) rfl rfl rfl (G.gskipU (t := 57) rfl rfl rfl (G.gskipU (t := 57) rfl rfl rfl (G.gskipU (t := 62) rfl rfl rfl (G.gskipU (t := 62) rfl rfl rfl (G.gskipU (t := 62) rfl rfl rfl (G.gskipU (t := 62) rfl rfl rfl (G.gskipU (t := 57) rfl rfl rfl (G.gskip (t := 50) rfl rfl rfl rfl (G.q (Quiet.pickT rfl rfl) rfl (G.nil ?_))))))))))))))))))))
     refine G.rfFold (x := x) (τ := τ) (l := l) hl (by (repeat' constructor)) rfl rfl rfl rfl rfl ?_
     refine G.then_n (G.condT rfl (G.exit (G.then_e (G.blk_e (G.then_n (G.region (G.q (Quiet.move rfl) rfl ?_)))))))
     refine G.q (Quiet.add rfl rfl (by omega)) rfl ?_
     refine G.q (Quiet.assign rfl) rfl (G.nil (G.then_n ?_))
     exact G.roundK ((i + 1, es, τ, .slice au es.length cu)) (⟨⟨by dsimp only; omega, by dsimp only; omega, by dsimp only; omega⟩, hh, _, _, rfl⟩) (by dsimp only; omega) ⟨rfl, rfl, rfl, rfl, rfl, rfl, rfl, trivial⟩ (by (repeat' constructor)) (by ((repeat (apply Have.cons; (repeat (first | exact Pick.here | apply Pick.there)))); apply Have.base; repeat' constructor))
    ·refine G.kB (t := 49) rfl h8_50 (G.grun (t := 50) rfl rfl rfl (G.q (Quiet.move rfl) rfl (G.grun (t := 50) rfl rfl rfl (G.q (Quiet.nilp rfl) rfl (G.grun (t := 50) rfl rfl rfl (G.q (Quiet.fieldAddr rfl fo_101_0) rfl (G.grun (t := 50) rfl rfl rfl ?_)))))))
     refine G.q (Quiet.load rfl ag_98 (by (repeat' constructor)) (rfl)) rfl ?_
     refine G.grun (t := 50) rfl rfl rfl (G.q (Quiet.slen rfl Tryz.underlying98 rfl) rfl (G.grun (t := 50) rfl rfl rfl ?_))
     refine G.q (Quiet.as (v' := .bool false) (by exact congrArg Value.bool (decide_eq_false (by omega))) (Quiet.int rfl rfl rfl)) rfl ?_
     refine G.grun (t := 50) rfl rfl rfl (G.q (Quiet.move rfl) rfl (G.gskip (t := 57) rfl rfl rfl rfl (G.gskip (t := 57) rfl rfl rfl rfl (G.gskip (t := 57) rfl rfl rfl rfl (G.gskip (t := 57) rfl rfl rfl rfl (G.gskip (t := 57) rfl rfl rfl rfl (G.gskipU (t := 62) rfl rfl rfl (G.gskipU (t := 62) rfl rfl rfl (G.gskipU (t := 62) rfl rfl rfl (G.gskipU (t := 62) rfl rfl rfl (G.gskip (t := 57) rfl rfl rfl rfl (G.grun (t := 50) rfl rfl rfl (G.q (Quiet.pickF rfl rfl) rfl (G.q (Quiet.pickF rfl rfl) rfl (G.nil ?_)))))))))))))))
     refine G.rfFold (x := x) (τ := τ) (l := l) hl (by (repeat' constructor)) rfl rfl rfl rfl rfl ?_
     refine G.then_n (G.condF rfl (G.skip (G.then_n (G.seq ?_))))
     have hsd : soundZ τ (z0 + es.length) y subs = true := by simpa using h8_50
     have hE : EntH τ (⟨z0 + es.length, pickZ xs[i].2.1 9, i, y, subs⟩ : En) (60 * es.length) := ⟨hsd, hsh, ⟨hp9.1, hp9.2⟩, hcc⟩
     refine G.region (G.q (Quiet.move rfl) rfl ?_)
     refine G.q (Quiet.loadAs (vs := enC (⟨z0 + es.length, pickZ xs[i].2.1 9, i, y, subs⟩ : En)) rfl ag_39 (by (repeat' constructor)) (by simp [enC, ptC]) rfl) rfl ?_
     refine G.op (OpSpec.call Tryz.func26 rfl rfl (vs := [_, _]) rfl (rapply_spec x τ (z0 + es.length) (pickZ xs[i].2.1 9) i y subs _ htx 60 hinv.ok (by omega))) (by (repeat' constructor)) rfl ?nx145
     rintro v L' ⟨ue, ee, rfl, he, hue, rfl⟩
     refine G.nil ?_
     refine G.rfCast (x := x) (τ' := (appE τ (⟨z0 + es.length, pickZ xs[i].2.1 9, i, y, subs⟩ : En))) (by (repeat' constructor)) (rfl) ?_
     refine G.fold (p := ensA (es ++ [(⟨z0 + es.length, pickZ xs[i].2.1 9, i, y, subs⟩ : En)])) (.cons (p := ensA es) (by (repeat' constructor)) (.cons (p := txRd y subs) (by (repeat' constructor)) .nil)) (fun _ hp => ensA_snoc hp) ?_
     refine G.then_n (G.region (G.q (Quiet.move rfl) rfl ?_))
     refine G.q (Quiet.loadAs (vs := enC (⟨z0 + es.length, pickZ xs[i].2.1 9, i, y, subs⟩ : En)) rfl ag_39 (by (repeat' constructor)) (by simp [enC, ptC]) rfl) rfl ?_
     refine G.op (OpSpec.buildSlice (vs := [_]) el_24 ze_39 rfl rfl rfl rfl (by first | (simp [Value.cells]; done) | (intro v hv; simp only [List.mem_cons, List.not_mem_nil, or_false] at hv; (repeat (first | (subst hv; rfl) | (rcases hv with hv | hv; (subst hv; rfl)))))) (by decide)) (by (repeat' constructor)) rfl ?nx149
     rintro v L' ⟨b10, rfl, rfl⟩
     refine G.op (OpSpec.append1 rfl rfl rfl el_24 ze_39 rfl rfl ?c151 ?c152 (Nat.le_refl _) ?c153 (by decide)) (by (repeat' constructor)) rfl ?nx154
     case c151 => simp only [List.map_cons, List.map_nil, List.flatten_cons, List.flatten_nil, List.append_nil]; exact en_cells (e := (⟨z0 + es.length, pickZ xs[i].2.1 9, i, y, subs⟩ : En)) hcc
     case c152 => rfl
     case c153 => first | omega | (simp; omega)
     rintro v L' ⟨⟨a10_3, c10_3, rfl⟩, rfl⟩
     refine G.q (Quiet.assign rfl) rfl (G.nil (G.blk_n (G.then_n (G.region (G.q (Quiet.move rfl) rfl ?_)))))
     refine G.q (Quiet.add rfl rfl (by omega)) rfl ?_
     refine G.q (Quiet.assign rfl) rfl (G.nil (G.then_n ?_))
     refine G.slCast (T := 39) (sz := 11) (m' := (es ++ [(⟨z0 + es.length, pickZ xs[i].2.1 9, i, y, subs⟩ : En)]).length) (xs' := (es ++ [(⟨z0 + es.length, pickZ xs[i].2.1 9, i, y, subs⟩ : En)]).flatMap enC) (by (repeat' constructor)) (by rw [List.length_append]; rfl) (by rw [List.flatMap_append]; simp; rfl) ?_
     exact G.roundK ((i + 1, es ++ [(⟨z0 + es.length, pickZ xs[i].2.1 9, i, y, subs⟩ : En)], appE τ (⟨z0 + es.length, pickZ xs[i].2.1 9, i, y, subs⟩ : En), .slice a10_3 (es.length + 1) c10_3)) (⟨⟨by dsimp only; omega, by dsimp only; omega, by dsimp only; rw [List.length_append]; simp; omega⟩, .snoc hh hE rfl ⟨by show (0 : Int) ≤ (i : Int); omega, by show (i : Int) < 150; omega⟩, _, _, by rw [List.length_append]; rfl⟩) (by dsimp only; omega) ⟨rfl, rfl, rfl, rfl, rfl, rfl, rfl, trivial⟩ (by (repeat' constructor)) (by ((repeat (apply Have.cons; (repeat (first | exact Pick.here | apply Pick.there)))); apply Have.base; repeat' constructor))
  ·refine G.exit (G.then_e (G.then_e (G.blk_e (G.then_n (G.seq (G.region (G.q (Quiet.move rfl) rfl (G.q (Quiet.move rfl) rfl (G.q (Quiet.assign rfl) rfl (G.q (Quiet.assign rfl) rfl (G.nil (G.then_n (G.ret ?_)))))))))))))
   exact G.done (l := [.tmp 4, .tmp 5]) rfl rfl ⟨es, τ, x, _, rfl, hh, ⟨by omega, _, _, rfl⟩, rfl⟩ (by (repeat' constructor)) (by (repeat' constructor))
 ·refine G.kDF (t := 15) rfl h4_16 (G.gskip (t := 16) rfl rfl rfl rfl (G.gskip (t := 16) rfl rfl rfl rfl (G.q (Quiet.pickF rfl rfl) rfl (G.nil (G.then_n (G.condF rfl (G.exit (G.then_e (G.then_e (G.blk_e (G.then_n (G.seq (G.region (G.q (Quiet.move rfl) rfl (G.q (Quiet.move rfl) rfl (G.q (Quiet.assign rfl) rfl (G.q (Quiet.assign rfl) rfl (G.nil (G.then_n (G.ret ?_))))))))))))))))))))
  exact G.done (l := [.tmp 4, .tmp 5]) rfl rfl ⟨es, τ, x, _, rfl, hh, ⟨by omega, _, _, rfl⟩, rfl⟩ (by (repeat' constructor)) (by (repeat' constructor))

end Go.Proofs.YtnnbelmpbmfdnaaGreatDoor
/- Own work, by program: package tree: Owned, Session, Kids: walked. -/

namespace Go.Proofs.YtnnbelmpbmfdnaaGreatDoor
open Go
def ownK (l : List (Bs × Nd)) (s : Int) : List Bs := (l.filter fun y => !decide (s = 0) && decide (y.2.st.own = s)).map (·.1)
theorem ownK_len (l : List (Bs × Nd)) (s : Int) : (ownK l s).length ≤ l.length := by unfold ownK; rw [List.length_map]; exact List.length_filter_le _ _
theorem ownK_yes {l : List (Bs × Nd)} {s : Int} {i : Nat} (hi : i < l.length) (h0 : s ≠ 0) (h : l[i].2.st.own = s) : ownK (l.take (i + 1)) s = ownK (l.take i) s ++ [l[i].1] := by
  unfold ownK; rw [List.take_succ_eq_append_getElem hi, List.filter_append, List.map_append]; simp [h0, h]
theorem ownK_no {l : List (Bs × Nd)} {s : Int} {i : Nat} (hi : i < l.length) (h : s ≠ 0 → l[i].2.st.own ≠ s) : ownK (l.take (i + 1)) s = ownK (l.take i) s := by
  unfold ownK; rw [List.take_succ_eq_append_getElem hi, List.filter_append, List.map_append]
  simp; intro h0; exact h h0
theorem TrI.getAt {τ : Tr} {m : NmM} {s : SsM} (h : TrI τ m s) {N : Nat} (ho : τ.Ok N) {i : Nat} (hi : i < τ.nodes.length) : ∃ px, alook m τ.nodes[i].1 = some px ∧ px.2.2 = τ.nodes[i].2 := by
  have h1 : alook τ.nodes τ.nodes[i].1 = some τ.nodes[i].2 := al_of_mem (ho.sorted.nodup linB) (List.getElem_mem hi)
  rw [← h.look] at h1
  rcases e : alook m τ.nodes[i].1 with _ | px
  · rw [e] at h1; cases h1
  · rw [e] at h1; exact ⟨px, rfl, by simpa using h1⟩
def sesD (τ : Tr) (id : Int) : Int × Bs := (alook τ.sess id).getD (0, [])
def sesT (τ : Tr) (id : Int) : Prop := (alook τ.sess id).isSome = true
instance (τ : Tr) (id : Int) : Decidable (sesT τ id) := inferInstanceAs (Decidable (_ = _))
set_option maxRecDepth 100000 in
theorem trowned_spec (t : Nat) (τ : Tr) (id : Int) (N : Nat) (ho : τ.Ok N) (hN : N ≤ 1099511627776) : Fn Tryz.prog 18 #[vptr t, vint id] [treeR t τ] fun v L => (∃ a c, v = .slice a (ownedZ τ id).length c) ∧ L = [treeR t τ, slR 9 1 v (ownedZ τ id).length (strs (ownedZ τ id))] := by
 refine Fn.intro (vs := [vptr t, vint id]) Tryz.func18 rfl rfl ?_
 intro F W
 have hfew := ho.few
 have hpz : (pathsZ τ).length = τ.nodes.length := List.length_map _
 refine G.seq (G.region (G.q (Quiet.assign rfl) rfl (G.nil (G.then_n (G.seq (G.add (slR_nil 9 1) (G.region (G.q (Quiet.assign rfl) rfl (G.nil (G.then_n (G.seq (G.seq (G.region (G.q (Quiet.move rfl) rfl ?_))))))))))))))
 refine G.op (OpSpec.call Tryz.func15 rfl rfl (vs := [_]) rfl (trpaths_spec t τ N ho hN)) (by (repeat' constructor)) rfl ?nx4
 rintro v L' ⟨⟨ap, cp, rfl⟩, rfl⟩
 refine G.q (Quiet.slen rfl Tryz.underlying40 rfl) rfl (G.q (Quiet.move rfl) rfl (G.nil (G.then_n (G.block ?_))))
 refine G.loopK (ι := Nat × Value) (fun q E => (11, vint q.1) :: (5, q.2) :: E) (fun q => [treeR t τ, slR 9 1 q.2 (ownK (τ.nodes.take q.1) id).length (strs (ownK (τ.nodes.take q.1) id))]) (fun q => q.1 ≤ (pathsZ τ).length ∧ ∃ a c, q.2 = .slice a (ownK (τ.nodes.take q.1) id).length c) (fun q => (pathsZ τ).length - q.1) (0, .slice none 0 0) (ts := [0, 1, 4, 9, 10]) (.cons rfl (.cons rfl (.cons rfl (.cons rfl (.cons rfl (.nil)))))) (⟨Nat.zero_le _, none, 0, rfl⟩) ⟨rfl, rfl, rfl, rfl, rfl, rfl, rfl, trivial⟩ (by (repeat' constructor)) ?_
 rintro ⟨i, u⟩ ⟨hi, au, cu, hu⟩
 dsimp only
 dsimp only at hi hu
 subst hu
 have hkl := ownK_len (τ.nodes.take i) id
 rw [List.length_take] at hkl
 refine G.seq (G.region (G.q (Quiet.int rfl rfl rfl) rfl (G.nil (G.then_n (G.seq ?_)))))
 refine G.condD rfl (fun h12 => ?_) (fun h12 => ?_)
 ·have hi2 : i < (pathsZ τ).length := by omega
  have hin : i < τ.nodes.length := by omega
  refine G.slShape (v := .slice ap _ cp) (by (repeat' constructor)) (by omega) fun bp cp' e0 mp _ => ?_
  simp only [Value.slice.injEq, true_and] at e0
  obtain ⟨rfl, rfl⟩ := e0
  have hpi : (pathsZ τ)[i] = τ.nodes[i].1 := by simp [pathsZ]
  refine G.skip (G.then_n (G.seq (G.block (G.seq (G.region ?_)))))
  refine G.q (Quiet.indexAddr rfl rfl el_40 (by omega)) rfl ?_
  refine G.q (Quiet.loadSl (v := vstr (pathsZ τ)[i]) (i := i * 1) rfl ag_9 (by (repeat' constructor)) (by simp [hi2])) rfl ?_
  refine G.q (Quiet.assign rfl) rfl (G.nil (G.then_n (G.seq ?_)))
  refine G.trOpen (τ := τ) (by (repeat' constructor)) fun rn rs m s hI => ?_
  obtain ⟨px, hal, hpx⟩ := hI.getAt ho hin
  rw [← hpi] at hal
  refine G.bigTake hal (by (repeat' constructor)) ?_
  refine G.ndOpen (x := ((pathsZ τ)[i], px)) (by (repeat' constructor)) ?_
  refine G.region (G.q (Quiet.move rfl) rfl (G.q (Quiet.int rfl rfl rfl) rfl (G.q (Quiet.move rfl) rfl ?_)))
  refine G.ndec (t := 17) rfl (fun h5_17 => ?_) (fun h5_17 => ?_)
  ·refine G.kNT (t := 16) rfl h5_17 (G.grun (t := 17) rfl rfl rfl (G.q (Quiet.move rfl) rfl (G.grun (t := 17) rfl rfl rfl (G.q (Quiet.nilp rfl) rfl (G.grun (t := 17) rfl rfl rfl (G.q (Quiet.fieldAddr rfl fo_110_0) rfl (G.grun (t := 17) rfl rfl rfl ?_)))))))
   refine G.q (Quiet.load rfl ag_107 (by (repeat' constructor)) (rfl)) rfl ?_
   refine G.grun (t := 17) rfl rfl rfl (G.q (Quiet.move rfl) rfl (G.grun (t := 17) rfl rfl rfl ?_))
   refine G.q (Quiet.lookupY (m := m) (enc := ndV) (KeyLaw.str Tryz.underlying9) (hal) rfl rfl Tryz.underlying107 ze_102 (by (repeat' constructor)) rfl) rfl ?_
   refine G.grun (t := 17) rfl rfl rfl (G.q (Quiet.nilp rfl) rfl (G.grun (t := 17) rfl rfl rfl (G.q (Quiet.fieldAddr rfl fo_106_2) rfl (G.grun (t := 17) rfl rfl rfl (G.q (Quiet.fieldAddr rfl fo_43_6) rfl (G.grun (t := 17) rfl rfl rfl ?_))))))
   refine G.q (Quiet.to (v' := vint τ.nodes[i].2.st.own) (Quiet.load rfl ag_3 (by (repeat' constructor)) rfl) (by rw [← hpx])) rfl ?_
   refine G.grun (t := 17) rfl rfl rfl (G.q (Quiet.move rfl) rfl (G.grun (t := 17) rfl rfl rfl (G.q (Quiet.int rfl rfl rfl) rfl (G.q (Quiet.pickT rfl rfl) rfl (G.nil ?_)))))
   refine G.ndFold (x := ((pathsZ τ)[i], px)) (by (repeat' constructor)) rfl rfl rfl rfl ?_
   refine G.bigPut (f := inN) (m := m) (pathsZ τ)[i] px rfl (by (repeat' constructor)) ?_
   rw [aset_self hal]
   refine G.trFold (τ := τ) hI (by (repeat' constructor)) rfl rfl rfl ?_
   refine G.then_n ?_
   refine G.condD rfl (fun h30 => ?_) (fun h30 => ?_)
   ·refine G.region (G.q (Quiet.move rfl) rfl (G.q (Quiet.move rfl) rfl ?_))
    refine G.op (OpSpec.buildSlice1 (vs := [_]) el_40 ze_9 rfl rfl rfl rfl rfl (by decide)) (by (repeat' constructor)) rfl ?nx25
    rintro v L' ⟨b6_2, rfl, rfl⟩
    refine G.op (OpSpec.append1 rfl rfl rfl el_40 ze_9 rfl rfl ?c27 ?c28 (Nat.le_refl _) ?c29 (by decide)) (by (repeat' constructor)) rfl ?nx30
    case c27 => (first | (simp [isCell]; done) | (simp [isCell, setAll, Value.cells]; done))
    case c28 => rfl
    case c29 => first | omega | (simp; omega)
    rintro v L' ⟨⟨a6_3, c6_3, rfl⟩, rfl⟩
    refine G.q (Quiet.assign rfl) rfl (G.nil (G.blk_n (G.then_n (G.region ?_))))
    refine G.q (Quiet.add rfl rfl (by omega)) rfl ?_
    refine G.q (Quiet.move rfl) rfl (G.nil (G.then_n ?_))
    have hst := ownK_yes hin h5_17 h30
    rw [show strs (ownK (τ.nodes.take i) id) ++ [vstr (pathsZ τ)[i]] = strs (ownK (τ.nodes.take (i + 1)) id) by rw [hst]; simp [strs, pathsZ], show (ownK (τ.nodes.take i) id).length + 1 = (ownK (τ.nodes.take (i + 1)) id).length by rw [hst, List.length_append]; rfl]
    exact G.roundK ((i + 1, .slice a6_3 (ownK (τ.nodes.take (i + 1)) id).length c6_3)) (⟨by dsimp only; omega, _, _, rfl⟩) (by dsimp only; omega) ⟨rfl, rfl, rfl, rfl, rfl, rfl, rfl, trivial⟩ (by (repeat' constructor)) (by ((repeat (apply Have.cons; (repeat (first | exact Pick.here | apply Pick.there)))); apply Have.base; repeat' constructor))
   ·refine G.skip (G.blk_n (G.then_n (G.region ?_)))
    refine G.q (Quiet.add rfl rfl (by omega)) rfl ?_
    refine G.q (Quiet.move rfl) rfl (G.nil (G.then_n ?_))
    have hst := ownK_no (s := id) hin (fun g => h30)
    rw [← hst]
    exact G.roundK ((i + 1, .slice au (ownK (τ.nodes.take (i + 1)) id).length cu)) (⟨by dsimp only; omega, _, _, rfl⟩) (by dsimp only; omega) ⟨rfl, rfl, rfl, rfl, rfl, rfl, rfl, trivial⟩ (by (repeat' constructor)) (by ((repeat (apply Have.cons; (repeat (first | exact Pick.here | apply Pick.there)))); apply Have.base; repeat' constructor))
  ·refine G.kNF (t := 16) rfl h5_17 (G.gskip (t := 17) rfl rfl rfl rfl (G.gskip (t := 17) rfl rfl rfl rfl (G.gskip (t := 17) rfl rfl rfl rfl (G.gskip (t := 17) rfl rfl rfl rfl (G.gskip (t := 17) rfl rfl rfl rfl (G.gskip (t := 17) rfl rfl rfl rfl (G.gskip (t := 17) rfl rfl rfl rfl (G.gskip (t := 17) rfl rfl rfl rfl (G.gskip (t := 17) rfl rfl rfl rfl (G.gskip (t := 17) rfl rfl rfl rfl (G.gskip (t := 17) rfl rfl rfl rfl (G.gskip (t := 17) rfl rfl rfl rfl (G.q (Quiet.pickF rfl rfl) rfl (G.nil ?_))))))))))))))
   refine G.ndFold (x := ((pathsZ τ)[i], px)) (by (repeat' constructor)) rfl rfl rfl rfl ?_
   refine G.bigPut (f := inN) (m := m) (pathsZ τ)[i] px rfl (by (repeat' constructor)) ?_
   rw [aset_self hal]
   refine G.trFold (τ := τ) hI (by (repeat' constructor)) rfl rfl rfl ?_
   refine G.then_n (G.condF rfl (G.skip (G.blk_n (G.then_n (G.region ?_)))))
   refine G.q (Quiet.add rfl rfl (by omega)) rfl ?_
   refine G.q (Quiet.move rfl) rfl (G.nil (G.then_n ?_))
   have hst := ownK_no (s := id) hin (fun g => absurd h5_17 g)
   rw [← hst]
   exact G.roundK ((i + 1, .slice au (ownK (τ.nodes.take (i + 1)) id).length cu)) (⟨by dsimp only; omega, _, _, rfl⟩) (by dsimp only; omega) ⟨rfl, rfl, rfl, rfl, rfl, rfl, rfl, trivial⟩ (by (repeat' constructor)) (by ((repeat (apply Have.cons; (repeat (first | exact Pick.here | apply Pick.there)))); apply Have.base; repeat' constructor))
 ·have hii : i = τ.nodes.length := by omega
  rw [hii, List.take_length]
  refine G.exit (G.then_e (G.then_e (G.blk_e (G.then_n (G.seq (G.region (G.q (Quiet.move rfl) rfl (G.q (Quiet.assign rfl) rfl (G.nil (G.then_n (G.ret ?_)))))))))))
  exact G.done (l := [.tmp 4]) rfl rfl ⟨⟨_, _, rfl⟩, rfl⟩ (by (repeat' constructor)) (by (repeat' constructor))

set_option maxRecDepth 100000 in
theorem trsession_spec (t : Nat) (τ : Tr) (id : Int) : Fn Tryz.prog 19 #[vptr t, vint id] [treeR t τ] fun v L => v = .tuple #[vint (sesD τ id).1, vstr (sesD τ id).2, .bool (decide (sesT τ id))] ∧ L = [treeR t τ] := by
 refine Fn.intro (vs := [vptr t, vint id]) Tryz.func19 rfl rfl ?_
 intro F W
 refine G.trOpen (τ := τ) (by (repeat' constructor)) fun rn rs m s hI => ?_
 refine G.seq (G.region (G.q (Quiet.assign rfl) rfl (G.q (Quiet.assign rfl) rfl (G.q (Quiet.assign rfl) rfl (G.nil (G.then_n (G.seq (G.region ?_))))))))
 rcases hal : alook s id with _ | y
 ·have hz : sesD τ id = (0, []) ∧ ¬ sesT τ id := by unfold sesD sesT; rw [← hI.slook, hal]; exact ⟨rfl, by simp⟩
  refine G.q (Quiet.move rfl) rfl (G.q (Quiet.nilp rfl) rfl (G.q (Quiet.fieldAddr rfl fo_110_1) rfl ?_))
  refine G.q (Quiet.load rfl ag_108 (by (repeat' constructor)) (rfl)) rfl ?_
  refine G.q (Quiet.move rfl) rfl ?_
  refine G.q (Quiet.lookupOkN (m := s) (enc := ssV) (KeyLaw.int Tryz.underlying3) hal rfl rfl Tryz.underlying108 ze_112 (by (repeat' constructor)) rfl) rfl ?_
  refine G.q (Quiet.move rfl) rfl (G.q (Quiet.extract rfl rfl) rfl (G.q (Quiet.extract rfl rfl) rfl ?_))
  refine G.op (OpSpec.allocA ze_112) (by (repeat' constructor)) rfl ?nx12
  rintro v L' ⟨b7, rfl, rfl⟩
  refine G.op (OpSpec.storeA rfl rfl ?c14 sz_112 ?c17 ?c15 ?c16) (by (repeat' constructor)) rfl ?nx18
  case c14 => (first | (simp [isCell]; done) | (simp [isCell, setAll, Value.cells]; done))
  case c17 => rfl
  case c15 => simp
  case c16 => exact nfz0 _ _
  rintro v L' rfl
  refine G.q (Quiet.assign rfl) rfl (G.nil ?_)
  refine G.ptCast (b := b7) (l' := [vint (sesD τ id).1, vstr (sesD τ id).2]) (by (repeat' constructor)) (by rw [hz.1]; rfl) ?_
  refine G.then_n (G.seq ?_)
  refine G.draw [] [[0, 1, 2, 3, 4, 5, 6, 7]] mixed (by kernel_rfl) ?_
  refine Phases.go [] (by (repeat' constructor)) ?_
  refine D.qw [1, 5, 6, 7] rfl (by kernel_rfl) (Quiet.fieldAddr rfl fo_112_0) ?_
  refine D.qw [5, 6, 7] rfl (by kernel_rfl) (Quiet.load rfl ag_3 (by (repeat' constructor)) (rfl)) ?_
  refine D.qw [3, 6, 7] rfl (by kernel_rfl) (Quiet.fieldAddr rfl fo_112_1) ?_
  refine D.qw [6, 7] rfl (by kernel_rfl) (Quiet.load rfl ag_9 (by (repeat' constructor)) (rfl)) ?_
  refine D.qw [7] rfl (by kernel_rfl) (Quiet.move rfl) ?_
  refine D.qw [6, 7] rfl (by kernel_rfl) (Quiet.assign rfl) ?_
  refine D.qw [7] rfl (by kernel_rfl) (Quiet.assign rfl) ?_
  refine D.qw [] rfl (by kernel_rfl) (Quiet.assign rfl) ?_
  refine D.ph (Phases.fin (G.then_n (G.ret ?_)))
  refine G.trFold (τ := τ) hI (by (repeat' constructor)) rfl rfl rfl ?_
  exact G.done (l := [.tmp 4, .tmp 5, .tmp 6]) rfl rfl ⟨by rw [decide_eq_false hz.2], rfl⟩ (by (repeat' constructor)) (by (repeat' constructor))
 ·have hz : sesD τ id = y ∧ sesT τ id := by unfold sesD sesT; rw [← hI.slook, hal]; exact ⟨rfl, rfl⟩
  refine G.q (Quiet.move rfl) rfl (G.q (Quiet.nilp rfl) rfl (G.q (Quiet.fieldAddr rfl fo_110_1) rfl ?_))
  refine G.q (Quiet.load rfl ag_108 (by (repeat' constructor)) (rfl)) rfl ?_
  refine G.q (Quiet.move rfl) rfl ?_
  refine G.q (Quiet.lookupOkY (m := s) (enc := ssV) (KeyLaw.int Tryz.underlying3) hal rfl rfl Tryz.underlying108 ze_112 (by (repeat' constructor)) rfl) rfl ?_
  refine G.q (Quiet.move rfl) rfl (G.q (Quiet.extract rfl rfl) rfl (G.q (Quiet.extract rfl rfl) rfl ?_))
  refine G.op (OpSpec.allocA ze_112) (by (repeat' constructor)) rfl ?nx31
  rintro v L' ⟨b7, rfl, rfl⟩
  refine G.op (OpSpec.storeA rfl rfl ?c33 sz_112 ?c36 ?c34 ?c35) (by (repeat' constructor)) rfl ?nx37
  case c33 => (first | (simp [isCell]; done) | (simp [isCell, setAll, Value.cells]; done))
  case c36 => rfl
  case c34 => simp
  case c35 => exact nfz0 _ _
  rintro v L' rfl
  refine G.q (Quiet.assign rfl) rfl (G.nil ?_)
  refine G.ptCast (b := b7) (l' := [vint (sesD τ id).1, vstr (sesD τ id).2]) (by (repeat' constructor)) (by rw [hz.1]; rfl) ?_
  refine G.then_n (G.seq ?_)
  refine G.draw [] [[0, 1, 2, 3, 4, 5, 6, 7]] mixed (by kernel_rfl) ?_
  refine Phases.go [] (by (repeat' constructor)) ?_
  refine D.qw [1, 5, 6, 7] rfl (by kernel_rfl) (Quiet.fieldAddr rfl fo_112_0) ?_
  refine D.qw [5, 6, 7] rfl (by kernel_rfl) (Quiet.load rfl ag_3 (by (repeat' constructor)) (rfl)) ?_
  refine D.qw [3, 6, 7] rfl (by kernel_rfl) (Quiet.fieldAddr rfl fo_112_1) ?_
  refine D.qw [6, 7] rfl (by kernel_rfl) (Quiet.load rfl ag_9 (by (repeat' constructor)) (rfl)) ?_
  refine D.qw [7] rfl (by kernel_rfl) (Quiet.move rfl) ?_
  refine D.qw [6, 7] rfl (by kernel_rfl) (Quiet.assign rfl) ?_
  refine D.qw [7] rfl (by kernel_rfl) (Quiet.assign rfl) ?_
  refine D.qw [] rfl (by kernel_rfl) (Quiet.assign rfl) ?_
  refine D.ph (Phases.fin (G.then_n (G.ret ?_)))
  refine G.trFold (τ := τ) hI (by (repeat' constructor)) rfl rfl rfl ?_
  exact G.done (l := [.tmp 4, .tmp 5, .tmp 6]) rfl rfl ⟨by rw [decide_eq_true hz.2], rfl⟩ (by (repeat' constructor)) (by (repeat' constructor))

set_option maxRecDepth 100000 in
theorem trkids_spec (t : Nat) (τ : Tr) (p : Bs) (N : Nat) (ho : τ.Ok N) (hN : N ≤ 1099511627776) : Fn Tryz.prog 50 #[vptr t, vstr p] [treeR t τ] fun v L => ∃ (u : Value) (l : List Bs), v = .tuple #[u, vint (if thereT τ p then 0 else 60)] ∧ True ∧ l = (if thereT τ p then kidsZ τ p else []) ∧ (∃ a c, u = .slice a l.length c) ∧ L = [treeR t τ, slR 9 1 u l.length (strs l)] := by
 refine Fn.intro (vs := [vptr t, vstr p]) Tryz.func50 rfl rfl ?_
 intro F W
 refine G.trOpen (τ := τ) (by (repeat' constructor)) fun rn rs m s hI => ?_
 have hlen := hI.len ho
 have hfew := ho.few
 refine G.seq (G.region (G.q (Quiet.assign rfl) rfl (G.q (Quiet.assign rfl) rfl (G.nil (G.then_n (G.seq (G.seq (G.region ?_))))))))
 rcases hal : alook m p with _ | px
 ·refine G.q (Quiet.move rfl) rfl (G.q (Quiet.nilp rfl) rfl (G.q (Quiet.fieldAddr rfl fo_110_0) rfl ?_))
  refine G.q (Quiet.load rfl ag_107 (by (repeat' constructor)) (rfl)) rfl ?_
  refine G.q (Quiet.move rfl) rfl ?_
  refine G.q (Quiet.lookupN (m := m) (enc := ndV) (KeyLaw.str Tryz.underlying9) (hal) rfl rfl Tryz.underlying107 ze_102 (by (repeat' constructor)) rfl) rfl ?_
  refine G.q (Quiet.as (v' := .bool true) (by rfl) (Quiet.ptreq rfl rfl Tryz.underlying102)) rfl ?_
  refine G.nil (G.then_n (G.condT rfl (G.seq (G.region (G.q (Quiet.assign rfl) rfl (G.q (Quiet.assign rfl) rfl (G.nil (G.then_n (G.ret (G.then_r ?_))))))))))
  refine G.trFold (τ := τ) hI (by (repeat' constructor)) rfl rfl rfl ?_
  refine G.add (slR_nil 9 1) ?_
  have hth : ¬ thereT τ p := hI.none_iff.1 hal
  exact G.done (l := [.tmp 4, .tmp 5]) rfl rfl ⟨.slice none 0 0, [], by rw [if_neg hth]; try rfl, trivial, (by rw [if_neg hth]), ⟨none, 0, rfl⟩, rfl⟩ (by (repeat' constructor)) (by (repeat' constructor))
 ·refine G.q (Quiet.move rfl) rfl (G.q (Quiet.nilp rfl) rfl (G.q (Quiet.fieldAddr rfl fo_110_0) rfl ?_))
  refine G.q (Quiet.load rfl ag_107 (by (repeat' constructor)) (rfl)) rfl ?_
  refine G.q (Quiet.move rfl) rfl ?_
  refine G.q (Quiet.lookupY (m := m) (enc := ndV) (KeyLaw.str Tryz.underlying9) (hal) rfl rfl Tryz.underlying107 ze_102 (by (repeat' constructor)) rfl) rfl ?_
  refine G.q (Quiet.as (v' := .bool false) (by rfl) (Quiet.ptreq rfl rfl Tryz.underlying102)) rfl ?_
  refine G.nil (G.then_n (G.condF rfl (G.skip (G.then_n (G.seq (G.region (G.q (Quiet.move rfl) rfl (G.q (Quiet.move rfl) rfl ?_))))))))
  refine G.op (OpSpec.call Tryz.func49 rfl rfl (vs := [_, _]) rfl (trkids0_spec t rn (.map (some rs)) (vint τ.zx) m p (hI.plen ho) (by omega))) (by (repeat' constructor)) rfl ?nx21
  rintro v L' ⟨⟨a5, c5, rfl⟩, rfl⟩
  refine G.q (Quiet.assign rfl) rfl (G.q (Quiet.assign rfl) rfl (G.nil (G.then_n (G.ret ?_))))
  refine G.trFold (τ := τ) hI (by (repeat' constructor)) rfl rfl rfl ?_
  have hth : thereT τ p := hI.some_iff hal
  have hkl : (kidsM m p).length = (kidsZ τ p).length := by rw [← hI.kids ho p, sortS_length]
  rw [hI.kids ho p, hkl]
  exact G.done (l := [.tmp 4, .tmp 5]) rfl rfl ⟨_, kidsZ τ p, by rw [if_pos hth], trivial, by rw [if_pos hth], ⟨_, _, rfl⟩, rfl⟩ (by (repeat' constructor)) (by (repeat' constructor))

end Go.Proofs.YtnnbelmpbmfdnaaGreatDoor
/- Own work: who owns what in a sound history: plain. -/
namespace Go.Proofs.YtnnbelmpbmfdnaaGreatDoor
open Go

def manyTo (τ : Tr) : Nat → Nat
  | 0 => 0
  | s + 1 => manyTo τ s + if s = 0 then 0 else (ownedZ τ s).length
def freeK (l : List (Bs × Nd)) : Nat := (l.filter fun y => decide (y.2.st.own = 0)).length
theorem freeK_yes {l : List (Bs × Nd)} {i : Nat} (hi : i < l.length) (h : l[i].2.st.own = 0) : freeK (l.take (i + 1)) = freeK (l.take i) + 1 := by
  unfold freeK; rw [List.take_succ_eq_append_getElem hi, List.filter_append]; simp [h]
theorem freeK_no {l : List (Bs × Nd)} {i : Nat} (hi : i < l.length) (h : ¬ l[i].2.st.own = 0) : freeK (l.take (i + 1)) = freeK (l.take i) := by
  unfold freeK; rw [List.take_succ_eq_append_getElem hi, List.filter_append]; simp [h]
theorem freeK_len (l : List (Bs × Nd)) : freeK l ≤ l.length := List.length_filter_le _ _
theorem many_step (τ : Tr) {s : Nat} (h : 1 ≤ s) : manyTo τ (s + 1) = manyTo τ s + (ownedZ τ s).length := by
  show manyTo τ s + (if s = 0 then 0 else (ownedZ τ s).length) = _
  rw [if_neg (by omega)]
theorem many_len (τ : Tr) (s : Nat) : manyTo τ s ≤ s * τ.nodes.length := by
  induction s with
  | zero => simp [manyTo]
  | succ s ih =>
    unfold manyTo
    have := owned_len τ s
    rw [Nat.succ_mul]
    split <;> omega
theorem own_count (l : List (Bs × Nd)) (h : ∀ y ∈ l, 0 ≤ y.2.st.own ∧ y.2.st.own ≤ 5) : freeK l + ((((((0 + (ownK l 1).length) + (ownK l 2).length) + (ownK l 3).length) + (ownK l 4).length) + (ownK l 5).length)) = l.length := by
  induction l with
  | nil => rfl
  | cons y l ih =>
    have ih2 := ih fun z hz => h z (List.mem_cons_of_mem _ hz)
    have hy := h y List.mem_cons_self
    have e : ∀ s : Int, s ≠ 0 → (ownK (y :: l) s).length = (ownK l s).length + if y.2.st.own = s then 1 else 0 := by
      intro s hs
      unfold ownK
      rw [List.filter_cons]
      by_cases g : y.2.st.own = s <;> simp [hs, g]
    have e0 : freeK (y :: l) = freeK l + if y.2.st.own = 0 then 1 else 0 := by
      unfold freeK
      rw [List.filter_cons]
      by_cases g : y.2.st.own = 0 <;> simp [g]
    rw [e0, e 1 (by decide), e 2 (by decide), e 3 (by decide), e 4 (by decide), e 5 (by decide), List.length_cons]
    have : y.2.st.own = 0 ∨ y.2.st.own = 1 ∨ y.2.st.own = 2 ∨ y.2.st.own = 3 ∨ y.2.st.own = 4 ∨ y.2.st.own = 5 := by omega
    rcases this with g | g | g | g | g | g <;> rw [g] <;> simp <;> omega
theorem owners_all {τ : Tr} {K : Int} (h : HInv τ K) : freeK τ.nodes + manyTo τ 6 = τ.nodes.length := by
  have := own_count τ.nodes fun y hy => by
    have hn := al_of_mem (h.ok.sorted.nodup linB) (show (y.1, y.2) ∈ τ.nodes from hy)
    rcases h.own _ _ hn with e | ⟨s, e⟩
    · omega
    · have := h.ids _ _ e; omega
  exact this
theorem owned_ses {τ : Tr} {K : Int} (h : HInv τ K) {s : Int} (hl : 0 < (ownedZ τ s).length) : sesT τ s := by
  obtain ⟨q, hq⟩ := List.exists_mem_of_length_pos hl
  obtain ⟨h0, n, h1, h2⟩ := (owned_mem (h.ok.sorted.nodup linB)).1 hq
  rcases h.own q n h1 with e | ⟨r, e⟩
  · exact absurd (h2.symm.trans e) h0
  · unfold sesT; rw [← h2, e]; rfl
theorem owned_zero (τ : Tr) : ownedZ τ 0 = [] := by
  unfold ownedZ
  rw [List.map_eq_nil_iff]
  exact List.filter_eq_nil_iff.2 fun y _ => by simp
theorem stat_at {τ : Tr} {N : Nat} (ho : τ.Ok N) {i : Nat} (hi : i < τ.nodes.length) : statD τ τ.nodes[i].1 = { τ.nodes[i].2.st with len := τ.nodes[i].2.data.length, kids := (kidsZ τ τ.nodes[i].1).length } ∧ thereT τ τ.nodes[i].1 := by
  have h1 : alook τ.nodes τ.nodes[i].1 = some τ.nodes[i].2 := al_of_mem (ho.sorted.nodup linB) (List.getElem_mem hi)
  unfold statD statZ thereT
  rw [h1]; exact ⟨rfl, rfl⟩
theorem Hist.ok {z0 : Int} {l : List En} {τ : Tr} (h : Hist z0 l τ) {i : Nat} (hi : i ≤ l.length) : (appL newT (l.take i)).Ok 60 := (h.take i hi).inv.ok
theorem Hist.few {z0 : Int} {l : List En} {τ : Tr} (h : Hist z0 l τ) {i : Nat} (hi : i < l.length) : l[i].subs.length ≤ 60 := (h.at i hi).1.shape.sz.few
theorem en_cell {l : List En} {i k : Nat} (hi : i < l.length) (hk : k < 11) : (l.flatMap enC)[i * 11 + k]? = (enC l[i])[k]? := flatMap_cell (f := enC) (sz := 11) (fun _ _ => rfl) hi hk
end Go.Proofs.YtnnbelmpbmfdnaaGreatDoor
/- Own work, by program: law 07: who owns what: walked. -/
namespace Go.Proofs.YtnnbelmpbmfdnaaGreatDoor
open Go
set_option maxRecDepth 100000 in
theorem towners7_spec (v : Value) (xs : List Ac0) (p : HP) (hx : Acts1 p v xs) : Fn Tryz.prog 3 #[v] [p] fun r L => r = .bool true ∧ L = [p] := by
 refine Fn.intro (vs := [v]) Tryz.func3 rfl rfl ?_
 intro F W
 refine G.seq (G.region (G.q (Quiet.assign rfl) rfl (G.nil (G.then_n (G.seq (G.region ?_))))))
 refine G.op (OpSpec.call Tryz.func11 rfl rfl (vs := []) rfl (awake7_spec)) (by (repeat' constructor)) rfl ?nx2
 rintro v L' ⟨rfl, rfl⟩
 refine G.q (Quiet.assign rfl) rfl (G.nil (G.then_n (G.seq (G.region (G.q (Quiet.move rfl) rfl ?_)))))
 refine G.op (OpSpec.call Tryz.func12 rfl rfl (vs := [_, _]) rfl (history7_spec v xs 1 p hx (by decide))) (by (repeat' constructor)) rfl ?nx5
 rintro v L' ⟨es, τ, x, u, rfl, hh, ⟨hes, au, cu, rfl⟩, rfl⟩; have hinv := hh.inv; have hok := hinv.ok; have hfew := hok.few
 refine G.q (Quiet.move rfl) rfl (G.q (Quiet.extract rfl rfl) rfl (G.q (Quiet.extract rfl rfl) rfl (G.q (Quiet.assign rfl) rfl (G.q (Quiet.assign rfl) rfl (G.nil (G.then_n (G.seq (G.region ?_))))))))
 refine G.op (OpSpec.call Tryz.func13 rfl rfl (vs := []) rfl (trnew_spec)) (by (repeat' constructor)) rfl ?nx9
 rintro v L' ⟨t, rfl, rfl⟩
 refine G.q (Quiet.assign rfl) rfl (G.nil (G.then_n (G.seq (G.seq (G.region (G.q (Quiet.move rfl) rfl (G.q (Quiet.not rfl) rfl (G.q (Quiet.move rfl) rfl (G.grun (t := 32) rfl rfl rfl (G.q (Quiet.move rfl) rfl (G.grun (t := 32) rfl rfl rfl ?_)))))))))))
 refine G.q (Quiet.as (v' := .bool false) (by rfl) (Quiet.ptreq rfl rfl Tryz.underlying28)) rfl ?_
 refine G.q (Quiet.pickF rfl rfl) rfl (G.nil (G.then_n (G.condF rfl (G.skip (G.then_n (G.seq (G.seq (G.region (G.q (Quiet.assign rfl) rfl (G.nil (G.then_n (G.block ?_))))))))))))
 refine G.trCast (τ' := appL newT (es.take 0)) (by (repeat' constructor)) (by rw [List.take_zero]; rfl) ?_
 refine G.loopK (ι := Nat) (fun q E => (7, vint q) :: E) (fun q => [treeR t (appL newT (es.take q))]) (fun q => q ≤ es.length) (fun q => es.length - q) (0) (ts := [2, 4, 6]) (.cons rfl (.cons rfl (.cons rfl (.nil)))) (Nat.zero_le _) ⟨rfl, rfl, rfl, rfl, trivial⟩ (by (repeat' constructor)) ?_
 rintro i hi
 refine G.seq (G.seq (G.region (G.q (Quiet.move rfl) rfl (G.q (Quiet.move rfl) rfl (G.q (Quiet.slen rfl Tryz.underlying24 rfl) rfl (G.q (Quiet.int rfl rfl rfl) rfl (G.nil (G.then_n ?_))))))))
 refine G.condD rfl (fun h39 => ?_) (fun h39 => ?_)
 ·have hi2 : i < es.length := by omega
  refine G.slShape (T := 39) (sz := 11) (v := .slice au es.length cu) (xs := es.flatMap enC) (by (repeat' constructor)) (by omega) fun be be' e0 mbe _ => ?_
  simp only [Value.slice.injEq, true_and] at e0
  obtain ⟨rfl, rfl⟩ := e0
  refine G.skip (G.then_n (G.seq (G.block (G.region (G.q (Quiet.move rfl) rfl (G.q (Quiet.move rfl) rfl (G.q (Quiet.move rfl) rfl ?_)))))))
  refine G.q (Quiet.indexAddr rfl rfl el_24 (by omega)) rfl ?_
  refine G.q (Quiet.loadRdA (sz := 11) (j := i * 11) (k := 11) (p := slR 39 11 _ es.length (es.flatMap enC)) (vs := enC es[i]) rfl ag_39 (by (repeat' constructor)) (fun h hp => slR_rd hp) (by simp) (by omega) (by omega) (flatMap_at (f := enC) (sz := 11) (fun _ _ => rfl) (by omega))) rfl ?_
  refine G.op (OpSpec.call Tryz.func14 rfl rfl (vs := [_, _]) rfl (trapply_spec t (appL newT (es.take i)) es[i].zx es[i].ses es[i].xid es[i].x es[i].subs (ensA es) (hh.tx i hi2) 60 (hh.ok hi) (by have := hh.few hi2; omega))) (by (repeat' constructor)) rfl ?nx23
  rintro v L' ⟨ue, ee, rfl, he, hue, rfl⟩
  refine G.nil (G.blk_n (G.then_n (G.region (G.q (Quiet.move rfl) rfl ?_))))
  refine G.q (Quiet.add rfl rfl (by omega)) rfl ?_
  refine G.q (Quiet.assign rfl) rfl (G.nil (G.then_n ?_))
  refine G.trCast (τ' := appL newT (es.take (i + 1))) (by (repeat' constructor)) (by rw [appL_step _ hi2]; rfl) ?_
  exact G.roundK (i + 1) (by omega) (by omega) ⟨rfl, rfl, rfl, rfl, trivial⟩ (by (repeat' constructor)) (by ((repeat (apply Have.cons; (repeat (first | exact Pick.here | apply Pick.there)))); apply Have.base; repeat' constructor))
 ·have hii : i = es.length := by omega
  rw [hii, List.take_length, ← hh.tree]
  have hpz : (pathsZ τ).length = τ.nodes.length := List.length_map _
  refine G.exit (G.then_e (G.then_e (G.blk_e (G.then_n (G.seq (G.region (G.q (Quiet.move rfl) rfl ?_)))))))
  refine G.op (OpSpec.call Tryz.func15 rfl rfl (vs := [_]) rfl (trpaths_spec t τ 60 hok (by decide))) (by (repeat' constructor)) rfl ?nx28
  rintro v L' ⟨⟨ap, cp, rfl⟩, rfl⟩
  refine G.q (Quiet.assign rfl) rfl (G.nil (G.then_n (G.seq (G.region (G.q (Quiet.assign rfl) rfl (G.nil (G.then_n (G.seq (G.seq (G.region (G.q (Quiet.assign rfl) rfl (G.nil (G.then_n (G.block ?_))))))))))))))
  refine G.loopK (ι := Nat) (fun q E => (10, vint q) :: (9, vint (manyTo τ q)) :: E) (fun q => [treeR t τ]) (fun q => 1 ≤ q ∧ q ≤ 6) (fun q => 6 - q) (1) (ts := [6, 8]) (.cons rfl (.cons rfl (.nil))) (⟨by decide, by decide⟩) ⟨rfl, rfl, rfl, rfl, trivial⟩ (by (repeat' constructor)) ?_
  rintro s ⟨hs1, hs6⟩
  have hml := many_len τ s
  have hml2 : s * τ.nodes.length ≤ 6 * 60 := Nat.mul_le_mul hs6 hfew
  have hol := owned_len τ s
  refine G.seq (G.seq (G.region (G.q (Quiet.move rfl) rfl (G.q (Quiet.int rfl rfl rfl) rfl (G.nil (G.then_n ?_))))))
  refine G.condD rfl (fun h51 => ?_) (fun h51 => ?_)
  ·refine G.skip (G.then_n (G.seq (G.block (G.seq (G.region (G.q (Quiet.assign rfl) rfl (G.nil (G.then_n (G.seq (G.seq (G.add (slR_nil 9 1) (G.region (G.q (Quiet.assign rfl) rfl (G.nil (G.then_n (G.block ?_))))))))))))))))
   refine G.loopK (ι := Nat × Value) (fun q E => (12, vint q.1) :: (11, q.2) :: (9, vint ((manyTo τ s + (ownK (τ.nodes.take q.1) s).length : Nat) : Int)) :: E) (fun q => [treeR t τ, slR 9 1 q.2 (ownK (τ.nodes.take q.1) s).length (strs (ownK (τ.nodes.take q.1) s))]) (fun q => q.1 ≤ (pathsZ τ).length ∧ ∃ a c, q.2 = .slice a (ownK (τ.nodes.take q.1) s).length c) (fun q => (pathsZ τ).length - q.1) (0, .slice none 0 0) (ts := [6, 8, 10, 50, 51]) (.cons rfl (.cons rfl (.cons rfl (.cons rfl (.cons rfl (.nil)))))) (⟨Nat.zero_le _, none, 0, rfl⟩) ⟨rfl, rfl, rfl, rfl, rfl, rfl, rfl, rfl, trivial⟩ (by (repeat' constructor)) ?_
   rintro ⟨i, w⟩ ⟨hi, aw, cw, hw⟩
   dsimp only
   dsimp only at hi hw
   subst hw
   have hkl := ownK_len (τ.nodes.take i) s
   rw [List.length_take] at hkl
   refine G.seq (G.seq (G.region (G.q (Quiet.move rfl) rfl (G.q (Quiet.move rfl) rfl (G.q (Quiet.slen rfl Tryz.underlying40 rfl) rfl (G.q (Quiet.int rfl rfl rfl) rfl (G.nil (G.then_n ?_))))))))
   refine G.condD rfl (fun h57 => ?_) (fun h57 => ?_)
   ·have hi2 : i < (pathsZ τ).length := by omega
    have hin : i < τ.nodes.length := by omega
    refine G.slShape (v := .slice ap _ cp) (xs := strs (pathsZ τ)) (by (repeat' constructor)) (by omega) fun bp cp' e0 mp _ => ?_
    simp only [Value.slice.injEq, true_and] at e0
    obtain ⟨rfl, rfl⟩ := e0
    have hpi : (pathsZ τ)[i] = τ.nodes[i].1 := by simp [pathsZ]
    obtain ⟨hst, hth⟩ := stat_at hok hin
    rw [← hpi] at hth
    refine G.skip (G.then_n (G.seq (G.block (G.seq (G.region (G.q (Quiet.move rfl) rfl (G.q (Quiet.move rfl) rfl (G.q (Quiet.move rfl) rfl ?_))))))))
    refine G.q (Quiet.indexAddr rfl rfl el_40 (by omega)) rfl ?_
    refine G.q (Quiet.loadRd (sz := 1) (j := i * 1) (p := slR 9 1 _ (pathsZ τ).length (strs (pathsZ τ))) rfl ag_9 (by (repeat' constructor)) (fun h hp => slR_rd hp) (by omega) (strs_at hi2)) rfl ?_
    refine G.op (OpSpec.call Tryz.func16 rfl rfl (vs := [_, _]) rfl (trstat_spec t τ (pathsZ τ)[i] 60 hok (by decide))) (by (repeat' constructor)) rfl ?nx45
    rintro v L' ⟨rfl, rfl⟩; rw [decide_eq_true (hth)]
    refine G.q (Quiet.move rfl) rfl (G.q (Quiet.extract rfl rfl) rfl (G.q (Quiet.extract rfl rfl) rfl ?_))
    refine G.op (OpSpec.allocA ze_43) (by (repeat' constructor)) rfl ?nx49
    rintro v L' ⟨b13, rfl, rfl⟩
    refine G.op (OpSpec.storeA rfl rfl ?c51 sz_43 ?c54 ?c52 ?c53) (by (repeat' constructor)) rfl ?nx55
    case c51 => intro v hv; simp only [stC, List.mem_cons, List.not_mem_nil, or_false] at hv; rcases hv with rfl | rfl | rfl | rfl | rfl | rfl | rfl | rfl | rfl <;> rfl
    case c54 => rfl
    case c52 => simp [stC]
    case c53 => exact nfz0 _ _
    rintro v L' rfl
    refine G.q (Quiet.assign rfl) rfl (G.nil ?_)
    refine G.ptCast (b := b13) (l' := stC (statD τ (pathsZ τ)[i])) (by (repeat' constructor)) rfl ?_
    have hown : (statD τ (pathsZ τ)[i]).own = τ.nodes[i].2.st.own := by simp only [hpi]; rw [hst]
    refine G.then_n (G.seq (G.seq (G.region (G.q (Quiet.move rfl) rfl (G.q (Quiet.not rfl) rfl (G.nil (G.then_n (G.condF rfl (G.skip (G.then_n (G.seq (G.region (G.q (Quiet.fieldAddr rfl fo_43_6) rfl ?_)))))))))))))
    refine G.q (Quiet.load rfl ag_3 (by (repeat' constructor)) (rfl)) rfl ?_
    refine G.q (Quiet.move rfl) rfl (G.q (Quiet.int rfl rfl rfl) rfl (G.nil (G.then_n ?_)))
    refine G.condD rfl (fun h74 => ?_) (fun h74 => ?_)
    ·refine G.seq (G.region (G.q (Quiet.move rfl) rfl (G.q (Quiet.move rfl) rfl (G.q (Quiet.move rfl) rfl ?_))))
     refine G.q (Quiet.indexAddr rfl rfl el_40 (by omega)) rfl ?_
     refine G.q (Quiet.loadRd (sz := 1) (j := i * 1) (p := slR 9 1 _ (pathsZ τ).length (strs (pathsZ τ))) rfl ag_9 (by (repeat' constructor)) (fun h hp => slR_rd hp) (by omega) (strs_at hi2)) rfl ?_
     refine G.op (OpSpec.buildSlice1 (vs := [_]) el_40 ze_9 rfl rfl rfl rfl rfl (by decide)) (by (repeat' constructor)) rfl ?nx66
     rintro v L' ⟨b23, rfl, rfl⟩
     refine G.op (OpSpec.append1 rfl rfl rfl el_40 ze_9 rfl rfl ?c68 ?c69 (Nat.le_refl _) ?c70 (by decide)) (by (repeat' constructor)) rfl ?nx71
     case c68 => (first | (simp [isCell]; done) | (simp [isCell, setAll, Value.cells]; done))
     case c69 => rfl
     case c70 => first | omega | (simp; omega)
     rintro v L' ⟨⟨a23_6, c23_6, rfl⟩, rfl⟩
     refine G.q (Quiet.assign rfl) rfl (G.nil (G.then_n (G.region (G.q (Quiet.move rfl) rfl ?_))))
     refine G.q (Quiet.add rfl rfl (by omega)) rfl ?_
     refine G.q (Quiet.assign rfl) rfl (G.nil (G.blk_n (G.then_n (G.region (G.q (Quiet.move rfl) rfl ?_)))))
     refine G.q (Quiet.add rfl rfl (by omega)) rfl ?_
     refine G.q (Quiet.assign rfl) rfl (G.nil (G.then_n ?_))
     have hst2 := ownK_yes (s := (s : Int)) hin (by omega) (hown.symm.trans h74)
     rw [show strs (ownK (τ.nodes.take i) s) ++ [vstr (pathsZ τ)[i]] = strs (ownK (τ.nodes.take (i + 1)) s) by rw [hst2]; simp [strs, pathsZ], show (ownK (τ.nodes.take i) s).length + 1 = (ownK (τ.nodes.take (i + 1)) s).length by rw [hst2, List.length_append]; rfl]
     rw [show (((manyTo τ s + (ownK (τ.nodes.take i) s).length : Nat) : Int) + 1) = ((manyTo τ s + (ownK (τ.nodes.take (i + 1)) s).length : Nat) : Int) by rw [hst2, List.length_append]; simp; omega]
     exact G.roundK ((i + 1, .slice a23_6 (ownK (τ.nodes.take (i + 1)) s).length c23_6)) (⟨by dsimp only; omega, _, _, rfl⟩) (by dsimp only; omega) ⟨rfl, rfl, rfl, rfl, rfl, rfl, rfl, rfl, trivial⟩ (by (repeat' constructor)) (by ((repeat (apply Have.cons; (repeat (first | exact Pick.here | apply Pick.there)))); apply Have.base; repeat' constructor))
    ·refine G.skip (G.blk_n (G.then_n (G.region (G.q (Quiet.move rfl) rfl ?_))))
     refine G.q (Quiet.add rfl rfl (by omega)) rfl ?_
     refine G.q (Quiet.assign rfl) rfl (G.nil (G.then_n ?_))
     have hst2 := ownK_no (s := (s : Int)) hin (fun _ g => h74 (hown.trans g))
     rw [← hst2]
     exact G.roundK ((i + 1, .slice aw (ownK (τ.nodes.take (i + 1)) s).length cw)) (⟨by dsimp only; omega, _, _, rfl⟩) (by dsimp only; omega) ⟨rfl, rfl, rfl, rfl, rfl, rfl, rfl, rfl, trivial⟩ (by (repeat' constructor)) (by ((repeat (apply Have.cons; (repeat (first | exact Pick.here | apply Pick.there)))); apply Have.base; repeat' constructor))
   ·have hii2 : i = τ.nodes.length := by omega
    rw [hii2, List.take_length, show ownK τ.nodes (s : Int) = ownedZ τ s from rfl]
    refine G.exit (G.then_e (G.then_e (G.blk_e (G.then_n (G.seq (G.region (G.q (Quiet.move rfl) rfl (G.q (Quiet.move rfl) rfl ?_))))))))
    refine G.op (OpSpec.call Tryz.func18 rfl rfl (vs := [_, _]) rfl (trowned_spec t τ s 60 hok (by decide))) (by (repeat' constructor)) rfl ?nx81
    rintro v L' ⟨⟨ao, co, rfl⟩, rfl⟩
    refine G.q (Quiet.move rfl) rfl ?_
    refine G.op (OpSpec.call Tryz.func17 rfl rfl (vs := [_, _]) rfl (texts7_spec (ownedZ τ s) (ownedZ τ s) _ _ (by omega))) (by (repeat' constructor)) rfl ?nx84
    rintro v L' ⟨rfl, rfl⟩; rw [decide_eq_true rfl]
    refine G.q (Quiet.assign rfl) rfl (G.nil (G.then_n (G.seq (G.region (G.q (Quiet.move rfl) rfl (G.q (Quiet.move rfl) rfl ?_))))))
    refine G.op (OpSpec.call Tryz.func19 rfl rfl (vs := [_, _]) rfl (trsession_spec t τ s)) (by (repeat' constructor)) rfl ?nx88
    rintro v L' ⟨rfl, rfl⟩
    refine G.q (Quiet.move rfl) rfl (G.q (Quiet.extract rfl rfl) rfl (G.q (Quiet.extract rfl rfl) rfl (G.q (Quiet.extract rfl rfl) rfl (G.q (Quiet.assign rfl) rfl (G.q (Quiet.assign rfl) rfl (G.q (Quiet.assign rfl) rfl (G.nil (G.then_n (G.seq (G.region (G.q (Quiet.move rfl) rfl (G.q (Quiet.not rfl) rfl (G.q (Quiet.move rfl) rfl (G.grun (t := 98) rfl rfl rfl (G.q (Quiet.move rfl) rfl (G.grun (t := 98) rfl rfl rfl (G.q (Quiet.slen rfl Tryz.underlying40 rfl) rfl (G.grun (t := 98) rfl rfl rfl (G.q (Quiet.int rfl rfl rfl) rfl (G.grun (t := 98) rfl rfl rfl (G.q (Quiet.move rfl) rfl ?_)))))))))))))))))))))
    refine G.dec (t := 102) rfl (fun h27_102 => ?_) (fun h27_102 => ?_)
    ·refine G.kDT (t := 101) rfl h27_102 (G.grun (t := 102) rfl rfl rfl (G.q (Quiet.move rfl) rfl (G.grun (t := 102) rfl rfl rfl (G.q (Quiet.not rfl) rfl (G.grun (t := 98) rfl rfl rfl (G.q (Quiet.pickT rfl rfl) rfl (G.q (Quiet.pickF rfl rfl) rfl (G.nil (G.then_n ?_)))))))))
     refine G.condB rfl (fun h106 => ?_) (fun h106 => ?_)
     ·exact absurd (owned_ses (s := (s : Int)) hinv (by omega)) (by simpa using h106)
     ·refine G.skip (G.blk_n (G.then_n (G.region (G.q (Quiet.move rfl) rfl ?_))))
      refine G.q (Quiet.add rfl rfl (by omega)) rfl ?_
      refine G.q (Quiet.assign rfl) rfl (G.nil (G.then_n ?_))
      rw [← many_step τ hs1]
      exact G.roundK (s + 1) (⟨by omega, by omega⟩) (by omega) ⟨rfl, rfl, rfl, rfl, trivial⟩ (by (repeat' constructor)) (by ((repeat (apply Have.cons; (repeat (first | exact Pick.here | apply Pick.there)))); apply Have.base; repeat' constructor))
    ·refine G.kDF (t := 101) rfl h27_102 (G.gskip (t := 102) rfl rfl rfl rfl (G.gskip (t := 102) rfl rfl rfl rfl (G.grun (t := 98) rfl rfl rfl (G.q (Quiet.pickF rfl rfl) rfl (G.q (Quiet.pickF rfl rfl) rfl (G.nil (G.then_n (G.condF rfl (G.skip (G.blk_n (G.then_n (G.region (G.q (Quiet.move rfl) rfl ?_)))))))))))))
     refine G.q (Quiet.add rfl rfl (by omega)) rfl ?_
     refine G.q (Quiet.assign rfl) rfl (G.nil (G.then_n ?_))
     rw [← many_step τ hs1]
     exact G.roundK (s + 1) (⟨by omega, by omega⟩) (by omega) ⟨rfl, rfl, rfl, rfl, trivial⟩ (by (repeat' constructor)) (by ((repeat (apply Have.cons; (repeat (first | exact Pick.here | apply Pick.there)))); apply Have.base; repeat' constructor))
  ·have hs : s = 6 := by omega
   subst hs
   refine G.exit (G.then_e (G.then_e (G.blk_e (G.then_n (G.seq (G.region (G.q (Quiet.assign rfl) rfl (G.nil (G.then_n (G.seq (G.seq (G.region (G.q (Quiet.assign rfl) rfl (G.nil (G.then_n (G.block ?_))))))))))))))))
   refine G.loopK (ι := Nat) (fun q E => (20, vint q) :: (19, vint (freeK (τ.nodes.take q))) :: E) (fun q => [treeR t τ]) (fun q => q ≤ (pathsZ τ).length) (fun q => (pathsZ τ).length - q) (0) (ts := [6, 8, 9]) (.cons rfl (.cons rfl (.cons rfl (.nil)))) (Nat.zero_le _) ⟨rfl, rfl, rfl, rfl, rfl, trivial⟩ (by (repeat' constructor)) ?_
   rintro i hi
   have hfl := freeK_len (τ.nodes.take i)
   rw [List.length_take] at hfl
   refine G.seq (G.seq (G.region (G.q (Quiet.move rfl) rfl (G.q (Quiet.move rfl) rfl (G.q (Quiet.slen rfl Tryz.underlying40 rfl) rfl (G.q (Quiet.int rfl rfl rfl) rfl (G.nil (G.then_n ?_))))))))
   refine G.condD rfl (fun h110 => ?_) (fun h110 => ?_)
   ·have hi2 : i < (pathsZ τ).length := by omega
    have hin : i < τ.nodes.length := by omega
    refine G.slShape (v := .slice ap _ cp) (xs := strs (pathsZ τ)) (by (repeat' constructor)) (by omega) fun bp cp' e0 mp _ => ?_
    simp only [Value.slice.injEq, true_and] at e0
    obtain ⟨rfl, rfl⟩ := e0
    have hpi : (pathsZ τ)[i] = τ.nodes[i].1 := by simp [pathsZ]
    obtain ⟨hst, hth⟩ := stat_at hok hin
    rw [← hpi] at hth
    refine G.skip (G.then_n (G.seq (G.block (G.seq (G.region (G.q (Quiet.move rfl) rfl (G.q (Quiet.move rfl) rfl (G.q (Quiet.move rfl) rfl ?_))))))))
    refine G.q (Quiet.indexAddr rfl rfl el_40 (by omega)) rfl ?_
    refine G.q (Quiet.loadRd (sz := 1) (j := i * 1) (p := slR 9 1 _ (pathsZ τ).length (strs (pathsZ τ))) rfl ag_9 (by (repeat' constructor)) (fun h hp => slR_rd hp) (by omega) (strs_at hi2)) rfl ?_
    refine G.op (OpSpec.call Tryz.func16 rfl rfl (vs := [_, _]) rfl (trstat_spec t τ (pathsZ τ)[i] 60 hok (by decide))) (by (repeat' constructor)) rfl ?nx114
    rintro v L' ⟨rfl, rfl⟩; rw [decide_eq_true (hth)]
    refine G.q (Quiet.move rfl) rfl (G.q (Quiet.extract rfl rfl) rfl (G.q (Quiet.extract rfl rfl) rfl ?_))
    refine G.op (OpSpec.allocA ze_43) (by (repeat' constructor)) rfl ?nx118
    rintro v L' ⟨b21, rfl, rfl⟩
    refine G.op (OpSpec.storeA rfl rfl ?c120 sz_43 ?c123 ?c121 ?c122) (by (repeat' constructor)) rfl ?nx124
    case c120 => intro v hv; simp only [stC, List.mem_cons, List.not_mem_nil, or_false] at hv; rcases hv with rfl | rfl | rfl | rfl | rfl | rfl | rfl | rfl | rfl <;> rfl
    case c123 => rfl
    case c121 => simp [stC]
    case c122 => exact nfz0 _ _
    rintro v L' rfl
    refine G.q (Quiet.assign rfl) rfl (G.nil ?_)
    refine G.ptCast (b := b21) (l' := stC (statD τ (pathsZ τ)[i])) (by (repeat' constructor)) rfl ?_
    have hown : (statD τ (pathsZ τ)[i]).own = τ.nodes[i].2.st.own := by simp only [hpi]; rw [hst]
    refine G.then_n (G.seq (G.region (G.q (Quiet.fieldAddr rfl fo_43_6) rfl ?_)))
    refine G.q (Quiet.load rfl ag_3 (by (repeat' constructor)) (rfl)) rfl ?_
    refine G.q (Quiet.int rfl rfl rfl) rfl (G.nil (G.then_n ?_))
    refine G.condD rfl (fun h124 => ?_) (fun h124 => ?_)
    ·refine G.region (G.q (Quiet.move rfl) rfl ?_)
     refine G.q (Quiet.add rfl rfl (by omega)) rfl ?_
     refine G.q (Quiet.assign rfl) rfl (G.nil (G.blk_n (G.then_n (G.region (G.q (Quiet.move rfl) rfl ?_)))))
     refine G.q (Quiet.add rfl rfl (by omega)) rfl ?_
     refine G.q (Quiet.assign rfl) rfl (G.nil (G.then_n ?_))
     have hst2 := freeK_yes hin (hown.symm.trans h124)
     rw [show ((freeK (τ.nodes.take i) : Int) + 1) = ((freeK (τ.nodes.take (i + 1)) : Nat) : Int) by rw [hst2]; rfl]
     exact G.roundK (i + 1) (by omega) (by omega) ⟨rfl, rfl, rfl, rfl, rfl, trivial⟩ (by (repeat' constructor)) (by ((repeat (apply Have.cons; (repeat (first | exact Pick.here | apply Pick.there)))); apply Have.base; repeat' constructor))
    ·refine G.skip (G.blk_n (G.then_n (G.region (G.q (Quiet.move rfl) rfl ?_))))
     refine G.q (Quiet.add rfl rfl (by omega)) rfl ?_
     refine G.q (Quiet.assign rfl) rfl (G.nil (G.then_n ?_))
     have hst2 := freeK_no hin (fun g => h124 (hown.trans g))
     rw [← hst2]
     exact G.roundK (i + 1) (by omega) (by omega) ⟨rfl, rfl, rfl, rfl, rfl, trivial⟩ (by (repeat' constructor)) (by ((repeat (apply Have.cons; (repeat (first | exact Pick.here | apply Pick.there)))); apply Have.base; repeat' constructor))
   ·have hii2 : i = τ.nodes.length := by omega
    rw [hii2, List.take_length]
    have hall := owners_all hinv
    refine G.exit (G.then_e (G.then_e (G.blk_e (G.then_n (G.seq (G.region (G.q (Quiet.move rfl) rfl (G.q (Quiet.move rfl) rfl ?_))))))))
    refine G.q (Quiet.add rfl rfl (by omega)) rfl ?_
    refine G.q (Quiet.move rfl) rfl (G.q (Quiet.slen rfl Tryz.underlying40 rfl) rfl ?_)
    refine G.q (Quiet.as (v' := .bool true) (by exact congrArg Value.bool (decide_eq_true (by omega))) (Quiet.int rfl rfl rfl)) rfl ?_
    refine G.q (Quiet.move rfl) rfl (G.grun (t := 133) rfl rfl rfl (G.q (Quiet.move rfl) rfl (G.grun (t := 133) rfl rfl rfl ?_)))
    refine G.op (OpSpec.call Tryz.func18 rfl rfl (vs := [_, _]) rfl (trowned_spec t τ 0 60 hok (by decide))) (by (repeat' constructor)) rfl ?nx141
    rintro v L' ⟨⟨ao, co, rfl⟩, rfl⟩; rw [owned_zero]
    refine G.grun (t := 133) rfl rfl rfl (G.q (Quiet.slen rfl Tryz.underlying40 rfl) rfl (G.grun (t := 133) rfl rfl rfl ?_))
    refine G.q (Quiet.as (v' := .bool true) (by rfl) (Quiet.int rfl rfl rfl)) rfl ?_
    refine G.q (Quiet.pickT rfl rfl) rfl (G.q (Quiet.assign rfl) rfl (G.nil (G.then_n (G.ret ?_))))
    exact G.done (l := [.tmp 2]) rfl rfl ⟨rfl, rfl⟩ (by (repeat' constructor)) (by (repeat' constructor))

end Go.Proofs.YtnnbelmpbmfdnaaGreatDoor
/- Own work: from what a call is given to the atoms of SlCore, and back to what a statement asks. -/

namespace Go.Proofs.YtnnbelmpbmfdnaaGreatDoor
open Go Go.ChangeShapes Go.WideShapes Go.ChangeAt Go.RowKit

section
variable {H : Type} {enc : TypeId × Value → H} {P : Program} {W W' : World}
theorem trodAll_old (hl : laidOutB P = true) (hb : Below W.heap.size W W') (sp : Nat → Bool) : ∀ (ts : List TypeId) (vs : List Value) (ds : List (DataW H)) (p : List MemPlace), (∀ t ∈ ts, P.readableRec t = true ∧ t < P.types.size) →
    DataW.TrodAll enc P W 0 (fun _ => true) true ts vs ds p → (∀ x ∈ p, x.block < W.heap.size) → (∀ x ∈ p, sp x.block = true) → DataW.TrodAll enc P W' 0 sp true ts vs ds p
  | [], vs, ds, p, _, h, _, _ => by
    obtain ⟨rfl, rfl, rfl⟩ := trodAll_nil h
    exact h
  | t :: ts, vs, ds, p, hr, h, hlt, hsp => by
    obtain ⟨v, vs1, d, ds1, a, b, rfl, rfl, rfl, h1, h2⟩ := trodAll_cons h
    have r := hr t (by simp)
    refine ⟨a, b, WideElems.Trod_stays hl r.1 r.2 h1 (fun x hx => hb.same (hlt x (by simp [hx]))) (fun x hx => hsp x (by simp [hx])), ?_, rfl⟩
    exact trodAll_old hl hb sp ts vs1 ds1 b (fun t ht => hr t (by simp [ht])) h2 (fun x hx => hlt x (by simp [hx])) (fun x hx => hsp x (by simp [hx]))
theorem settled {fn : Func} {s : ChangeSpec} {apart fresh handsOn again : Bool} {args : Array Value} {ds gs : List (DataW H)} {before : List MemPlace} {tb : TypeId}
    (hW : DataW.Whole enc P fn.params.toList s.vars apart W args.toList ds gs before) (hvars : s.vars = []) (hspec : ∀ gs', gs' = [] → s.fn H (ds ++ gs') = { results := [.lit (.bool true)], args := ds })
    (hres : fn.resultTypes = #[tb]) (htb : P.underlying tb = some .bool) (hl : laidOutB P = true) (hr : ∀ t ∈ fn.params.toList, P.readableRec t = true ∧ t < P.types.size) (hb : Below W.heap.size W W') :
    s.post enc P fn apart fresh handsOn again W args (.bool true) W' := by
  have hW' := hW
  have hlt := hW.lt
  obtain ⟨p, q, hA, hV, rfl, hfz, hnd⟩ := hW
  rw [hvars] at hV
  obtain ⟨rfl, rfl⟩ := trodVars_none hV
  have hs := hspec [] rfl
  have hargs : ∀ sp : Nat → Bool, (∀ x ∈ p, sp x.block = true) → DataW.TrodAll enc P W' 0 sp true fn.params.toList args.toList ds p := fun sp hsp =>
    trodAll_old hl hb sp _ _ _ _ hr hA (fun x hx => hlt x (by simp [hx])) hsp
  have hbool : ∀ (b : Nat) (sp : Nat → Bool) (hd : Bool), DataW.TrodAll enc P W' b sp hd fn.resultTypes.toList ((Value.bool true).resultList fn.resultTypes.size) [.lit (.bool true)] [] := by
    intro b sp hd
    rw [hres]
    exact trodAll_cons_mk (shut_bool htb _) trodAll_mk0
  refine ⟨ds, [], p ++ [], [], p, [], hW', ?_, ?_, ?_, hb.frame _, fun _ => ⟨ok_one hres rfl (okWide_bool_mk htb _), [.lit (.bool true)] ++ ds, [], p, ⟨p, [], ?_, ?_, by simp, ?_, ?_⟩, ?_⟩⟩
  · rw [hs]; exact hbool _ _ _
  · rw [hs]; exact hargs _ (fun x hx => by simpa using hlt x (by simp [hx]))
  · rw [hs, hvars]; exact hV
  · exact trodAll_append (hargs _ (fun _ _ => rfl)) (hbool _ _ _)
  · rw [hvars]; exact hV
  · intro b off hp
    rw [hb.frozen (p := ⟨b, off, none⟩) (hlt (.cell b off) (by simp [hp]))]
    exact hfz b off (by simp [hp])
  · intro ha
    have := hnd ha
    simpa using this
  · intro x hx _
    simp [hx]
theorem old_calls {f : FuncId} {args : Array Value} (h : Fn P f args [Old W] fun v L => v = .bool true ∧ L = [Old W]) :
    Calls P f args W fun e W' => e = .returned (.bool true) ∧ Below W.heap.size W W' := by
  have h0 : St [Old W] W := ⟨fun b => W.heap[b]?, fun _ => none, fun _ => .inr rfl, fun b o h => h, fun b o h => (by cases h), fun b hb => rfl, trivial⟩
  refine (h [] W h0).mono ?_
  rintro e W' ⟨v, L, ⟨rfl, rfl⟩, rfl, hs, hk⟩
  refine ⟨rfl, hk.os, hk.tape, hk.output, hk.size, fun k hk' => ?_⟩
  obtain ⟨h1, a1, hp⟩ := sep_head hs
  have e1 := hp k hk'
  have : ∃ o, W.heap[k]? = some o := ⟨_, Array.getElem?_eq_getElem hk'⟩
  obtain ⟨o, ho⟩ := this
  rw [ho] at e1 ⊢
  exact a1 _ _ e1
theorem old_rd {a : Addr} {len cap : Nat} {V : Nat → Value} (hc : ∀ i, i < len → W.cell? (a.add i) = some (V i)) (hle : len ≤ cap) : ∀ h : Hp, Old W h → rdS 1 h (.slice (some a) len cap) len ((List.range len).map V) := by
  intro h hold
  rcases Nat.eq_zero_or_pos len with rfl | hpos
  · exact .inl ⟨rfl, rfl, some a, cap, rfl⟩
  · obtain ⟨b, off, spot⟩ := a
    have h0 := hc 0 hpos
    have e0 : (⟨b, off, spot⟩ : Addr).add 0 = ⟨b, off, spot⟩ := by simp [Addr.add]
    rw [e0] at h0
    simp only [World.cell?] at h0
    rcases hw : W.heap[b]? with _ | o
    · rw [hw] at h0; cases h0
    · cases o with
      | cells c T fr =>
        rw [hw] at h0
        dsimp only at h0
        split at h0
        · cases h0
        · rename_i hsp
          have hspot : spot = none := by simpa using hsp
          subst hspot
          have hc' : ∀ i, i < len → c[off + i]? = some (V i) := by
            intro i hi
            have := hc i hi
            have e1 : (⟨b, off, none⟩ : Addr).add i = ⟨b, off + i, none⟩ := by
              simp only [Addr.add]; split
              · rename_i h0; simp [h0]
              · rfl
            rw [e1] at this
            simp only [World.cell?, hw] at this
            simpa using this
          have hlt : b < W.heap.size := by
            rcases Nat.lt_or_ge b W.heap.size with h' | h'
            · exact h'
            · rw [Array.getElem?_eq_none h'] at hw; cases hw
          have hlen : off + len ≤ c.size := by
            have := hc' (len - 1) (by omega)
            rcases Nat.lt_or_ge (off + (len - 1)) c.size with h' | h'
            · omega
            · rw [Array.getElem?_eq_none h'] at this; cases this
          refine .inr ⟨b, off, cap, c.toList, T, fr, rfl, by rw [hold b hlt, hw], ?_, by simpa using hlen, hle⟩
          apply List.ext_getElem?
          intro i
          rw [Nat.mul_one, List.getElem?_take, List.getElem?_map, List.getElem?_drop]
          split
          · rename_i hi
            rw [List.getElem?_range hi]
            simpa using hc' i hi
          · rename_i hi
            rw [List.getElem?_eq_none (by simpa using hi)]; rfl
      | _ => rw [hw] at h0; cases h0
theorem arg_int {t : TypeId} {r : Reach} {b0 : Nat} {v : Value} {d : DataW H} {ps : List MemPlace} (ht : P.underlying t = some (.int .i64)) (hval : Value.okWide P W r b0 t v)
    (h : DataW.Trod enc P W 0 (fun _ => true) true t v d ps) : ∃ n : Int, v = vint n ∧ d = .lit (.int .i64 n) ∧ -9223372036854775808 ≤ n ∧ n ≤ 9223372036854775807 := by
  obtain ⟨n, rfl, rfl, rfl, hwf⟩ := open_int ht hval h
  exact ⟨n, rfl, rfl, bounds_i64 hwf⟩
theorem arg_bools {t e : TypeId} {r : Reach} {b0 : Nat} {v : Value} {d : DataW H} {ps : List MemPlace} (ht : P.underlying t = some (.slice e)) (he : P.underlying e = some .bool) (hc : P.cellsOf e = 1) (hval : Value.okWide P W r b0 t v)
    (h : DataW.Trod enc P W 0 (fun _ => true) true t v d ps) : ∃ xs : List Bool, (∀ h : Hp, Old W h → rdS 1 h v xs.length (xs.map Value.bool)) ∧ xs.length ≤ maxLen := by
  obtain ⟨ad, n, cap, rfl⟩ := okWide_slice ht hval
  obtain ⟨fuel, hf⟩ := h
  rcases Go.Deep.open_bools ht he hc hf with ⟨hcs, -⟩ | ⟨a, len, cap', B, hcs, -, hl, hm, -, hx⟩
  · simp [Value.cells] at hcs
    obtain ⟨rfl, rfl, rfl⟩ := hcs
    exact ⟨[], fun h _ => .inl ⟨rfl, rfl, none, 0, rfl⟩, by simp⟩
  · simp [Value.cells] at hcs
    obtain ⟨rfl, rfl, rfl⟩ := hcs
    refine ⟨(List.range n).map B, ?_, by simp; omega⟩
    intro h hold
    have := old_rd (W := W) (V := fun i => .bool (B i)) (fun i hi => hx i (by omega)) hl h hold
    rw [List.length_map, List.length_range, List.map_map]
    exact this
theorem arg_ints {t e : TypeId} {r : Reach} {b0 : Nat} {v : Value} {d : DataW H} {ps : List MemPlace} (ht : P.underlying t = some (.slice e)) (he : P.underlying e = some (.int .i64)) (hc : P.cellsOf e = 1) (hval : Value.okWide P W r b0 t v)
    (h : DataW.Trod enc P W 0 (fun _ => true) true t v d ps) : ∃ xs : List Int, (∀ h : Hp, Old W h → rdS 1 h v xs.length (xs.map vint)) ∧ xs.length ≤ maxLen ∧ ∀ x ∈ xs, -9223372036854775808 ≤ x ∧ x ≤ 9223372036854775807 := by
  obtain ⟨ad, n, cap, rfl⟩ := okWide_slice ht hval
  obtain ⟨fuel, hf⟩ := h
  rcases open_ints ht he hc hf with ⟨hcs, -⟩ | ⟨a, len, cap', zs, hcs, -, hl, hm, hz, -, hx, hwf⟩
  · simp [Value.cells] at hcs
    obtain ⟨rfl, rfl, rfl⟩ := hcs
    exact ⟨[], fun h _ => .inl ⟨rfl, rfl, none, 0, rfl⟩, by simp, by simp⟩
  · simp [Value.cells] at hcs
    obtain ⟨rfl, rfl, rfl⟩ := hcs
    simp only [if_true] at hz
    refine ⟨zs.take n, ?_, by simp; omega, fun x hx => bounds_i64 (hwf x (List.mem_of_mem_take hx))⟩
    intro h hold
    have := old_rd (W := W) (V := fun i => .int .i64 (zs.getD i 0)) (fun i hi => hx i (by omega)) hl h hold
    have e1 : (zs.take n).length = n := by simp; omega
    rw [e1]
    have e2 : (List.range n).map (fun i => Value.int .i64 (zs.getD i 0)) = (zs.take n).map vint := by
      apply List.ext_getElem
      · simp; omega
      · intro i h1 h2
        simp at h1
        simp [show i < zs.length by omega]
    rw [e2] at this
    exact this
end
end Go.Proofs.YtnnbelmpbmfdnaaGreatDoor
/- Own work: strings and rows of strings as arguments. -/
namespace Go.Proofs.YtnnbelmpbmfdnaaGreatDoor
open Go Go.ChangeShapes Go.WideShapes Go.ChangeAt Go.RowKit

section
variable {H : Type} {enc : TypeId × Value → H} {P : Program} {W : World}
theorem string_vstr (s : ByteArray) : Value.string s = vstr s.data.toList := by cases s; rfl
theorem arg_str {t : TypeId} {r : Reach} {b0 : Nat} {v : Value} {d : DataW H} {ps : List MemPlace} (ht : P.underlying t = some .string) (hval : Value.okWide P W r b0 t v) (h : DataW.Trod enc P W 0 (fun _ => true) true t v d ps) :
    ∃ s : List UInt8, v = vstr s ∧ s.length ≤ maxLen := by
  obtain ⟨s, rfl⟩ := okWide_string ht hval
  obtain ⟨fuel, hf⟩ := h
  obtain ⟨s', h1, -, h3⟩ := DataW.trod_string ht hf
  simp [Value.cells] at h1
  subst h1
  exact ⟨s.data.toList, string_vstr s, by simpa using h3⟩
theorem arg_strs {t e : TypeId} {r : Reach} {b0 : Nat} {v : Value} {d : DataW H} {ps : List MemPlace} (ht : P.underlying t = some (.slice e)) (he : P.underlying e = some .string) (hc : P.cellsOf e = 1) (hval : Value.okWide P W r b0 t v)
    (h : DataW.Trod enc P W 0 (fun _ => true) true t v d ps) : ∃ xs : List (List UInt8), (∀ h : Hp, Old W h → rdS 1 h v xs.length (strs xs)) ∧ xs.length ≤ maxLen ∧ ∀ s ∈ xs, s.length ≤ maxLen := by
  obtain ⟨ad, n, cap, rfl⟩ := okWide_slice ht hval
  obtain ⟨fuel, hf⟩ := h
  rcases Go.Deep.open_strs ht he hc hf with ⟨hcs, -⟩ | ⟨a, len, cap', m, Sx, hcs, -, hl, hm, hmm, -, hx⟩
  · simp [Value.cells] at hcs
    obtain ⟨rfl, rfl, rfl⟩ := hcs
    exact ⟨[], fun h _ => .inl ⟨rfl, rfl, none, 0, rfl⟩, by simp, by simp⟩
  · simp [Value.cells] at hcs
    obtain ⟨rfl, rfl, rfl⟩ := hcs
    simp only [if_true] at hmm
    subst hmm
    refine ⟨(List.range n).map fun i => (Sx i).data.toList, ?_, by simp; omega, fun s hs => ?_⟩
    · intro h hold
      have := old_rd (W := W) (V := fun i => .string (Sx i)) (fun i hi => (hx i (by omega)).1) hl h hold
      rw [List.length_map, List.length_range]
      rw [show strs ((List.range n).map fun i => (Sx i).data.toList) = (List.range n).map fun i => Value.string (Sx i) by simp [strs, string_vstr]]
      exact this
    · obtain ⟨i, hi, rfl⟩ := List.mem_map.1 hs
      have := (hx i (by have := List.mem_range.1 hi; omega)).2
      simpa using this
end
end Go.Proofs.YtnnbelmpbmfdnaaGreatDoor
/- Own work: nested arguments decoded: slices of structs, and what the row says of their weight. -/

namespace Go.Proofs.YtnnbelmpbmfdnaaGreatDoor
open Go Go.ChangeShapes Go.WideShapes Go.ChangeAt Go.RowKit

section
variable {H : Type} {enc : TypeId × Value → H} {P : Program} {W : World}
/-- No slice and no string in this datum weighs more than the row's reach. -/
def Light (P : Program) (t : TypeId) (d : DataW H) : Prop := ∀ n ∈ d.weights P t, n ≤ reachBytes
theorem light_all {e : TypeId} : ∀ {ds : List (DataW H)}, (∀ n ∈ DataW.weightsAll P e ds, n ≤ reachBytes) → ∀ d ∈ ds, Light P e d
  | [], _, d, hd => by cases hd
  | a :: ds, h, d, hd => by
    simp only [DataW.weightsAll, List.mem_append] at h
    rcases List.mem_cons.1 hd with rfl | hd
    · exact fun n hn => h n (.inl hn)
    · exact light_all (fun n hn => h n (.inr hn)) d hd
theorem light_slice {t e : TypeId} {xs ys : List (DataW H)} (ht : P.underlying t = some (.slice e)) (h : Light P t (.slice xs ys)) : (xs.length + ys.length) * P.bytesOf e ≤ reachBytes ∧ ∀ d ∈ xs, Light P e d := by
  simp only [Light, DataW.weights, ht, List.mem_cons, List.mem_append] at h
  exact ⟨h _ (.inl rfl), light_all (fun n hn => h n (.inr (.inl hn)))⟩
theorem light_each : ∀ {ts : List TypeId} {ds : List (DataW H)}, (∀ n ∈ DataW.weightsEach P ts ds, n ≤ reachBytes) → ∀ (i : Nat) (t : TypeId) (d : DataW H), ts[i]? = some t → ds[i]? = some d → Light P t d
  | [], _, _, i, t, d, h1, _ => by simp at h1
  | _ :: _, [], _, i, t, d, _, h2 => by simp at h2
  | a :: ts, b :: ds, h, i, t, d, h1, h2 => by
    simp only [DataW.weightsEach, List.mem_append] at h
    cases i with
    | zero =>
      simp at h1 h2; subst h1; subst h2
      exact fun n hn => h n (.inl hn)
    | succ i => exact light_each (fun n hn => h n (.inr hn)) i t d (by simpa using h1) (by simpa using h2)
theorem light_struct {t : TypeId} {fs : Array Field} {ds : List (DataW H)} (ht : P.underlying t = some (.struct fs)) (h : Light P t (.agg ds)) {i : Nat} {f : Field} {d : DataW H} (hf : fs[i]? = some f) (hd : ds[i]? = some d) : Light P f.type d := by
  simp only [Light, DataW.weights, ht] at h
  exact light_each h i f.type d (by simp [hf]) hd
theorem flat_at {α : Type} {sz : Nat} (f : Nat → List α) : ∀ n, (∀ i, i < n → (f i).length = sz) → ∀ j, j < n * sz → ((List.range n).flatMap f)[j]? = (f (j / sz))[j % sz]? ∧ ((List.range n).flatMap f).length = n * sz := by
  intro n
  induction n with
  | zero => intro _ j hj; omega
  | succ n ih =>
    intro hf j hj
    have hn := hf n (by omega)
    have hlen : ((List.range n).flatMap f).length = n * sz := by
      rcases Nat.eq_zero_or_pos (n * sz) with h0 | h0
      · rcases Nat.eq_zero_or_pos n with h1 | h1
        · subst h1; simp
        · have : sz = 0 := by
            rcases Nat.eq_zero_or_pos sz with h2 | h2
            · exact h2
            · have := Nat.mul_pos h1 h2; omega
          subst this; omega
      · exact (ih (fun i hi => hf i (by omega)) 0 h0).2
    have e : (List.range (n + 1)).flatMap f = (List.range n).flatMap f ++ f n := by simp [List.range_succ]
    have hm : (n + 1) * sz = n * sz + sz := by rw [Nat.add_mul, Nat.one_mul]
    rw [e]
    refine ⟨?_, by rw [List.length_append, hlen, hn, hm]⟩
    rcases Nat.lt_or_ge j (n * sz) with h | h
    · rw [List.getElem?_append_left (by omega)]
      exact (ih (fun i hi => hf i (by omega)) j h).1
    · rw [List.getElem?_append_right (by omega), hlen]
      have hs : 0 < sz := by omega
      have h1 : j / sz = n := by
        have : j < (n + 1) * sz := hj
        have a := Nat.div_lt_of_lt_mul (show j < sz * (n + 1) by rw [Nat.mul_comm]; exact this)
        have b := (Nat.le_div_iff_mul_le hs).2 h
        omega
      have h2 : j % sz = j - n * sz := by
        have := Nat.div_add_mod j sz
        rw [h1, Nat.mul_comm] at this; omega
      rw [h1, h2]
theorem rdS_regroup {sz n c c1 : Nat} {a : Option Addr} {ys : List Value} {h : Hp} (hr : rdS 1 h (.slice a (n * sz) c1) (n * sz) ys) (hc : n ≤ c) (hs : 0 < sz) : rdS sz h (.slice a n c) n ys := by
  rcases hr with ⟨h1, h2, -⟩ | ⟨b, off, cap, l, T, fr, hv, hb, h1, h2, h3⟩
  · have : n = 0 := by
      rcases Nat.eq_zero_or_pos n with h0 | h0
      · exact h0
      · have := Nat.mul_pos h0 hs; omega
    subst this
    exact .inl ⟨rfl, h2, a, c, rfl⟩
  · simp only [Value.slice.injEq] at hv
    obtain ⟨rfl, -, -⟩ := hv
    exact .inr ⟨b, off, c, l, T, fr, rfl, hb, by rw [← h1, Nat.mul_one], by rw [Nat.mul_one] at h2; exact h2, hc⟩
abbrev Reads (enc : TypeId × Value → H) (P : Program) (W : World) (fuel : Nat) (t : TypeId) (cs : List Value) (x : DataW H × List MemPlace) : Prop := DataW.trod enc P W 0 (fun _ => true) true fuel t cs = some x
theorem dec_int {t : TypeId} {fuel : Nat} {cs : List Value} {x : DataW H × List MemPlace} (ht : P.underlying t = some (.int .i64)) (h : Reads enc P W fuel t cs x) : ∃ n : Int, cs = [vint n] ∧ -9223372036854775808 ≤ n ∧ n ≤ 9223372036854775807 := by
  obtain ⟨n, rfl, -, hwf⟩ := DataW.trod_int ht h
  exact ⟨n, rfl, bounds_i64 hwf⟩
theorem dec_bool {t : TypeId} {fuel : Nat} {cs : List Value} {x : DataW H × List MemPlace} (ht : P.underlying t = some .bool) (h : Reads enc P W fuel t cs x) : ∃ b : Bool, cs = [.bool b] := by
  obtain ⟨b, rfl, -⟩ := DataW.trod_bool ht h
  exact ⟨b, rfl⟩
theorem dec_ints {t e : TypeId} {fuel : Nat} {cs : List Value} {x : DataW H × List MemPlace} (ht : P.underlying t = some (.slice e)) (he : P.underlying e = some (.int .i64)) (hc : P.cellsOf e = 1) (hby : P.bytesOf e = 8) (h : Reads enc P W fuel t cs x) :
    ∃ (v : Value) (xs : List Int), cs = [v] ∧ (∀ h : Hp, Old W h → rdS 1 h v xs.length (xs.map vint)) ∧ (∀ x ∈ xs, -9223372036854775808 ≤ x ∧ x ≤ 9223372036854775807) ∧ (Light P t x.1 → xs.length * 8 ≤ reachBytes) := by
  rcases open_ints ht he hc h with ⟨rfl, rfl⟩ | ⟨a, len, cap', zs, rfl, -, hl, hm, hz, rfl, hx, hwf⟩
  · exact ⟨_, [], rfl, fun h _ => .inl ⟨rfl, rfl, none, 0, rfl⟩, by simp, fun _ => by simp⟩
  · simp only [if_true] at hz
    refine ⟨_, zs.take len, rfl, ?_, fun x hx => bounds_i64 (hwf x (List.mem_of_mem_take hx)), fun hlt => ?_⟩
    · intro h hold
      have := old_rd (W := W) (V := fun i => .int .i64 (zs.getD i 0)) (fun i hi => hx i (by omega)) hl h hold
      have e1 : (zs.take len).length = len := by simp; omega
      rw [e1]
      have e2 : (List.range len).map (fun i => Value.int .i64 (zs.getD i 0)) = (zs.take len).map vint := by
        apply List.ext_getElem
        · simp; omega
        · intro i h1 h2
          simp at h1
          simp [show i < zs.length by omega]
      rw [e2] at this
      exact this
    · have := (light_slice ht hlt).1
      rw [hby] at this
      simp only [lits, List.length_map, List.length_take, List.length_drop] at this
      simp only [List.length_take]
      omega
/-- A slice, each of whose elements is decoded. -/
theorem dec_slice {Z : Type} [Inhabited Z] (toC : Z → List Value) (Q : Z → DataW H → Prop) {t e : TypeId} {sz : Nat} {fuel : Nat} {cs : List Value} {x : DataW H × List MemPlace} (ht : P.underlying t = some (.slice e)) (hc : P.cellsOf e = sz) (hs : 0 < sz)
    (hdec : ∀ (n : Nat) (cs : List Value) (y : DataW H × List MemPlace), Reads enc P W n e cs y → ∃ z, cs = toC z ∧ Q z y.1) (h : Reads enc P W fuel t cs x) :
    ∃ (v : Value) (zs : List Z), cs = [v] ∧ (∀ h : Hp, Old W h → rdS sz h v zs.length (zs.flatMap toC)) ∧ (∀ z ∈ zs, ∃ d, Q z d ∧ (Light P t x.1 → Light P e d)) ∧ (Light P t x.1 → zs.length * P.bytesOf e ≤ reachBytes) := by
  subst hc
  rcases Go.Deep.open_slice ht h with ⟨rfl, rfl⟩ | ⟨a, len, cap, m, n, Dd, Pl, rfl, -, hl, hm, hmm, rfl, hx⟩
  · exact ⟨_, [], rfl, fun h _ => .inl ⟨rfl, rfl, none, 0, rfl⟩, by simp, fun _ => by simp⟩
  · simp only [if_true] at hmm
    subst hmm
    obtain ⟨Zf, hZ⟩ := Go.Deep.choose_lt (α := Z) (p := fun i z => W.cells? 0 (a.add (i * P.cellsOf e)) (P.cellsOf e) = some (toC z) ∧ Q z (Dd i)) (n := m) (fun i hi => by
      obtain ⟨cs', h1, h2⟩ := hx i hi
      obtain ⟨z, rfl, h3⟩ := hdec _ _ _ h2
      exact ⟨z, h1, h3⟩)
    have hlenf : ∀ i, i < len → (toC (Zf i)).length = P.cellsOf e := fun i hi => (World.cells?_some (hZ i (by omega)).1).2.1
    have hflat := flat_at (fun i => toC (Zf i)) len hlenf
    refine ⟨_, (List.range len).map Zf, rfl, ?_, ?_, ?_⟩
    · intro h hold
      rw [List.length_map, List.length_range]
      refine rdS_regroup (c1 := len * P.cellsOf e) ?_ hl hs
      have e1 : ((List.range len).map Zf).flatMap toC = (List.range (len * P.cellsOf e)).map (fun j => ((List.range len).flatMap fun i => toC (Zf i)).getD j (.bool false)) := by
        rw [List.flatMap_map]
        apply List.ext_getElem?
        intro j
        rcases Nat.lt_or_ge j (len * P.cellsOf e) with hj | hj
        · rw [List.getElem?_map, List.getElem?_range hj]
          have := (hflat j hj).2
          have hjl : j < ((List.range len).flatMap fun i => toC (Zf i)).length := by omega
          simp only [Option.map_some, List.getD_eq_getElem?_getD, List.getElem?_eq_getElem hjl, Option.getD_some]
        · have : ((List.range len).flatMap fun i => toC (Zf i)).length = len * P.cellsOf e := by
            rcases Nat.eq_zero_or_pos (len * P.cellsOf e) with h0 | h0
            · have : len = 0 := by
                rcases Nat.eq_zero_or_pos len with h1 | h1
                · exact h1
                · have := Nat.mul_pos h1 hs; omega
              subst this; simp
            · exact (hflat 0 h0).2
          rw [List.getElem?_eq_none (by omega), List.getElem?_eq_none (by simpa using hj)]
      rw [e1]
      refine old_rd (W := W) (fun j hj => ?_) (Nat.le_refl _) h hold
      have hi : j / P.cellsOf e < len := Nat.div_lt_of_lt_mul (by rw [Nat.mul_comm]; exact hj)
      have hcell := (World.cells?_some (hZ (j / P.cellsOf e) (by omega)).1).2.2 (j % P.cellsOf e) (Nat.mod_lt _ hs)
      rw [Addr.add_add, Nat.mul_comm, Nat.div_add_mod] at hcell
      rw [hcell]
      obtain ⟨f1, f2⟩ := hflat j hj
      rw [List.getD_eq_getElem?_getD, f1]
      have : j % P.cellsOf e < (toC (Zf (j / P.cellsOf e))).length := by rw [hlenf _ hi]; exact Nat.mod_lt _ hs
      simp [this]
    · intro z hz
      obtain ⟨i, hi, rfl⟩ := List.mem_map.1 hz
      have hi' : i < len := by simpa using hi
      refine ⟨Dd i, (hZ i (by omega)).2, fun hlt => (light_slice ht hlt).2 _ (List.mem_map_of_mem (by simpa using hi'))⟩
    · intro hlt
      have := (light_slice ht hlt).1
      rw [List.length_map, List.length_range] at this ⊢
      refine Nat.le_trans (Nat.mul_le_mul_right _ ?_) this
      omega
end
end Go.Proofs.YtnnbelmpbmfdnaaGreatDoor
/- Own work: arguments of a bounded bulk (the second form's bound), decoded. -/
namespace Go.Proofs.YtnnbelmpbmfdnaaGreatDoor
open Go Go.ChangeShapes Go.WideShapes Go.ChangeAt Go.RowKit

theorem bulk_pos {H : Type} (d : DataW H) : 1 ≤ Rows.uptoBulk d := by
  cases d with
  | lit l => cases l <;> simp [Rows.uptoBulk]
  | _ => simp [Rows.uptoBulk]
theorem bulk_part {H : Type} {d : DataW H} : ∀ {l : List (DataW H)}, d ∈ l → Rows.uptoBulk d ≤ Rows.uptoBulkAll l
  | x :: l, h => by
    unfold Rows.uptoBulkAll
    rcases List.mem_cons.1 h with rfl | h
    · omega
    · have := bulk_part h; omega
theorem bulk_count {H : Type} : ∀ l : List (DataW H), l.length ≤ Rows.uptoBulkAll l
  | [] => by simp
  | x :: l => by
    have h1 := bulk_pos x
    have h2 := bulk_count l
    unfold Rows.uptoBulkAll
    rw [List.length_cons]; omega
theorem bulk_agg {H : Type} {d : DataW H} {l : List (DataW H)} {N : Nat} (h : Rows.uptoBulk (.agg l) ≤ N) (hd : d ∈ l) : Rows.uptoBulk d ≤ N := by
  have := bulk_part hd
  simp only [Rows.uptoBulk] at h
  omega
theorem bulk_small {H : Type} {l : List (DataW H)} (h : Rows.uptoSmall H l = true) {d : DataW H} (hd : d ∈ l) : Rows.uptoBulk d ≤ 1048576 :=
  Nat.le_trans (bulk_part hd) (of_decide_eq_true h)
instance : Inhabited Value := ⟨.bool false⟩
section
variable {H : Type} {enc : TypeId × Value → H} {P : Program} {W : World} {N : Nat}
theorem dec_str {t : TypeId} {fuel : Nat} {cs : List Value} {x : DataW H × List MemPlace} (ht : P.underlying t = some .string) (h : Reads enc P W fuel t cs x) (hb : Rows.uptoBulk x.1 ≤ N) : ∃ s : List UInt8, cs = [vstr s] ∧ s.length ≤ N := by
  obtain ⟨s, rfl, rfl, -⟩ := DataW.trod_string ht h
  simp only [Rows.uptoBulk] at hb
  exact ⟨s.data.toList, by rw [string_vstr], by omega⟩
theorem dec_int' {t : TypeId} {fuel : Nat} {cs : List Value} {x : DataW H × List MemPlace} (ht : P.underlying t = some (.int .i64)) (h : Reads enc P W fuel t cs x) : ∃ n : Int, cs = [vint n] ∧ (-9223372036854775808 ≤ n ∧ n ≤ 9223372036854775807) := by
  obtain ⟨n, h1, h2⟩ := dec_int ht h; exact ⟨n, h1, h2⟩
theorem slice_cell {t e : TypeId} {fuel : Nat} {v : Value} {x : DataW H × List MemPlace} (ht : P.underlying t = some (.slice e)) (h : Reads enc P W fuel t [v] x) : isCell v = true := by
  rcases Go.Deep.open_slice ht h with ⟨hv, -⟩ | ⟨a, len, cap, m, n, Dd, Pl, hv, -⟩
  · rw [List.cons.injEq] at hv; rw [hv.1]; rfl
  · rw [List.cons.injEq] at hv; rw [hv.1]; rfl
/-- A slice, each of whose elements is decoded. -/
theorem dec_sliceU {Z : Type} [Inhabited Z] (toC : Z → List Value) (Q : Z → Prop) {t e : TypeId} {sz : Nat} {fuel : Nat} {cs : List Value} {x : DataW H × List MemPlace} (ht : P.underlying t = some (.slice e)) (hc : P.cellsOf e = sz) (hs : 0 < sz)
    (hdec : ∀ (n : Nat) (cs : List Value) (y : DataW H × List MemPlace), Reads enc P W n e cs y → Rows.uptoBulk y.1 ≤ N → ∃ z, cs = toC z ∧ Q z) (h : Reads enc P W fuel t cs x) (hb : Rows.uptoBulk x.1 ≤ N) :
    ∃ z : Value × List Z, cs = [z.1] ∧ (∀ h : Hp, Old W h → rdS sz h z.1 z.2.length (z.2.flatMap toC)) ∧ z.2.length ≤ N ∧ ∀ y ∈ z.2, Q y := by
  subst hc
  rcases Go.Deep.open_slice ht h with ⟨rfl, rfl⟩ | ⟨a, len, cap, m, n, Dd, Pl, rfl, -, hl, hm, hmm, rfl, hx⟩
  · exact ⟨(_, []), rfl, fun h _ => .inl ⟨rfl, rfl, none, 0, rfl⟩, by simp, by simp⟩
  · simp only [if_true] at hmm
    subst hmm
    have hbl : len ≤ N := by
      have := bulk_count ((List.range len).map Dd)
      simp only [Rows.uptoBulk] at hb
      rw [List.length_map, List.length_range] at this
      omega
    have hbe : ∀ i, i < len → Rows.uptoBulk (Dd i) ≤ N := fun i hi => by
      have := bulk_part (d := Dd i) (l := (List.range len).map Dd) (List.mem_map_of_mem (by simpa using hi))
      simp only [Rows.uptoBulk] at hb
      omega
    obtain ⟨Zf, hZ⟩ := Go.Deep.choose_lt (α := Z) (p := fun i z => W.cells? 0 (a.add (i * P.cellsOf e)) (P.cellsOf e) = some (toC z) ∧ Q z) (n := len) (fun i hi => by
      obtain ⟨cs', h1, h2⟩ := hx i (by omega)
      obtain ⟨z, rfl, h3⟩ := hdec _ _ _ h2 (hbe i hi)
      exact ⟨z, h1, h3⟩)
    have hlenf : ∀ i, i < len → (toC (Zf i)).length = P.cellsOf e := fun i hi => (World.cells?_some (hZ i hi).1).2.1
    have hflat := flat_at (fun i => toC (Zf i)) len hlenf
    refine ⟨(_, (List.range len).map Zf), rfl, ?_, ?_, ?_⟩
    · intro h hold
      dsimp only
      rw [List.length_map, List.length_range]
      refine rdS_regroup (c1 := len * P.cellsOf e) ?_ hl hs
      have e1 : ((List.range len).map Zf).flatMap toC = (List.range (len * P.cellsOf e)).map (fun j => ((List.range len).flatMap fun i => toC (Zf i)).getD j (.bool false)) := by
        rw [List.flatMap_map]
        apply List.ext_getElem?
        intro j
        rcases Nat.lt_or_ge j (len * P.cellsOf e) with hj | hj
        · rw [List.getElem?_map, List.getElem?_range hj]
          have := (hflat j hj).2
          have hjl : j < ((List.range len).flatMap fun i => toC (Zf i)).length := by omega
          simp only [Option.map_some, List.getD_eq_getElem?_getD, List.getElem?_eq_getElem hjl, Option.getD_some]
        · have : ((List.range len).flatMap fun i => toC (Zf i)).length = len * P.cellsOf e := by
            rcases Nat.eq_zero_or_pos (len * P.cellsOf e) with h0 | h0
            · have : len = 0 := by
                rcases Nat.eq_zero_or_pos len with h1 | h1
                · exact h1
                · have := Nat.mul_pos h1 hs; omega
              subst this; simp
            · exact (hflat 0 h0).2
          rw [List.getElem?_eq_none (by omega), List.getElem?_eq_none (by simpa using hj)]
      rw [e1]
      refine old_rd (W := W) (fun j hj => ?_) (Nat.le_refl _) h hold
      have hi : j / P.cellsOf e < len := Nat.div_lt_of_lt_mul (by rw [Nat.mul_comm]; exact hj)
      have hcell := (World.cells?_some (hZ (j / P.cellsOf e) hi).1).2.2 (j % P.cellsOf e) (Nat.mod_lt _ hs)
      rw [Addr.add_add, Nat.mul_comm, Nat.div_add_mod] at hcell
      rw [hcell]
      obtain ⟨f1, f2⟩ := hflat j hj
      rw [List.getD_eq_getElem?_getD, f1]
      have : j % P.cellsOf e < (toC (Zf (j / P.cellsOf e))).length := by rw [hlenf _ hi]; exact Nat.mod_lt _ hs
      simp [this]
    · dsimp only; rw [List.length_map, List.length_range]; exact hbl
    · intro z hz
      obtain ⟨i, hi, rfl⟩ := List.mem_map.1 hz
      exact (hZ i (by simpa using hi)).2
end
end Go.Proofs.YtnnbelmpbmfdnaaGreatDoor
/- Own work, by program: what the arguments are. -/
namespace Go.Proofs.YtnnbelmpbmfdnaaGreatDoor
open Go Go.ChangeShapes Go.WideShapes Go.ChangeAt Go.RowKit
theorem cells_3 : Tryz.prog.cellsOf 3 = 1 := by kernel_rfl
theorem cells_9 : Tryz.prog.cellsOf 9 = 1 := by kernel_rfl
theorem cells_22 : Tryz.prog.cellsOf 22 = 1 := by kernel_rfl
theorem cells_94 : Tryz.prog.cellsOf 94 = 5 := by kernel_rfl
def okAct (N : Nat) (_p : HP) (z : Ac0) : Prop := (-9223372036854775808 ≤ z.1 ∧ z.1 ≤ 9223372036854775807) ∧ (-9223372036854775808 ≤ z.2.1 ∧ z.2.1 ≤ 9223372036854775807) ∧ (-9223372036854775808 ≤ z.2.2.1 ∧ z.2.2.1 ≤ 9223372036854775807) ∧ z.2.2.2.1.length ≤ N ∧ isCell z.2.2.2.2 = true
set_option maxRecDepth 100000 in
theorem dec_Act {H : Type} {enc : TypeId × Value → H} {W : World} {N : Nat} (n : Nat) (cs : List Value) (y : DataW H × List MemPlace) (h : Reads enc Tryz.prog W n 94 cs y) (hb : Rows.uptoBulk y.1 ≤ N) : ∃ z : Ac0, cs = ac0C z ∧ okAct N (Old W) z := by
  obtain ⟨xs, m, -, rfl, hlen, hxs, hf⟩ := DataW.trod_struct Tryz.underlying94 h
  rw [cells_94] at hlen
  obtain ⟨a0, a1, a2, a3, a4, rfl⟩ : ∃ a0 a1 a2 a3 a4, cs = [a0, a1, a2, a3, a4] := by
    match cs, hlen with
    | [a0, a1, a2, a3, a4], _ => exact ⟨a0, a1, a2, a3, a4, rfl⟩
  obtain ⟨y0, y1, y2, y3, y4, rfl⟩ : ∃ y0 y1 y2 y3 y4, xs = [y0, y1, y2, y3, y4] := by
    match xs, hxs with
    | [y0, y1, y2, y3, y4], _ => exact ⟨y0, y1, y2, y3, y4, rfl⟩
  have f0 := hf 0 _ rfl
  have g0 : Reads enc Tryz.prog W m 3 (([a0, a1, a2, a3, a4] : List Value).drop 0 |>.take (Tryz.prog.cellsOf 3)) y0 := f0
  rw [cells_3] at g0
  have b0 : Rows.uptoBulk y0.1 ≤ N := bulk_agg hb (by simp)
  obtain ⟨z0, e0, q0⟩ := dec_int' Tryz.underlying3 g0
  simp at e0
  have f1 := hf 1 _ rfl
  have g1 : Reads enc Tryz.prog W m 3 (([a0, a1, a2, a3, a4] : List Value).drop 1 |>.take (Tryz.prog.cellsOf 3)) y1 := f1
  rw [cells_3] at g1
  have b1 : Rows.uptoBulk y1.1 ≤ N := bulk_agg hb (by simp)
  obtain ⟨z1, e1, q1⟩ := dec_int' Tryz.underlying3 g1
  simp at e1
  have f2 := hf 2 _ rfl
  have g2 : Reads enc Tryz.prog W m 3 (([a0, a1, a2, a3, a4] : List Value).drop 2 |>.take (Tryz.prog.cellsOf 3)) y2 := f2
  rw [cells_3] at g2
  have b2 : Rows.uptoBulk y2.1 ≤ N := bulk_agg hb (by simp)
  obtain ⟨z2, e2, q2⟩ := dec_int' Tryz.underlying3 g2
  simp at e2
  have f3 := hf 3 _ rfl
  have g3 : Reads enc Tryz.prog W m 9 (([a0, a1, a2, a3, a4] : List Value).drop 3 |>.take (Tryz.prog.cellsOf 9)) y3 := f3
  rw [cells_9] at g3
  have b3 : Rows.uptoBulk y3.1 ≤ N := bulk_agg hb (by simp)
  obtain ⟨z3, e3, q3⟩ := dec_str Tryz.underlying9 g3 b3
  simp at e3
  have f4 := hf 4 _ rfl
  have g4 : Reads enc Tryz.prog W m 22 (([a0, a1, a2, a3, a4] : List Value).drop 4 |>.take (Tryz.prog.cellsOf 22)) y4 := f4
  rw [cells_22] at g4
  obtain ⟨z4, e4, q4⟩ : ∃ z : Value, a4 = z ∧ isCell z = true := ⟨_, rfl, slice_cell Tryz.underlying22 g4⟩
  subst e0
  subst e1
  subst e2
  subst e3
  replace e4 := e4.symm
  subst e4
  exact ⟨(z0, z1, z2, z3, z4), rfl, q0, q1, q2, q3, q4⟩
def okAct1 (N : Nat) (_p : HP) (z : Ac0) : Prop := (-9223372036854775808 ≤ z.1 ∧ z.1 ≤ 9223372036854775807) ∧ (-9223372036854775808 ≤ z.2.1 ∧ z.2.1 ≤ 9223372036854775807) ∧ (-9223372036854775808 ≤ z.2.2.1 ∧ z.2.2.1 ≤ 9223372036854775807) ∧ z.2.2.2.1.length ≤ N ∧ (∃ l : List Ac0, (∀ h : Hp, _p h → rdS 5 h z.2.2.2.2 l.length (l.flatMap (ac0C))) ∧ l.length ≤ N ∧ ∀ y ∈ l, okAct N _p y)
set_option maxRecDepth 100000 in
theorem dec_Act1 {H : Type} {enc : TypeId × Value → H} {W : World} {N : Nat} (n : Nat) (cs : List Value) (y : DataW H × List MemPlace) (h : Reads enc Tryz.prog W n 94 cs y) (hb : Rows.uptoBulk y.1 ≤ N) : ∃ z : Ac0, cs = ac0C z ∧ okAct1 N (Old W) z := by
  obtain ⟨xs, m, -, rfl, hlen, hxs, hf⟩ := DataW.trod_struct Tryz.underlying94 h
  rw [cells_94] at hlen
  obtain ⟨a0, a1, a2, a3, a4, rfl⟩ : ∃ a0 a1 a2 a3 a4, cs = [a0, a1, a2, a3, a4] := by
    match cs, hlen with
    | [a0, a1, a2, a3, a4], _ => exact ⟨a0, a1, a2, a3, a4, rfl⟩
  obtain ⟨y0, y1, y2, y3, y4, rfl⟩ : ∃ y0 y1 y2 y3 y4, xs = [y0, y1, y2, y3, y4] := by
    match xs, hxs with
    | [y0, y1, y2, y3, y4], _ => exact ⟨y0, y1, y2, y3, y4, rfl⟩
  have f0 := hf 0 _ rfl
  have g0 : Reads enc Tryz.prog W m 3 (([a0, a1, a2, a3, a4] : List Value).drop 0 |>.take (Tryz.prog.cellsOf 3)) y0 := f0
  rw [cells_3] at g0
  have b0 : Rows.uptoBulk y0.1 ≤ N := bulk_agg hb (by simp)
  obtain ⟨z0, e0, q0⟩ := dec_int' Tryz.underlying3 g0
  simp at e0
  have f1 := hf 1 _ rfl
  have g1 : Reads enc Tryz.prog W m 3 (([a0, a1, a2, a3, a4] : List Value).drop 1 |>.take (Tryz.prog.cellsOf 3)) y1 := f1
  rw [cells_3] at g1
  have b1 : Rows.uptoBulk y1.1 ≤ N := bulk_agg hb (by simp)
  obtain ⟨z1, e1, q1⟩ := dec_int' Tryz.underlying3 g1
  simp at e1
  have f2 := hf 2 _ rfl
  have g2 : Reads enc Tryz.prog W m 3 (([a0, a1, a2, a3, a4] : List Value).drop 2 |>.take (Tryz.prog.cellsOf 3)) y2 := f2
  rw [cells_3] at g2
  have b2 : Rows.uptoBulk y2.1 ≤ N := bulk_agg hb (by simp)
  obtain ⟨z2, e2, q2⟩ := dec_int' Tryz.underlying3 g2
  simp at e2
  have f3 := hf 3 _ rfl
  have g3 : Reads enc Tryz.prog W m 9 (([a0, a1, a2, a3, a4] : List Value).drop 3 |>.take (Tryz.prog.cellsOf 9)) y3 := f3
  rw [cells_9] at g3
  have b3 : Rows.uptoBulk y3.1 ≤ N := bulk_agg hb (by simp)
  obtain ⟨z3, e3, q3⟩ := dec_str Tryz.underlying9 g3 b3
  simp at e3
  have f4 := hf 4 _ rfl
  have g4 : Reads enc Tryz.prog W m 22 (([a0, a1, a2, a3, a4] : List Value).drop 4 |>.take (Tryz.prog.cellsOf 22)) y4 := f4
  rw [cells_22] at g4
  have b4 : Rows.uptoBulk y4.1 ≤ N := bulk_agg hb (by simp)
  obtain ⟨w4, e4, q4⟩ := dec_sliceU (N := N) (ac0C) (fun y => okAct N (Old W) y) Tryz.underlying22 cells_94 (by decide) (fun n cs y h hb => dec_Act n cs y h hb) g4 b4
  simp at e4
  obtain ⟨z4, l4⟩ := w4
  dsimp only at e4 q4
  subst e0
  subst e1
  subst e2
  subst e3
  replace e4 := e4.symm
  subst e4
  exact ⟨(z0, z1, z2, z3, z4), rfl, q0, q1, q2, q3, ⟨l4, q4⟩⟩
theorem acts1_of {p : HP} {v : Value} {xs : List Ac0} (q : (∀ h : Hp, p h → rdS 5 h v xs.length (xs.flatMap ac0C)) ∧ xs.length ≤ 1048576 ∧ ∀ y ∈ xs, okAct1 1048576 p y) : Acts1 p v xs := by
  obtain ⟨q1, q2, q3⟩ := q
  refine ⟨⟨q1, q2, fun a ha => ?_⟩, fun a ha => ?_⟩
  · obtain ⟨h1, h2, h3, h4, -⟩ := q3 a ha
    exact ⟨h1, h2, h3, h4⟩
  · obtain ⟨-, -, -, -, l, g1, g2, g3⟩ := q3 a ha
    refine ⟨l, ⟨g1, g2, fun s hs => ?_⟩, fun s hs => (g3 s hs).2.2.2.2⟩
    obtain ⟨h1, h2, h3, h4, -⟩ := g3 s hs
    exact ⟨h1, h2, h3, h4⟩
end Go.Proofs.YtnnbelmpbmfdnaaGreatDoor
/- Own work: treeOwners: the walk, brought to the given second form and its card. -/

namespace Go.Proofs.YtnnbelmpbmfdnaaGreatDoor.treeOwners
open Go Go.ChangeShapes Go.WideShapes Go.ChangeAt Go.RowKit
theorem own : ownKnob Tryz.prog.godebug = none := by kernel_rfl
theorem laid : laidOutB Tryz.prog = true := by kernel_rfl
theorem readable : ∀ t ∈ Tryz.f3.params.toList, Tryz.prog.readableRec t = true ∧ t < Tryz.prog.types.size := by
  have h : (Tryz.f3.params.toList.all fun t => Tryz.prog.readableRec t && decide (t < Tryz.prog.types.size)) = true := by kernel_rfl
  intro t ht
  simpa using List.all_eq_true.1 h t ht
set_option maxRecDepth 100000 in
theorem contract (H : Type) (enc : TypeId × Value → H) (W : World) (base : Nat) (args : Array Value) (ds gs : List (DataW H)) (before : List MemPlace)
    (hval : ∀ (j : Nat) t v, Tryz.f3.params[j]? = some t → args[j]? = some v → Value.okWide Tryz.prog W .any base t v)
    (hW : DataW.Whole enc Tryz.prog Tryz.f3.params.toList Rows.treeOwnersSpec.vars false W args.toList ds gs before) (hk : Rows.uptoSmall H (ds ++ gs) = true) :
    Calls Tryz.prog 3 args W fun e W' => ∃ v, e = .returned v ∧ Rows.treeOwnersSpec.post enc Tryz.prog Tryz.f3 false true false false W args v W' := by
  have hW' := hW
  obtain ⟨p, q, hA, hV, rfl, hfz, hnd⟩ := hW
  obtain ⟨rfl, -⟩ := trodVars_none hV
  rw [List.append_nil] at hk
  have hpar : Tryz.f3.params = #[22] := Tryz.params3
  rw [hpar] at hval
  have hA' := hA
  rw [hpar] at hA'
  obtain ⟨v0, vs0, d0, ds0, p0, r0, ha0, rfl, rfl, h0, t0⟩ := trodAll_cons hA'
  obtain ⟨hv, rfl, rfl⟩ := trodAll_nil t0
  obtain rfl : args = #[v0] := by
    have e : args.toList = [v0] := by rw [ha0, hv]
    cases args; simp_all
  have b0 := bulk_small hk (d := d0) (by simp)
  obtain ⟨ad0, nn0, cp0, rfl⟩ := okWide_slice Tryz.underlying22 (hval 0 _ _ rfl rfl)
  obtain ⟨fu0, g0⟩ := h0
  obtain ⟨z0, e0, q0⟩ := dec_sliceU (N := 1048576) (ac0C) (fun y => okAct1 1048576 (Old W) y) Tryz.underlying22 cells_94 (by decide) (fun n cs y h hb => dec_Act1 n cs y h hb) g0 b0
  simp [Value.cells] at e0
  obtain ⟨v0, xs0⟩ := z0
  dsimp only at e0 q0
  subst e0
  refine (old_calls (towners7_spec _ xs0 (Old W) (acts1_of q0))).mono fun e W' ⟨he, hb⟩ => ⟨_, he, ?_⟩
  exact settled hW' rfl (fun gs' h => by subst h; rfl) rfl Tryz.underlying4 laid readable hb
/-- A world for the witness: the two tables that the row lists, as they are laid. -/
def cellsTo (l : List Value) : Obj → Obj
  | .cells _ t frozen => .cells l.toArray t frozen
  | o => o
noncomputable def laidWorld (os : Os) : World :=
  let w := World.holding Tryz.prog os ⟨#[], #[], []⟩
  { w with heap := (w.heap.modify 1 (cellsTo (Pinned.utf8FirstZ.map fun (n : Nat) => Value.int .u8 n))).modify 2 (cellsTo [.int .u8 128, .int .u8 191, .int .u8 160, .int .u8 191, .int .u8 128, .int .u8 159, .int .u8 144, .int .u8 191, .int .u8 128, .int .u8 143, .int .u8 0, .int .u8 0, .int .u8 0, .int .u8 0, .int .u8 0, .int .u8 0, .int .u8 0, .int .u8 0, .int .u8 0, .int .u8 0, .int .u8 0, .int .u8 0, .int .u8 0, .int .u8 0, .int .u8 0, .int .u8 0, .int .u8 0, .int .u8 0, .int .u8 0, .int .u8 0, .int .u8 0, .int .u8 0]) }
theorem laid_met (os : Os) : laidMet Tryz.prog Rows.treeOwnersUptoRow.laid ((laidWorld os).forCall (fun _ _ => 0) ⟨#[], #[.slice none 0 0], []⟩).memory :=
  laidMet_of_run' 8 (by kernel_rfl) (by kernel_rfl)
theorem reads (os : Os) {H : Type} (enc : TypeId × Value → H) : ∃ places, DataW.whole enc Tryz.prog ((laidWorld os).forCall (fun _ _ => 0) ⟨#[], #[.slice none 0 0], []⟩).memory Tryz.f3.params.toList Rows.treeOwnersSpec.vars false (#[.slice none 0 0] : Array Value).toList 8 = some ([.nil], [], places) :=
  ⟨[], by kernel_rfl⟩
set_option maxRecDepth 100000 in
theorem lifted (os : Os) (started : os.Started) (H : Type) (enc : TypeId × Value → H) (F : Stop.Interp) :
    ReturnsInHanded {} Tryz.checked os 3 .any ((Rows.OpenSpec.upto Rows.treeOwnersSpec).preRow enc Tryz.prog Tryz.f3 Rows.treeOwnersUptoRow.domain false Rows.treeOwnersUptoRow.laid) (((Rows.OpenSpec.upto Rows.treeOwnersSpec).at F).post enc Tryz.prog Tryz.f3 false true false false) := by
  obtain ⟨places, hx⟩ := reads os enc
  refine returnsInHanded_of_row (C := Tryz.checked) (s := Rows.OpenSpec.upto Rows.treeOwnersSpec) own started (by kernel_rfl) Tryz.func3
    (witness_row_at (enc := enc) (C := Tryz.checked) false (laidWorld os) #[.slice none 0 0] rfl (by kernel_rfl) (by kernel_rfl) (by kernel_rfl)
      (OpenSpec.preRow_of_cond 8 hx (by kernel_rfl) (fun k hk => by cases hk; kernel_rfl) (by kernel_rfl) (laid_met os))) ?_
  intro W base args ds gs before hval hW _ hcond _ _ _ _
  exact contract H enc W base args ds gs before hval hW (hcond _ rfl)
theorem saidUpto : Rows.TreeOwnersUptoSaid :=
  OpenClaim.holds_of_cond 3 Tryz.f3 rfl rfl rfl rfl rfl rfl rfl ⟨rfl, rfl, rfl, rfl, rfl⟩ rfl rfl rfl rfl rfl (by kernel_rfl) Tryz.func3 (by kernel_rfl)
    (of_decide_eq_true (by kernel_rfl)) (by unfold Func.isWrapper; first | (rw [if_pos (by decide +kernel)]; kernel_rfl) | (rw [if_neg (by decide +kernel)]; exact ⟨rfl, rfl⟩))
    (fun os started H enc _ F => by rw [OpenClaim.pre_eq_preRow]; exact lifted os started H enc F)
theorem plain (f : FuncId) (fn : Func) (hf : Tryz.pinned.checked.prog.funcNamed "arboretum/arboretumlaw07.TreeOwners" = some f) (hfn : Tryz.pinned.checked.prog.funcs[f]? = some fn) :
    true = Tryz.pinned.checked.prog.looks [] ∧ ∀ (j : Nat) t, fn.params[j]? = some t → Tryz.pinned.checked.prog.wantsStandIn t = false := by
  obtain rfl : f = 3 := Option.some.inj ((show Tryz.prog.funcNamed "arboretum/arboretumlaw07.TreeOwners" = some 3 by kernel_rfl).symm.trans hf) |>.symm
  obtain rfl : fn = Tryz.f3 := (Option.some.inj (Tryz.func3.symm.trans hfn)).symm
  refine ⟨by kernel_rfl, fun j t ht => ?_⟩
  have h : (Tryz.f3.params.toList.all fun t => !Tryz.pinned.checked.prog.wantsStandIn t) = true := by kernel_rfl
  have h2 := List.all_eq_true.1 h t (Array.mem_def.1 (Array.mem_of_getElem? ht))
  simpa using h2
theorem proved : Rows.TreeOwnersUptoCardSaid :=
  Claim7.holds_tied_plain_at .later [] _ _ _ _ saidUpto (fun _ h => by cases h) (by kernel_rfl) (fun _ h => by cases h) treeOwnersUpto_row_tie rfl ⟨rfl, rfl⟩ (by kernel_rfl) rfl plain (by kernel_rfl)
end Go.Proofs.YtnnbelmpbmfdnaaGreatDoor.treeOwners
