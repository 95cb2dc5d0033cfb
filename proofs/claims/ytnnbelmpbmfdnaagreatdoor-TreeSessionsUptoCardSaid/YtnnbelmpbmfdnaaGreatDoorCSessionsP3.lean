/- Own work, some of it printed by program, texts that were built one by one and are laid one behind the other here: the document's tree: what creates and erases: walked. | the document's tree: parts, sessions, entries: walked. | the document's tree: kids, owners, clones, soundness: walked. | the document's tree: soundness: walked. -/
import Derived.Test.YtnnbelmpbmfdnaaGreatDoorCSessionsP2
set_option linter.unusedSimpArgs false
set_option linter.unusedVariables false
/- Own work, by program: the document's tree: what creates and erases: walked. -/

namespace Go.Proofs.YtnnbelmpbmfdnaaGreatDoor
open Go
set_option maxRecDepth 100000 in
theorem rkid7_spec (x : Nat) (τ : Tr) (p : Bs) (num zx : Int) (N : Nat) (ho : τ.Ok N) (hN : N ≤ 1073741824) : Fn Tryz.prog 125 #[vptr x, vstr p, vint num, vint zx] [refR x τ] fun v L => v = .tuple #[] ∧ L = [refR x (kidT τ p num zx)] := by
 refine Fn.intro (vs := [vptr x, vstr p, vint num, vint zx]) Tryz.func125 rfl rfl ?_
 intro F W
 have hfew := ho.few
 have hnd := ho.sorted.nodup linB
 refine G.seq (G.region (G.q (Quiet.move rfl) rfl (G.q (Quiet.move rfl) rfl ?_)))
 refine G.op (OpSpec.call Tryz.func69 rfl rfl (vs := [_, _]) rfl (rplace_spec x τ p (by omega))) (by (repeat' constructor)) rfl ?nx3
 rintro v L' ⟨rfl, rfl⟩
 refine G.q (Quiet.assign rfl) rfl (G.nil (G.then_n (G.seq (G.region (G.q (Quiet.move rfl) rfl (G.q (Quiet.int rfl rfl rfl) rfl (G.nil (G.then_n ?_))))))))
 refine G.condD rfl (fun h13 => ?_) (fun h13 => ?_)
 ·obtain ⟨k, hk, hpk, hkp⟩ := place_get (l := τ.nodes) h13
  have hpz : placeZ τ p = k := hpk
  rw [hpz]
  refine G.rfOpen (x := x) (τ := τ) (by (repeat' constructor)) fun an cn as1 cs l hl => ?_
  have hll := nds_len hl
  have hkl : k < l.length := by omega
  have hlk : l[k].1 = p := by have := nds_get hl hkl; rw [← hkp]; simp only [this]
  refine G.slShape (T := 131) (sz := 12) (v := .slice an l.length cn) (xs := l.flatMap rnC) (by (repeat' constructor)) (by omega) fun bn bn' e0 mbn _ => ?_
  simp only [Value.slice.injEq, true_and] at e0
  obtain ⟨rfl, rfl⟩ := e0
  refine G.seq (G.region (G.q (Quiet.move rfl) rfl (G.q (Quiet.nilp rfl) rfl (G.q (Quiet.fieldAddr rfl fo_101_0) rfl ?_))))
  refine G.q (Quiet.load rfl ag_98 (by (repeat' constructor)) (rfl)) rfl ?_
  refine G.q (Quiet.move rfl) rfl (G.q (Quiet.move rfl) rfl ?_)
  refine G.q (Quiet.indexAddr rfl rfl el_98 (by omega)) rfl ?_
  refine G.q (Quiet.fieldAddr rfl fo_131_3) rfl (G.q (Quiet.fieldAddr rfl fo_43_4) rfl ?_)
  refine G.op (OpSpec.storeRd (sz := 12) (j := k * 12 + 7) rfl rfl ?hv14 sz_3 ?ho15 ?hi16) (by (repeat' constructor)) rfl ?nx17
  case hv14 => first | rfl | assumption
  case ho15 => omega
  case hi16 => omega
  rintro v L' rfl
  refine G.nil ?_
  refine G.slCast (T := 131) (sz := 12) (m' := l.length) (xs' := (l.set k (l[k].1, (l[k].2.1, { l[k].2.2 with st := { l[k].2.2.st with cver := num } }))).flatMap rnC) (by (repeat' constructor)) rfl (flatMap_set (f := rnC) (sz := 12) (fun _ => rfl) (by simpa using hkl) (by decide) (by rfl)) ?_
  refine G.then_n (G.region (G.q (Quiet.move rfl) rfl (G.q (Quiet.nilp rfl) rfl (G.q (Quiet.fieldAddr rfl fo_101_0) rfl ?_))))
  refine G.q (Quiet.load rfl ag_98 (by (repeat' constructor)) (rfl)) rfl ?_
  refine G.q (Quiet.move rfl) rfl (G.q (Quiet.move rfl) rfl ?_)
  refine G.q (Quiet.indexAddr rfl rfl el_98 (by omega)) rfl ?_
  refine G.q (Quiet.fieldAddr rfl fo_131_3) rfl (G.q (Quiet.fieldAddr rfl fo_43_2) rfl ?_)
  refine G.op (OpSpec.storeRd (sz := 12) (j := k * 12 + 5) rfl rfl ?hv26 sz_3 ?ho27 ?hi28) (by (repeat' constructor)) rfl ?nx29
  case hv26 => first | rfl | assumption
  case ho27 => omega
  case hi28 => omega
  rintro v L' rfl
  refine G.nil ?_
  refine G.slCast (T := 131) (sz := 12) (m' := l.length) (xs' := ((l.set k (l[k].1, (l[k].2.1, { l[k].2.2 with st := { l[k].2.2.st with cver := num } }))).set k (l[k].1, (l[k].2.1, kidN num zx l[k].2.2))).flatMap rnC) (by (repeat' constructor)) rfl (flatMap_set (f := rnC) (sz := 12) (fun _ => rfl) (by simpa using hkl) (by decide) (by rw [List.getElem_set_self]; rfl)) ?_
  rw [List.set_set]
  refine G.done_n ?_
  refine G.bigSet (y := (l[k].1, (l[k].2.1, kidN num zx l[k].2.2))) hkl (by rfl) (by (repeat' constructor)) ?_
  refine G.rfFold (x := x) (τ := (kidT τ p num zx)) (l := (l.set k (l[k].1, (l[k].2.1, kidN num zx l[k].2.2)))) (nds_mod hl hnd hkl hlk (kidN num zx) rfl) (by (repeat' constructor)) rfl (by simp) rfl rfl rfl ?_
  exact G.done (l := []) rfl rfl ⟨rfl, rfl⟩ (by (repeat' constructor)) (by (repeat' constructor))
 ·refine G.skip (G.done_n ?_)
  refine G.rfCast (x := x) (τ' := kidT τ p num zx) (by (repeat' constructor)) (by unfold kidT; rw [amod_none (by have h0 : ¬ 0 ≤ placeTo τ.nodes p := h13; rw [place_iff] at h0; simpa using h0)]) ?_
  exact G.done (l := []) rfl rfl ⟨rfl, rfl⟩ (by (repeat' constructor)) (by (repeat' constructor))

theorem rlay2_spec (x : Nat) (τ : Tr) (z : Rn) (hzc : isCell z.2.1 = true) (N : Nat) (ho : τ.Ok N) (hN : N ≤ 1073741824) {T : TypeId} : Fn Tryz.prog 112 #[vptr x, .agg (rnC z).toArray] [refR x τ, slR T 2 z.2.1 z.2.2.acl.length (z.2.2.acl.flatMap acC)] fun v L => v = .tuple #[] ∧ L = [refR x { τ with nodes := sset τ.nodes z.1 z.2.2 }] :=
  Fn.pre2 (rlay_spec x τ z hzc N ho hN) fun F w hs => by
    have h1 := sep_imp (q := inA z) (fun h hp => slR_rd hp) (sep_swap hs)
    exact sep_swap h1
set_option maxRecDepth 100000 in
theorem rcreate_spec (x : Nat) (τ : Tr) (y : Pt) (zx : Int) (p : HP) (hy : PtA p y) (N : Nat) (ho : τ.Ok N) (hN : N + 1 ≤ 1073741824) : Fn Tryz.prog 103 #[vptr x, .agg (ptC y).toArray, vint zx] [refR x τ, p] fun v L => ∃ a c, v = .slice a (createZ τ y zx).2.length c ∧ L = [refR x (createZ τ y zx).1, p, slR 75 3 v (createZ τ y zx).2.length ((createZ τ y zx).2.flatMap evC)] := by
 refine Fn.intro (vs := [vptr x, .agg (ptC y).toArray, vint zx]) Tryz.func103 rfl rfl ?_
 intro F W
 have hfew := hy.few
 have hpl := hy.plen
 have hpar := parent_len y.path
 have hof := ho.few
 refine G.seq (G.region ?_)
 refine G.op (OpSpec.box rfl) (by (repeat' constructor)) rfl ?nx1
 rintro v L' ⟨bx, rfl, rfl⟩
 refine G.q (Quiet.assign rfl) rfl (G.nil ?_)
 refine G.ptCast (b := bx) (l' := ptC y) (by (repeat' constructor)) rfl ?_
 refine G.then_n (G.seq (G.region (G.q (Quiet.fieldAddr rfl fo_37_1) rfl ?_)))
 refine G.q (Quiet.load rfl ag_9 (by (repeat' constructor)) (rfl)) rfl ?_
 refine G.op (OpSpec.call Tryz.func51 rfl rfl (vs := [_]) rfl (rparent_spec y.path (by omega))) (by (repeat' constructor)) rfl ?nx6
 rintro v L' ⟨rfl, rfl⟩
 refine G.q (Quiet.assign rfl) rfl (G.nil (G.then_n (G.seq (G.region (G.q (Quiet.fieldAddr rfl fo_37_1) rfl ?_)))))
 refine G.q (Quiet.load rfl ag_9 (by (repeat' constructor)) (rfl)) rfl ?_
 refine G.op (OpSpec.call Tryz.func118 rfl rfl (vs := [_]) rfl (rable_spec y.path (by omega))) (by (repeat' constructor)) rfl ?nx10
 rintro v L' ⟨rfl, rfl⟩
 refine G.q (Quiet.assign rfl) rfl (G.nil (G.then_n (G.seq (G.seq (G.region (G.q (Quiet.move rfl) rfl (G.q (Quiet.not rfl) rfl (G.q (Quiet.move rfl) rfl ?_))))))))
 refine G.ndec (t := 18) rfl (fun h3_18 => ?_) (fun h3_18 => ?_)
 ·refine G.kNT (t := 17) rfl h3_18 (G.gskip (t := 18) rfl rfl rfl rfl (G.gskip (t := 18) rfl rfl rfl rfl (G.gskip (t := 18) rfl rfl rfl rfl (G.gskip (t := 18) rfl rfl rfl rfl (G.q (Quiet.pickT rfl rfl) rfl (G.nil (G.then_n (G.condT rfl (G.seq (G.region (G.q (Quiet.assign rfl) rfl (G.nil (G.then_n (G.ret (G.then_r (G.add (slR_nil 75 3) ?_))))))))))))))))
  have hc : createZ τ y zx = (τ, []) := by unfold createZ; rw [if_neg (fun g => h3_18 g.1)]
  refine G.rfCast (x := x) (τ' := (createZ τ y zx).1) (by (repeat' constructor)) (by rw [hc]) ?_
  refine G.slCast (T := 75) (sz := 3) (m' := (createZ τ y zx).2.length) (xs' := (createZ τ y zx).2.flatMap evC) (by (repeat' constructor)) (by (rw [hc]; try rfl)) (by (rw [hc]; try rfl)) ?_
  exact G.done (l := [.tmp 6]) rfl rfl ⟨_, _, by (rw [hc]; try rfl), rfl⟩ (by (repeat' constructor)) (by (repeat' constructor))
 ·refine G.kNF (t := 17) rfl h3_18 (G.grun (t := 18) rfl rfl rfl (G.q (Quiet.move rfl) rfl (G.grun (t := 18) rfl rfl rfl (G.q (Quiet.move rfl) rfl (G.grun (t := 18) rfl rfl rfl ?_)))))
  refine G.op (OpSpec.call Tryz.func69 rfl rfl (vs := [_, _]) rfl (rplace_spec x τ (parentZ y.path) (by omega))) (by (repeat' constructor)) rfl ?nx16
  rintro v L' ⟨rfl, rfl⟩
  refine G.grun (t := 18) rfl rfl rfl (G.q (Quiet.int rfl rfl rfl) rfl (G.q (Quiet.pickF rfl rfl) rfl (G.nil (G.then_n ?_))))
  refine G.condD rfl (fun h23 => ?_) (fun h23 => ?_)
  ·refine G.seq (G.region (G.q (Quiet.assign rfl) rfl (G.nil (G.then_n (G.ret (G.then_r (G.add (slR_nil 75 3) ?_)))))))
   have hc : createZ τ y zx = (τ, []) := by unfold createZ; rw [if_neg (fun g => absurd (place_iff.2 g.2) (by have h0 : placeTo τ.nodes (parentZ y.path) < 0 := h23; omega))]
   refine G.rfCast (x := x) (τ' := (createZ τ y zx).1) (by (repeat' constructor)) (by rw [hc]) ?_
   refine G.slCast (T := 75) (sz := 3) (m' := (createZ τ y zx).2.length) (xs' := (createZ τ y zx).2.flatMap evC) (by (repeat' constructor)) (by (rw [hc]; try rfl)) (by (rw [hc]; try rfl)) ?_
   exact G.done (l := [.tmp 6]) rfl rfl ⟨_, _, by (rw [hc]; try rfl), rfl⟩ (by (repeat' constructor)) (by (repeat' constructor))
  ·have hup : thereT τ (parentZ y.path) := place_iff.1 (by have h0 : ¬ placeTo τ.nodes (parentZ y.path) < 0 := h23; omega)
   have hab : ableZ y.path := h3_18
   refine G.skip (G.then_n (G.seq (G.region (G.q (Quiet.assign rfl) rfl (G.nil (G.then_n (G.seq (G.seq (G.region (G.q (Quiet.move rfl) rfl (G.q (Quiet.fieldAddr rfl fo_37_1) rfl ?_)))))))))))
   refine G.q (Quiet.load rfl ag_9 (by (repeat' constructor)) (rfl)) rfl ?_
   refine G.op (OpSpec.call Tryz.func69 rfl rfl (vs := [_, _]) rfl (rplace_spec x τ y.path (by omega))) (by (repeat' constructor)) rfl ?nx24
   rintro v L' ⟨rfl, rfl⟩
   refine G.q (Quiet.int rfl rfl rfl) rfl (G.nil (G.then_n ?_))
   refine G.condD rfl (fun h28 => ?_) (fun h28 => ?_)
   ·refine G.region (G.q (Quiet.assign rfl) rfl (G.nil (G.then_n (G.seq ?_))))
    refine G.draw [7, 15] [[0, 1, 2, 3, 4, 5, 6, 8, 9, 10, 11, 12, 13, 7, 14], [15]] mixed (by kernel_rfl) ?_
    refine Phases.go [ptc bx _ _] (by (repeat' constructor)) ?_
    refine D.q rfl (by kernel_rfl) (Quiet.move rfl) ?_
    refine D.q rfl (by kernel_rfl) (Quiet.fieldAddr rfl fo_37_1) ?_
    refine D.q rfl (by kernel_rfl) (Quiet.load rfl ag_9 (by (repeat' constructor)) (rfl)) ?_
    refine D.q rfl (by kernel_rfl) (Quiet.fieldAddr rfl fo_37_2) ?_
    refine D.q rfl (by kernel_rfl) (Quiet.load rfl ag_9 (by (repeat' constructor)) (rfl)) ?_
    refine D.qw [6, 7, 14] rfl (by kernel_rfl) (Quiet.fieldAddr rfl fo_37_3) ?_
    refine D.qw [7, 14] rfl (by kernel_rfl) (Quiet.load rfl ag_34 (by (repeat' constructor)) (rfl)) ?_
    refine D.q rfl (by kernel_rfl) (Quiet.move rfl) ?_
    refine D.q rfl (by kernel_rfl) (Quiet.move rfl) ?_
    refine D.q rfl (by kernel_rfl) (Quiet.move rfl) ?_
    refine D.q rfl (by kernel_rfl) (Quiet.fieldAddr rfl fo_37_4) ?_
    refine D.q rfl (by kernel_rfl) (Quiet.load rfl ag_3 (by (repeat' constructor)) (rfl)) ?_
    refine D.q rfl (by kernel_rfl) (Quiet.build (us := [(0, _), (1, _), (2, _), (6, _)]) fl_43 ze_43 rfl rfl (by simp [isCell])) ?_
    refine D.h rfl (by kernel_rfl) (OpSpec.call Tryz.func105 rfl rfl (vs := [_]) rfl (rrows_spec y.aclV y.acl p hy.acl hfew)) (by (repeat' constructor)) ?nx41
    rintro v L' ⟨⟨a8, c8, rfl⟩, rfl⟩
    refine D.qw [] rfl (by kernel_rfl) (Quiet.buildN (pl := [(0, 1), (1, 1), (2, 1), (3, 9)]) (us := [(0, vstr y.path), (1, vstr y.data), (2, .slice a8 y.acl.length c8), (3, .agg ([vint zx, vint zx, vint zx, vint 0, vint 0, vint 0, vint y.own, vint 0, vint 0] : List Value).toArray)]) (cells := [vstr y.path, vstr y.data, .slice a8 y.acl.length c8] ++ [vint zx, vint zx, vint zx, vint 0, vint 0, vint 0, vint y.own, vint 0, vint 0]) Tryz.underlying131 (by kernel_rfl) ze_131 rfl (fill_rnode _ _ _ _ _ _ _ _ _ _ _ _ _ _)) ?_
    refine D.ph ?_
    refine Phases.go [] (by (repeat' constructor)) ?_
    refine D.h rfl (by kernel_rfl) (OpSpec.call Tryz.func112 rfl rfl (vs := [_, _]) rfl (rlay2_spec x τ ((y.path, (.slice a8 y.acl.length c8, newN y zx)) : Rn) rfl N ho (by omega))) (by (repeat' constructor)) ?nx44
    rintro v L' ⟨rfl, rfl⟩
    refine D.ph (Phases.fin ?_)
    refine G.rfCast (x := x) (τ' := ({ τ with nodes := sset τ.nodes y.path (newN y zx) } : Tr)) (by (repeat' constructor)) (rfl) ?_
    have hoL := ho.lay (.inr hab) (newN y zx) hfew
    refine G.then_n (G.seq (G.region (G.q (Quiet.move rfl) rfl (G.q (Quiet.move rfl) rfl (G.q (Quiet.fieldAddr rfl fo_37_5) rfl ?_)))))
    refine G.q (Quiet.load rfl ag_3 (by (repeat' constructor)) (rfl)) rfl ?_
    refine G.q (Quiet.move rfl) rfl ?_
    refine G.op (OpSpec.call Tryz.func125 rfl rfl (vs := [_, _, _, _]) rfl (rkid7_spec x ({ τ with nodes := sset τ.nodes y.path (newN y zx) } : Tr) (parentZ y.path) y.num zx (N + 1) hoL (by omega))) (by (repeat' constructor)) rfl ?nx50
    rintro v L' ⟨rfl, rfl⟩
    refine G.nil (G.then_n (G.seq (G.region (G.q (Quiet.move rfl) rfl (G.q (Quiet.fieldAddr rfl fo_37_1) rfl ?_)))))
    refine G.q (Quiet.load rfl ag_9 (by (repeat' constructor)) (rfl)) rfl ?_
    refine G.q (Quiet.move rfl) rfl ?_
    refine G.q (Quiet.build (us := [(0, _), (1, _), (2, _)]) fl_75 ze_75 rfl rfl (by simp [isCell])) rfl ?_
    refine G.q (Quiet.move rfl) rfl (G.q (Quiet.move rfl) rfl ?_)
    refine G.q (Quiet.build (us := [(0, _), (1, _), (2, _)]) fl_75 ze_75 rfl rfl (by simp [isCell])) rfl ?_
    refine G.op (OpSpec.buildSlice (vs := [_, _]) el_30 ze_75 rfl rfl rfl rfl (by first | (simp [Value.cells]; done) | (intro v hv; simp only [List.mem_cons, List.not_mem_nil, or_false] at hv; (repeat (first | (subst hv; rfl) | (rcases hv with hv | hv; (subst hv; rfl)))))) (by decide)) (by (repeat' constructor)) rfl ?nx58
    rintro v L' ⟨bo, rfl, rfl⟩
    refine G.q (Quiet.assign rfl) rfl (G.nil ?_)
    refine G.slMakeN 3 2 (b := bo) (xs := ([(3, (y.path, zx)), (4, (parentZ y.path, zx))] : List Ev).flatMap evC) (by (repeat' constructor)) rfl rfl ?_
    refine G.then_n (G.ret ?_)
    have hc : createZ τ y zx = (kidT ({ τ with nodes := sset τ.nodes y.path (newN y zx) } : Tr) (parentZ y.path) y.num zx, [(3, (y.path, zx)), (4, (parentZ y.path, zx))]) := by unfold createZ; rw [if_pos ⟨hab, hup⟩, if_pos (show thereT τ y.path from place_iff.1 h28)]
    refine G.rfCast (x := x) (τ' := (createZ τ y zx).1) (by (repeat' constructor)) (by rw [hc]) ?_
    refine G.slCast (T := 75) (sz := 3) (m' := (createZ τ y zx).2.length) (xs' := (createZ τ y zx).2.flatMap evC) (by (repeat' constructor)) (by (rw [hc]; try rfl)) (by (rw [hc]; try rfl)) ?_
    exact G.done (l := [.tmp 6]) rfl rfl ⟨_, _, by (rw [hc]; try rfl), rfl⟩ (by (repeat' constructor)) (by (repeat' constructor))
   ·refine G.skip (G.then_n (G.seq ?_))
    refine G.draw [7, 15] [[0, 1, 2, 3, 4, 5, 6, 8, 9, 10, 11, 12, 13, 7, 14], [15]] mixed (by kernel_rfl) ?_
    refine Phases.go [ptc bx _ _] (by (repeat' constructor)) ?_
    refine D.q rfl (by kernel_rfl) (Quiet.move rfl) ?_
    refine D.q rfl (by kernel_rfl) (Quiet.fieldAddr rfl fo_37_1) ?_
    refine D.q rfl (by kernel_rfl) (Quiet.load rfl ag_9 (by (repeat' constructor)) (rfl)) ?_
    refine D.q rfl (by kernel_rfl) (Quiet.fieldAddr rfl fo_37_2) ?_
    refine D.q rfl (by kernel_rfl) (Quiet.load rfl ag_9 (by (repeat' constructor)) (rfl)) ?_
    refine D.qw [6, 7, 14] rfl (by kernel_rfl) (Quiet.fieldAddr rfl fo_37_3) ?_
    refine D.qw [7, 14] rfl (by kernel_rfl) (Quiet.load rfl ag_34 (by (repeat' constructor)) (rfl)) ?_
    refine D.q rfl (by kernel_rfl) (Quiet.move rfl) ?_
    refine D.q rfl (by kernel_rfl) (Quiet.move rfl) ?_
    refine D.q rfl (by kernel_rfl) (Quiet.move rfl) ?_
    refine D.q rfl (by kernel_rfl) (Quiet.fieldAddr rfl fo_37_4) ?_
    refine D.q rfl (by kernel_rfl) (Quiet.load rfl ag_3 (by (repeat' constructor)) (rfl)) ?_
    refine D.q rfl (by kernel_rfl) (Quiet.build (us := [(0, _), (1, _), (2, _), (6, _)]) fl_43 ze_43 rfl rfl (by simp [isCell])) ?_
    refine D.h rfl (by kernel_rfl) (OpSpec.call Tryz.func105 rfl rfl (vs := [_]) rfl (rrows_spec y.aclV y.acl p hy.acl hfew)) (by (repeat' constructor)) ?nx73
    rintro v L' ⟨⟨a8, c8, rfl⟩, rfl⟩
    refine D.qw [] rfl (by kernel_rfl) (Quiet.buildN (pl := [(0, 1), (1, 1), (2, 1), (3, 9)]) (us := [(0, vstr y.path), (1, vstr y.data), (2, .slice a8 y.acl.length c8), (3, .agg ([vint zx, vint zx, vint zx, vint 0, vint 0, vint 0, vint y.own, vint 0, vint 0] : List Value).toArray)]) (cells := [vstr y.path, vstr y.data, .slice a8 y.acl.length c8] ++ [vint zx, vint zx, vint zx, vint 0, vint 0, vint 0, vint y.own, vint 0, vint 0]) Tryz.underlying131 (by kernel_rfl) ze_131 rfl (fill_rnode _ _ _ _ _ _ _ _ _ _ _ _ _ _)) ?_
    refine D.ph ?_
    refine Phases.go [] (by (repeat' constructor)) ?_
    refine D.h rfl (by kernel_rfl) (OpSpec.call Tryz.func112 rfl rfl (vs := [_, _]) rfl (rlay2_spec x τ ((y.path, (.slice a8 y.acl.length c8, newN y zx)) : Rn) rfl N ho (by omega))) (by (repeat' constructor)) ?nx76
    rintro v L' ⟨rfl, rfl⟩
    refine D.ph (Phases.fin ?_)
    refine G.rfCast (x := x) (τ' := ({ τ with nodes := sset τ.nodes y.path (newN y zx) } : Tr)) (by (repeat' constructor)) (rfl) ?_
    have hoL := ho.lay (.inr hab) (newN y zx) hfew
    refine G.then_n (G.seq (G.region (G.q (Quiet.move rfl) rfl (G.q (Quiet.move rfl) rfl (G.q (Quiet.fieldAddr rfl fo_37_5) rfl ?_)))))
    refine G.q (Quiet.load rfl ag_3 (by (repeat' constructor)) (rfl)) rfl ?_
    refine G.q (Quiet.move rfl) rfl ?_
    refine G.op (OpSpec.call Tryz.func125 rfl rfl (vs := [_, _, _, _]) rfl (rkid7_spec x ({ τ with nodes := sset τ.nodes y.path (newN y zx) } : Tr) (parentZ y.path) y.num zx (N + 1) hoL (by omega))) (by (repeat' constructor)) rfl ?nx82
    rintro v L' ⟨rfl, rfl⟩
    refine G.nil (G.then_n (G.seq (G.region (G.q (Quiet.move rfl) rfl (G.q (Quiet.fieldAddr rfl fo_37_1) rfl ?_)))))
    refine G.q (Quiet.load rfl ag_9 (by (repeat' constructor)) (rfl)) rfl ?_
    refine G.q (Quiet.move rfl) rfl ?_
    refine G.q (Quiet.build (us := [(0, _), (1, _), (2, _)]) fl_75 ze_75 rfl rfl (by simp [isCell])) rfl ?_
    refine G.q (Quiet.move rfl) rfl (G.q (Quiet.move rfl) rfl ?_)
    refine G.q (Quiet.build (us := [(0, _), (1, _), (2, _)]) fl_75 ze_75 rfl rfl (by simp [isCell])) rfl ?_
    refine G.op (OpSpec.buildSlice (vs := [_, _]) el_30 ze_75 rfl rfl rfl rfl (by first | (simp [Value.cells]; done) | (intro v hv; simp only [List.mem_cons, List.not_mem_nil, or_false] at hv; (repeat (first | (subst hv; rfl) | (rcases hv with hv | hv; (subst hv; rfl)))))) (by decide)) (by (repeat' constructor)) rfl ?nx90
    rintro v L' ⟨bo, rfl, rfl⟩
    refine G.q (Quiet.assign rfl) rfl (G.nil ?_)
    refine G.slMakeN 3 2 (b := bo) (xs := ([(1, (y.path, zx)), (4, (parentZ y.path, zx))] : List Ev).flatMap evC) (by (repeat' constructor)) rfl rfl ?_
    refine G.then_n (G.ret ?_)
    have hc : createZ τ y zx = (kidT ({ τ with nodes := sset τ.nodes y.path (newN y zx) } : Tr) (parentZ y.path) y.num zx, [(1, (y.path, zx)), (4, (parentZ y.path, zx))]) := by unfold createZ; rw [if_pos ⟨hab, hup⟩, if_neg (show ¬ thereT τ y.path from fun g => h28 (place_iff.2 g))]
    refine G.rfCast (x := x) (τ' := (createZ τ y zx).1) (by (repeat' constructor)) (by rw [hc]) ?_
    refine G.slCast (T := 75) (sz := 3) (m' := (createZ τ y zx).2.length) (xs' := (createZ τ y zx).2.flatMap evC) (by (repeat' constructor)) (by (rw [hc]; try rfl)) (by (rw [hc]; try rfl)) ?_
    exact G.done (l := [.tmp 6]) rfl rfl ⟨_, _, by (rw [hc]; try rfl), rfl⟩ (by (repeat' constructor)) (by (repeat' constructor))

set_option maxRecDepth 100000 in
theorem rerase_spec (x : Nat) (τ : Tr) (y : Pt) (zx : Int) (p : HP) (hy : PtA p y) (N : Nat) (ho : τ.Ok N) (hN : N + 1 ≤ 1073741824) : Fn Tryz.prog 104 #[vptr x, .agg (ptC y).toArray, vint zx] [refR x τ] fun v L => ∃ a c, v = .slice a (eraseZ τ y zx).2.length c ∧ L = [refR x (eraseZ τ y zx).1, slR 75 3 v (eraseZ τ y zx).2.length ((eraseZ τ y zx).2.flatMap evC)] := by
 refine Fn.intro (vs := [vptr x, .agg (ptC y).toArray, vint zx]) Tryz.func104 rfl rfl ?_
 intro F W
 have hfew := hy.few
 have hpl := hy.plen
 have hpar := parent_len y.path
 have hof := ho.few
 refine G.seq (G.region ?_)
 refine G.op (OpSpec.box rfl) (by (repeat' constructor)) rfl ?nx1
 rintro v L' ⟨bx, rfl, rfl⟩
 refine G.q (Quiet.assign rfl) rfl (G.nil ?_)
 refine G.ptCast (b := bx) (l' := ptC y) (by (repeat' constructor)) rfl ?_
 refine G.then_n (G.seq (G.region (G.q (Quiet.fieldAddr rfl fo_37_1) rfl ?_)))
 refine G.q (Quiet.load rfl ag_9 (by (repeat' constructor)) (rfl)) rfl ?_
 refine G.op (OpSpec.call Tryz.func118 rfl rfl (vs := [_]) rfl (rable_spec y.path (by omega))) (by (repeat' constructor)) rfl ?nx6
 rintro v L' ⟨rfl, rfl⟩
 refine G.q (Quiet.assign rfl) rfl (G.nil (G.then_n (G.seq (G.seq (G.region (G.q (Quiet.move rfl) rfl (G.q (Quiet.not rfl) rfl (G.nil (G.then_n ?_)))))))))
 refine G.condN rfl (fun h18 => ?_) (fun h18 => ?_)
 ·refine G.seq (G.region (G.q (Quiet.assign rfl) rfl (G.nil (G.then_n (G.ret (G.then_r (G.add (slR_nil 75 3) ?_)))))))
  have hc : eraseZ τ y zx = (τ, []) := by unfold eraseZ; rw [if_neg h18]
  refine G.rfCast (x := x) (τ' := (eraseZ τ y zx).1) (by (repeat' constructor)) (by rw [hc]) ?_
  refine G.slCast (T := 75) (sz := 3) (m' := (eraseZ τ y zx).2.length) (xs' := (eraseZ τ y zx).2.flatMap evC) (by (repeat' constructor)) (by (rw [hc]; try rfl)) (by (rw [hc]; try rfl)) ?_
  exact G.done (l := [.tmp 6]) rfl rfl ⟨_, _, by (rw [hc]; try rfl), rfl⟩ (by (repeat' constructor)) (by (repeat' constructor))
 ·refine G.skip (G.then_n (G.seq (G.region (G.q (Quiet.fieldAddr rfl fo_37_1) rfl ?_))))
  refine G.q (Quiet.load rfl ag_9 (by (repeat' constructor)) (rfl)) rfl ?_
  refine G.op (OpSpec.call Tryz.func51 rfl rfl (vs := [_]) rfl (rparent_spec y.path (by omega))) (by (repeat' constructor)) rfl ?nx12
  rintro v L' ⟨rfl, rfl⟩
  refine G.q (Quiet.assign rfl) rfl (G.nil (G.then_n (G.seq (G.region (G.q (Quiet.move rfl) rfl (G.q (Quiet.fieldAddr rfl fo_37_1) rfl ?_))))))
  refine G.q (Quiet.load rfl ag_9 (by (repeat' constructor)) (rfl)) rfl ?_
  refine G.op (OpSpec.call Tryz.func69 rfl rfl (vs := [_, _]) rfl (rplace_spec x τ y.path (by omega))) (by (repeat' constructor)) rfl ?nx17
  rintro v L' ⟨rfl, rfl⟩
  refine G.q (Quiet.int rfl rfl rfl) rfl (G.q (Quiet.assign rfl) rfl (G.nil (G.then_n (G.seq (G.add (slR_nil 131 12) ?_)))))
  refine G.rfOpen (x := x) (τ := τ) (by (repeat' constructor)) fun an cn as1 cs l hl => ?_
  have hll := nds_len hl
  refine G.region (G.q (Quiet.assign rfl) rfl (G.nil (G.then_n (G.seq (G.seq (G.region (G.q (Quiet.assign rfl) rfl (G.nil (G.then_n (G.block ?_))))))))))
  refine G.loopK (ι := Nat × Value) (fun q E => (11, vint q.1) :: (10, q.2) :: E) (fun q => [rnR q.2 ((l.take q.1).filter fun w => !hitT w.1 y.path)]) (fun q => q.1 ≤ l.length ∧ ∃ a c, q.2 = .slice a ((l.take q.1).filter fun w => !hitT w.1 y.path).length c) (fun q => l.length - q.1) (0, .slice none 0 0) (ts := [0, 2, 4, 6, 8, 9]) (.cons rfl (.cons rfl (.cons rfl (.cons rfl (.cons rfl (.cons rfl (.nil))))))) (⟨Nat.zero_le _, none, 0, rfl⟩) ⟨rfl, rfl, rfl, rfl, rfl, rfl, rfl, rfl, trivial⟩ (by (repeat' constructor)) ?_
  rintro ⟨i, u⟩ ⟨hi, au, cu, hu⟩
  dsimp only
  dsimp only at hi hu
  subst hu
  have hfl := List.length_filter_le (fun w : Rn => !hitT w.1 y.path) (l.take i)
  rw [List.length_take] at hfl
  refine G.seq (G.seq (G.region (G.q (Quiet.move rfl) rfl (G.q (Quiet.move rfl) rfl (G.q (Quiet.nilp rfl) rfl (G.q (Quiet.fieldAddr rfl fo_101_0) rfl ?_))))))
  refine G.q (Quiet.load rfl ag_98 (by (repeat' constructor)) (rfl)) rfl ?_
  refine G.q (Quiet.slen rfl Tryz.underlying98 rfl) rfl (G.q (Quiet.int rfl rfl rfl) rfl (G.nil (G.then_n ?_)))
  refine G.condD rfl (fun h33 => ?_) (fun h33 => ?_)
  ·have hi2 : i < l.length := by omega
   have hpi : l[i].1.length ≤ 60 := by have := nds_get hl hi2; have h2 := able_len (ho.able _ (List.getElem_mem (l := τ.nodes) (n := i) (by omega))); rw [this] at h2; exact h2
   refine G.slShape (T := 131) (sz := 12) (v := .slice an l.length cn) (xs := l.flatMap rnC) (by (repeat' constructor)) (by omega) fun bn bn' e0 mbn _ => ?_
   simp only [Value.slice.injEq, true_and] at e0
   obtain ⟨rfl, rfl⟩ := e0
   refine G.skip (G.then_n (G.seq (G.block (G.seq ?_))))
   refine G.draw [10] [[0, 1, 2, 3, 4, 5, 6, 7, 8, 9, 10], [11]] mixed (by kernel_rfl) ?_
   refine Phases.go [] (by (repeat' constructor)) ?_
   refine D.qw [1, 2, 3, 5, 6, 7, 10] rfl (by kernel_rfl) (Quiet.move rfl) ?_
   refine D.qw [2, 3, 5, 6, 7, 10] rfl (by kernel_rfl) (Quiet.nilp rfl) ?_
   refine D.qw [3, 5, 6, 7, 10] rfl (by kernel_rfl) (Quiet.fieldAddr rfl fo_101_0) ?_
   refine D.qw [5, 6, 7, 10] rfl (by kernel_rfl) (Quiet.load rfl ag_98 (by (repeat' constructor)) (rfl)) ?_
   refine D.qw [5, 6, 7, 10] rfl (by kernel_rfl) (Quiet.move rfl) ?_
   refine D.qw [6, 7, 10] rfl (by kernel_rfl) (Quiet.indexAddr rfl rfl el_98 (by omega)) ?_
   refine D.qw [7, 10] rfl (by kernel_rfl) (Quiet.fieldAddr rfl fo_131_0) ?_
   refine D.qw [10] rfl (by kernel_rfl) (Quiet.loadRd (sz := 12) (j := i * 12 + 0) (p := rnR _ l) rfl ag_9 (by (repeat' constructor)) (fun h hp => slR_rd hp) (by omega) ((rn_cell (l := l) (i := i) (k := 0) (by omega) (by decide)).trans rfl)) ?_
   refine D.qw [9, 10] rfl (by kernel_rfl) (Quiet.fieldAddr rfl fo_37_1) ?_
   refine D.qw [10] rfl (by kernel_rfl) (Quiet.load rfl ag_9 (by (repeat' constructor)) (rfl)) ?_
   refine D.h rfl (by kernel_rfl) (OpSpec.call Tryz.func126 rfl rfl (vs := [_, _]) rfl (runder_spec l[i].1 y.path (by omega))) (by (repeat' constructor)) ?nx39
   rintro v L' ⟨rfl, rfl⟩
   refine D.ph ?_
   refine Phases.go [] (by (repeat' constructor)) ?_
   refine D.qw [] rfl (by kernel_rfl) (Quiet.assign rfl) ?_
   refine D.ph (Phases.fin (G.then_n (G.seq ?_)))
   refine G.draw [] [[0, 1, 2, 3, 4, 5, 6, 7, 8, 9, 10, 11, 12, 13, 14]] mixed (by kernel_rfl) ?_
   refine Phases.go [] (by (repeat' constructor)) ?_
   refine D.qw [1, 2, 3, 5, 6, 7, 10, 11, 12, 13, 14] rfl (by kernel_rfl) (Quiet.move rfl) ?_
   refine D.qw [2, 3, 5, 6, 7, 10, 11, 12, 13, 14] rfl (by kernel_rfl) (Quiet.nilp rfl) ?_
   refine D.qw [3, 5, 6, 7, 10, 11, 12, 13, 14] rfl (by kernel_rfl) (Quiet.fieldAddr rfl fo_101_0) ?_
   refine D.qw [5, 6, 7, 10, 11, 12, 13, 14] rfl (by kernel_rfl) (Quiet.load rfl ag_98 (by (repeat' constructor)) (rfl)) ?_
   refine D.qw [5, 6, 7, 10, 11, 12, 13, 14] rfl (by kernel_rfl) (Quiet.move rfl) ?_
   refine D.qw [6, 7, 10, 11, 12, 13, 14] rfl (by kernel_rfl) (Quiet.indexAddr rfl rfl el_98 (by omega)) ?_
   refine D.qw [7, 10, 11, 12, 13, 14] rfl (by kernel_rfl) (Quiet.fieldAddr rfl fo_131_0) ?_
   refine D.qw [10, 11, 12, 13, 14] rfl (by kernel_rfl) (Quiet.loadRd (sz := 12) (j := i * 12 + 0) (p := rnR _ l) rfl ag_9 (by (repeat' constructor)) (fun h hp => slR_rd hp) (by omega) ((rn_cell (l := l) (i := i) (k := 0) (by omega) (by decide)).trans rfl)) ?_
   refine D.qw [9, 10, 11, 12, 13, 14] rfl (by kernel_rfl) (Quiet.fieldAddr rfl fo_37_1) ?_
   refine D.qw [10, 11, 12, 13, 14] rfl (by kernel_rfl) (Quiet.load rfl ag_9 (by (repeat' constructor)) (rfl)) ?_
   refine D.qw [11, 12, 13, 14] rfl (by kernel_rfl) (Quiet.strne rfl rfl) ?_
   refine D.qw [12, 13, 14] rfl (by kernel_rfl) (Quiet.move rfl) ?_
   refine D.ndec (t := 58) rfl (fun h11_58 => ?_) (fun h11_58 => ?_)
   ·refine D.kNT (t := 57) rfl h11_58 ?_
    refine D.gqw [13, 14] (t := 58) rfl rfl rfl (by kernel_rfl) (Quiet.move rfl) ?_
    refine D.gqw [14] (t := 58) rfl rfl rfl (by kernel_rfl) (Quiet.not rfl) ?_
    refine D.qw [] rfl (by kernel_rfl) (Quiet.pickT rfl rfl) ?_
    refine D.ph (Phases.fin (G.then_n ?_))
    refine G.condN rfl (fun h61 => ?_) (fun h61 => ?_)
    ·have hhit : hitT l[i].1 y.path = false := by unfold hitT; rw [decide_eq_false h11_58, decide_eq_false h61]; rfl
     refine G.aclShape (l := l) (i := i) hi2 (by (repeat' constructor)) fun hcl => ?_
     refine G.region (G.q (Quiet.move rfl) rfl (G.q (Quiet.move rfl) rfl (G.q (Quiet.nilp rfl) rfl (G.q (Quiet.fieldAddr rfl fo_101_0) rfl ?_))))
     refine G.q (Quiet.load rfl ag_98 (by (repeat' constructor)) (rfl)) rfl ?_
     refine G.q (Quiet.move rfl) rfl ?_
     refine G.q (Quiet.indexAddr rfl rfl el_98 (by omega)) rfl ?_
     refine G.q (Quiet.loadRdA (sz := 12) (j := i * 12) (k := 12) (p := rnR _ l) (vs := rnC l[i]) rfl ag_131 (by (repeat' constructor)) (fun h hp => slR_rd hp) (by omega) (by omega) (by omega) (flatMap_at (f := rnC) (sz := 12) (fun _ _ => rfl) (by omega))) rfl ?_
     refine G.op (OpSpec.buildSlice (vs := [_]) el_98 ze_131 rfl rfl rfl rfl (by first | (simp [Value.cells]; done) | (intro v hv; simp only [List.mem_cons, List.not_mem_nil, or_false] at hv; (repeat (first | (subst hv; rfl) | (rcases hv with hv | hv; (subst hv; rfl)))))) (by decide)) (by (repeat' constructor)) rfl ?nx61
     rintro v L' ⟨b12_8, rfl, rfl⟩
     refine G.op (OpSpec.append1 rfl rfl rfl el_98 ze_131 rfl rfl ?c63 ?c64 (Nat.le_refl _) ?c65 (by decide)) (by (repeat' constructor)) rfl ?nx66
     case c63 => first | exact rn_cells hcl | (simp only [List.map_cons, List.map_nil, List.flatten_cons, List.flatten_nil, List.append_nil]; exact rn_cells hcl)
     case c64 => rfl
     case c65 => first | omega | (simp; omega)
     rintro v L' ⟨⟨a12_9, c12_9, rfl⟩, rfl⟩
     refine G.q (Quiet.assign rfl) rfl (G.nil (G.blk_n (G.then_n (G.region (G.q (Quiet.move rfl) rfl ?_)))))
     refine G.q (Quiet.add rfl rfl (by omega)) rfl ?_
     refine G.q (Quiet.assign rfl) rfl (G.nil (G.then_n ?_))
     have hst : ((l.take (i + 1)).filter fun w => !hitT w.1 y.path) = ((l.take i).filter fun w => !hitT w.1 y.path) ++ [l[i]] := by rw [List.take_succ_eq_append_getElem hi2, List.filter_append]; simp [hhit]
     rw [show ((l.take i).filter fun w => !hitT w.1 y.path).length + 1 = ((l.take (i + 1)).filter fun w => !hitT w.1 y.path).length by rw [hst, List.length_append]; rfl]
     refine G.slCast (T := 131) (sz := 12) (m' := ((l.take (i + 1)).filter fun w => !hitT w.1 y.path).length) (xs' := ((l.take (i + 1)).filter fun w => !hitT w.1 y.path).flatMap rnC) (by (repeat' constructor)) rfl (by rw [hst, List.flatMap_append]; simp; rfl) ?_
     exact G.roundK ((i + 1, .slice a12_9 ((l.take (i + 1)).filter fun w => !hitT w.1 y.path).length c12_9)) (⟨by dsimp only; omega, _, _, rfl⟩) (by dsimp only; omega) ⟨rfl, rfl, rfl, rfl, rfl, rfl, rfl, rfl, trivial⟩ (by (repeat' constructor)) (by ((repeat (apply Have.cons; (repeat (first | exact Pick.here | apply Pick.there)))); apply Have.base; repeat' constructor))
    ·refine G.skip (G.blk_n (G.then_n (G.region (G.q (Quiet.move rfl) rfl ?_))))
     refine G.q (Quiet.add rfl rfl (by omega)) rfl ?_
     refine G.q (Quiet.assign rfl) rfl (G.nil (G.then_n ?_))
     have hhit : hitT l[i].1 y.path = true := by unfold hitT; rw [decide_eq_true (p := underZ l[i].1 y.path) (by simpa using h61), Bool.or_true]
     have hst : ((l.take (i + 1)).filter fun w => !hitT w.1 y.path) = ((l.take i).filter fun w => !hitT w.1 y.path) := by rw [List.take_succ_eq_append_getElem hi2, List.filter_append]; simp [hhit]
     rw [← hst]
     exact G.roundK ((i + 1, .slice au ((l.take (i + 1)).filter fun w => !hitT w.1 y.path).length cu)) (⟨by dsimp only; omega, _, _, rfl⟩) (by dsimp only; omega) ⟨rfl, rfl, rfl, rfl, rfl, rfl, rfl, rfl, trivial⟩ (by (repeat' constructor)) (by ((repeat (apply Have.cons; (repeat (first | exact Pick.here | apply Pick.there)))); apply Have.base; repeat' constructor))
   ·refine D.kNF (t := 57) rfl h11_58 ?_
    refine D.gs (t := 58) rfl rfl rfl rfl (by kernel_rfl) ?_
    refine D.gs (t := 58) rfl rfl rfl rfl (by kernel_rfl) ?_
    refine D.qw [] rfl (by kernel_rfl) (Quiet.pickF rfl rfl) ?_
    refine D.ph (Phases.fin (G.then_n (G.condF rfl (G.skip (G.blk_n (G.then_n (G.region (G.q (Quiet.move rfl) rfl ?_))))))))
    refine G.q (Quiet.add rfl rfl (by omega)) rfl ?_
    refine G.q (Quiet.assign rfl) rfl (G.nil (G.then_n ?_))
    have hhit : hitT l[i].1 y.path = true := by unfold hitT; rw [decide_eq_true h11_58]; rfl
    have hst : ((l.take (i + 1)).filter fun w => !hitT w.1 y.path) = ((l.take i).filter fun w => !hitT w.1 y.path) := by rw [List.take_succ_eq_append_getElem hi2, List.filter_append]; simp [hhit]
    rw [← hst]
    exact G.roundK ((i + 1, .slice au ((l.take (i + 1)).filter fun w => !hitT w.1 y.path).length cu)) (⟨by dsimp only; omega, _, _, rfl⟩) (by dsimp only; omega) ⟨rfl, rfl, rfl, rfl, rfl, rfl, rfl, rfl, trivial⟩ (by (repeat' constructor)) (by ((repeat (apply Have.cons; (repeat (first | exact Pick.here | apply Pick.there)))); apply Have.base; repeat' constructor))
  ·have hii : i = l.length := by omega
   subst hii
   rw [List.take_length]
   refine G.exit (G.then_e (G.then_e (G.blk_e (G.then_n (G.seq (G.region (G.q (Quiet.move rfl) rfl (G.q (Quiet.move rfl) rfl (G.q (Quiet.nilp rfl) rfl (G.q (Quiet.fieldAddr rfl fo_101_0) rfl ?_))))))))))
   refine G.op (OpSpec.store rfl rfl rfl sz_98 ?c79 ?c80) (by (repeat' constructor)) rfl ?nx81
   case c79 => first | decide | (simp; omega) | simp
   case c80 => exact nfz0 _ _
   rintro v L' rfl
   refine G.nil ?_
   refine G.bigSub (l := (l.filter fun w => !hitT w.1 y.path)) List.filter_sublist (by (repeat' constructor)) ?_
   refine G.rfFold (x := x) (τ := (cutT τ y.path)) (l := (l.filter fun w => !hitT w.1 y.path)) (by rw [nds_filter (fun q => !hitT q y.path), hl]; rfl) (by (repeat' constructor)) rfl rfl rfl rfl rfl ?_
   refine G.then_n (G.seq (G.region (G.q (Quiet.move rfl) rfl (G.q (Quiet.move rfl) rfl (G.q (Quiet.fieldAddr rfl fo_37_5) rfl ?_)))))
   refine G.q (Quiet.load rfl ag_3 (by (repeat' constructor)) (rfl)) rfl ?_
   refine G.q (Quiet.move rfl) rfl ?_
   refine G.op (OpSpec.call Tryz.func125 rfl rfl (vs := [_, _, _, _]) rfl (rkid7_spec x (cutT τ y.path) (parentZ y.path) y.num zx N (ho.cut y.path) (by omega))) (by (repeat' constructor)) rfl ?nx87
   rintro v L' ⟨rfl, rfl⟩; have hoK := (ho.cut y.path).kid (parentZ y.path) y.num zx; have hofk := hoK.few
   refine G.nil (G.then_n (G.seq (G.seq (G.region (G.q (Quiet.move rfl) rfl (G.q (Quiet.not rfl) rfl (G.nil (G.then_n ?_))))))))
   refine G.condN rfl (fun h83 => ?_) (fun h83 => ?_)
   ·have hth : ¬ thereT τ y.path := fun g => h83 (place_iff.2 g)
    refine G.seq (G.region (G.q (Quiet.assign rfl) rfl (G.nil (G.then_n (G.ret (G.then_r (G.add (slR_nil 75 3) ?_)))))))
    have hc : eraseZ τ y zx = ((kidT (cutT τ y.path) (parentZ y.path) y.num zx), []) := by unfold eraseZ; rw [if_pos h18, if_neg hth]
    refine G.rfCast (x := x) (τ' := (eraseZ τ y zx).1) (by (repeat' constructor)) (by rw [hc]) ?_
    refine G.slCast (T := 75) (sz := 3) (m' := (eraseZ τ y zx).2.length) (xs' := (eraseZ τ y zx).2.flatMap evC) (by (repeat' constructor)) (by (rw [hc]; try rfl)) (by (rw [hc]; try rfl)) ?_
    exact G.done (l := [.tmp 6]) rfl rfl ⟨_, _, by (rw [hc]; try rfl), rfl⟩ (by (repeat' constructor)) (by (repeat' constructor))
   ·have hth : thereT τ y.path := place_iff.1 h83
    refine G.skip (G.then_n (G.seq (G.region (G.q (Quiet.fieldAddr rfl fo_37_1) rfl ?_))))
    refine G.q (Quiet.load rfl ag_9 (by (repeat' constructor)) (rfl)) rfl ?_
    refine G.q (Quiet.move rfl) rfl ?_
    refine G.q (Quiet.build (us := [(0, _), (1, _), (2, _)]) fl_75 ze_75 rfl rfl (by simp [isCell])) rfl ?_
    refine G.op (OpSpec.buildSlice (vs := [_]) el_30 ze_75 rfl rfl rfl rfl (by first | (simp [Value.cells]; done) | (intro v hv; simp only [List.mem_cons, List.not_mem_nil, or_false] at hv; (repeat (first | (subst hv; rfl) | (rcases hv with hv | hv; (subst hv; rfl)))))) (by decide)) (by (repeat' constructor)) rfl ?nx96
    rintro v L' ⟨bo, rfl, rfl⟩
    refine G.q (Quiet.assign rfl) rfl (G.nil ?_)
    refine G.slMakeN 3 1 (b := bo) (xs := ([(2, (y.path, zx))] : List Ev).flatMap evC) (by (repeat' constructor)) rfl rfl ?_
    refine G.then_n (G.seq (G.seq (G.region (G.q (Quiet.move rfl) rfl (G.q (Quiet.move rfl) rfl ?_)))))
    refine G.op (OpSpec.call Tryz.func69 rfl rfl (vs := [_, _]) rfl (rplace_spec x (kidT (cutT τ y.path) (parentZ y.path) y.num zx) (parentZ y.path) (by omega))) (by (repeat' constructor)) rfl ?nx100
    rintro v L' ⟨rfl, rfl⟩
    refine G.q (Quiet.int rfl rfl rfl) rfl (G.nil (G.then_n ?_))
    refine G.condD rfl (fun h92 => ?_) (fun h92 => ?_)
    ·refine G.region (G.q (Quiet.move rfl) rfl (G.q (Quiet.move rfl) rfl (G.q (Quiet.move rfl) rfl ?_)))
     refine G.q (Quiet.build (us := [(0, _), (1, _), (2, _)]) fl_75 ze_75 rfl rfl (by simp [isCell])) rfl ?_
     refine G.op (OpSpec.buildSlice (vs := [_]) el_30 ze_75 rfl rfl rfl rfl (by first | (simp [Value.cells]; done) | (intro v hv; simp only [List.mem_cons, List.not_mem_nil, or_false] at hv; (repeat (first | (subst hv; rfl) | (rcases hv with hv | hv; (subst hv; rfl)))))) (by decide)) (by (repeat' constructor)) rfl ?nx106
     rintro v L' ⟨b19_4, rfl, rfl⟩
     refine G.op (OpSpec.append1 rfl rfl rfl el_30 ze_75 rfl rfl ?c108 ?c109 (Nat.le_refl _) ?c110 (by decide)) (by (repeat' constructor)) rfl ?nx111
     case c108 => (first | (simp [isCell]; done) | (simp [isCell, setAll, Value.cells]; done))
     case c109 => rfl
     case c110 => omega
     rintro v L' ⟨⟨a19_5, c19_5, rfl⟩, rfl⟩
     refine G.q (Quiet.assign rfl) rfl (G.nil (G.then_n (G.seq (G.region (G.q (Quiet.move rfl) rfl (G.q (Quiet.assign rfl) rfl (G.nil (G.then_n (G.ret ?_)))))))))
     have hc : eraseZ τ y zx = ((kidT (cutT τ y.path) (parentZ y.path) y.num zx), [(2, (y.path, zx)), (4, (parentZ y.path, zx))]) := by unfold eraseZ; rw [if_pos h18, if_pos hth, if_pos (show thereT (cutT τ y.path) (parentZ y.path) from kid_there.1 (place_iff.1 h92))]
     refine G.rfCast (x := x) (τ' := (eraseZ τ y zx).1) (by (repeat' constructor)) (by rw [hc]) ?_
     refine G.slCast (T := 75) (sz := 3) (m' := (eraseZ τ y zx).2.length) (xs' := (eraseZ τ y zx).2.flatMap evC) (by (repeat' constructor)) (by (rw [hc]; try rfl)) (by (rw [hc]; try rfl)) ?_
     exact G.done (l := [.tmp 6]) rfl rfl ⟨_, _, by (rw [hc]; try rfl), rfl⟩ (by (repeat' constructor)) (by (repeat' constructor))
    ·refine G.skip (G.then_n (G.seq (G.region (G.q (Quiet.move rfl) rfl (G.q (Quiet.assign rfl) rfl (G.nil (G.then_n (G.ret ?_))))))))
     have hc : eraseZ τ y zx = ((kidT (cutT τ y.path) (parentZ y.path) y.num zx), [(2, (y.path, zx))]) := by unfold eraseZ; rw [if_pos h18, if_pos hth, if_neg (show ¬ thereT (cutT τ y.path) (parentZ y.path) from fun g => h92 (place_iff.2 (kid_there.2 g)))]
     refine G.rfCast (x := x) (τ' := (eraseZ τ y zx).1) (by (repeat' constructor)) (by rw [hc]) ?_
     refine G.slCast (T := 75) (sz := 3) (m' := (eraseZ τ y zx).2.length) (xs' := (eraseZ τ y zx).2.flatMap evC) (by (repeat' constructor)) (by (rw [hc]; try rfl)) (by (rw [hc]; try rfl)) ?_
     exact G.done (l := [.tmp 6]) rfl rfl ⟨_, _, by (rw [hc]; try rfl), rfl⟩ (by (repeat' constructor)) (by (repeat' constructor))

end Go.Proofs.YtnnbelmpbmfdnaaGreatDoor

/- Own work, by program: the document's tree: parts, sessions, entries: walked. -/

namespace Go.Proofs.YtnnbelmpbmfdnaaGreatDoor
open Go
set_option maxRecDepth 100000 in
theorem rpart_spec (x : Nat) (τ : Tr) (y : Pt) (zx : Int) (p : HP) (hy : PtA p y) (N : Nat) (ho : τ.Ok N) (hN : N + 1 ≤ 1073741824) : Fn Tryz.prog 60 #[vptr x, .agg (ptC y).toArray, vint zx] [refR x τ, p] fun v L => ∃ a c, v = .slice a (partZ τ y zx).2.length c ∧ L = [refR x (partZ τ y zx).1, p, slR 75 3 v (partZ τ y zx).2.length ((partZ τ y zx).2.flatMap evC)] := by
 refine Fn.intro (vs := [vptr x, .agg (ptC y).toArray, vint zx]) Tryz.func60 rfl rfl ?_
 intro F W
 have hfew := hy.few
 have hpl := hy.plen
 have hof := ho.few
 have hnd := ho.sorted.nodup linB
 refine G.seq (G.region ?_)
 refine G.op (OpSpec.box rfl) (by (repeat' constructor)) rfl ?nx1
 rintro v L' ⟨bx, rfl, rfl⟩
 refine G.q (Quiet.assign rfl) rfl (G.nil ?_)
 refine G.ptCast (b := bx) (l' := ptC y) (by (repeat' constructor)) rfl ?_
 refine G.then_n (G.seq (G.region (G.q (Quiet.move rfl) rfl (G.q (Quiet.fieldAddr rfl fo_37_1) rfl ?_))))
 refine G.q (Quiet.load rfl ag_9 (by (repeat' constructor)) (rfl)) rfl ?_
 refine G.op (OpSpec.call Tryz.func69 rfl rfl (vs := [_, _]) rfl (rplace_spec x τ y.path (by omega))) (by (repeat' constructor)) rfl ?nx7
 rintro v L' ⟨rfl, rfl⟩
 refine G.q (Quiet.assign rfl) rfl (G.nil (G.then_n (G.seq (G.seq (G.region (G.q (Quiet.fieldAddr rfl fo_37_0) rfl ?_))))))
 refine G.q (Quiet.load rfl ag_3 (by (repeat' constructor)) (rfl)) rfl ?_
 refine G.nil (G.then_n (G.block (G.seq (G.region (G.q (Quiet.int rfl rfl rfl) rfl (G.q (Quiet.assign rfl) rfl (G.nil (G.then_n ?_))))))))
 refine G.condD rfl (fun h14 => ?_) (fun h14 => ?_)
 ·refine G.seq (G.region (G.q (Quiet.move rfl) rfl ?_))
  refine G.q (Quiet.loadAs (vs := ptC y) rfl ag_37 (by (repeat' constructor)) (by simp [ptC]) rfl) rfl ?_
  refine G.q (Quiet.move rfl) rfl ?_
  refine G.op (OpSpec.call Tryz.func103 rfl rfl (vs := [_, _, _]) rfl (rcreate_spec x τ y zx p hy N ho hN)) (by (repeat' constructor)) rfl ?nx15
  rintro v L' ⟨a4, c4, rfl, rfl⟩
  refine G.q (Quiet.assign rfl) rfl (G.nil (G.then_n (G.ret (G.blk_r (G.then_r ?_)))))
  have hc : partZ τ y zx = createZ τ y zx := by unfold partZ; rw [if_pos h14]
  refine G.rfCast (x := x) (τ' := (partZ τ y zx).1) (by (repeat' constructor)) (by rw [hc]) ?_
  refine G.slCast (T := 75) (sz := 3) (m' := (partZ τ y zx).2.length) (xs' := (partZ τ y zx).2.flatMap evC) (by (repeat' constructor)) (by (rw [hc]; try rfl)) (by (rw [hc]; try rfl)) ?_
  exact G.done (l := [.tmp 6]) rfl rfl ⟨_, _, by (rw [hc]; try rfl), rfl⟩ (by (repeat' constructor)) (by (repeat' constructor))
 ·refine G.seq (G.region (G.q (Quiet.int rfl rfl rfl) rfl (G.q (Quiet.assign rfl) rfl (G.nil (G.then_n ?_)))))
  refine G.condD rfl (fun h20 => ?_) (fun h20 => ?_)
  ·refine G.seq (G.region (G.q (Quiet.move rfl) rfl ?_))
   refine G.q (Quiet.loadAs (vs := ptC y) rfl ag_37 (by (repeat' constructor)) (by simp [ptC]) rfl) rfl ?_
   refine G.q (Quiet.move rfl) rfl ?_
   refine G.op (OpSpec.call Tryz.func104 rfl rfl (vs := [_, _, _]) rfl (rerase_spec x τ y zx p hy N ho hN)) (by (repeat' constructor)) rfl ?nx21
   rintro v L' ⟨a6, c6, rfl, rfl⟩
   refine G.q (Quiet.assign rfl) rfl (G.nil (G.then_n (G.ret (G.blk_r (G.then_r ?_)))))
   have hc : partZ τ y zx = eraseZ τ y zx := by unfold partZ; rw [if_neg h14, if_pos h20]
   refine G.rfCast (x := x) (τ' := (partZ τ y zx).1) (by (repeat' constructor)) (by rw [hc]) ?_
   refine G.slCast (T := 75) (sz := 3) (m' := (partZ τ y zx).2.length) (xs' := (partZ τ y zx).2.flatMap evC) (by (repeat' constructor)) (by (rw [hc]; try rfl)) (by (rw [hc]; try rfl)) ?_
   exact G.done (l := [.tmp 6]) rfl rfl ⟨_, _, by (rw [hc]; try rfl), rfl⟩ (by (repeat' constructor)) (by (repeat' constructor))
  ·refine G.seq (G.region (G.q (Quiet.int rfl rfl rfl) rfl (G.q (Quiet.assign rfl) rfl (G.nil (G.then_n ?_)))))
   refine G.condD rfl (fun h26 => ?_) (fun h26 => ?_)
   ·refine G.seq (G.region (G.q (Quiet.move rfl) rfl (G.q (Quiet.int rfl rfl rfl) rfl (G.nil (G.then_n ?_)))))
    refine G.condD rfl (fun h29 => ?_) (fun h29 => ?_)
    ·obtain ⟨k, hk, hpk, hkp⟩ := place_get (l := τ.nodes) h29
     have hpz : placeZ τ y.path = k := hpk
     rw [hpz]
     refine G.rfOpen (x := x) (τ := τ) (by (repeat' constructor)) fun an cn as1 cs l hl => ?_
     have hll := nds_len hl
     have hkl : k < l.length := by omega
     have hlk : l[k].1 = y.path := by have := nds_get hl hkl; rw [← hkp]; simp only [this]
     refine G.slShape (T := 131) (sz := 12) (v := .slice an l.length cn) (xs := l.flatMap rnC) (by (repeat' constructor)) (by omega) fun bn bn' e0 mbn _ => ?_
     simp only [Value.slice.injEq, true_and] at e0
     obtain ⟨rfl, rfl⟩ := e0
     refine G.seq ?_
     refine G.draw [9] [[0, 1, 2, 3, 4, 5, 6, 7, 8, 9]] mixed (by kernel_rfl) ?_
     refine Phases.go [] (by (repeat' constructor)) ?_
     refine D.qw [1, 2, 3, 7, 8, 9] rfl (by kernel_rfl) (Quiet.move rfl) ?_
     refine D.qw [2, 3, 7, 8, 9] rfl (by kernel_rfl) (Quiet.nilp rfl) ?_
     refine D.qw [3, 7, 8, 9] rfl (by kernel_rfl) (Quiet.fieldAddr rfl fo_101_0) ?_
     refine D.qw [7, 8, 9] rfl (by kernel_rfl) (Quiet.load rfl ag_98 (by (repeat' constructor)) (rfl)) ?_
     refine D.qw [7, 8, 9] rfl (by kernel_rfl) (Quiet.move rfl) ?_
     refine D.qw [6, 7, 8, 9] rfl (by kernel_rfl) (Quiet.fieldAddr rfl fo_37_2) ?_
     refine D.qw [7, 8, 9] rfl (by kernel_rfl) (Quiet.load rfl ag_9 (by (repeat' constructor)) (rfl)) ?_
     refine D.qw [8, 9] rfl (by kernel_rfl) (Quiet.indexAddr rfl rfl el_98 (by omega)) ?_
     refine D.qw [9] rfl (by kernel_rfl) (Quiet.fieldAddr rfl fo_131_1) ?_
     refine D.h rfl (by kernel_rfl) (OpSpec.storeRd (sz := 12) (j := k * 12 + 1) rfl rfl ?hv33 sz_9 ?ho34 ?hi35) (by (repeat' constructor)) ?nx36
     case hv33 => first | rfl | assumption
     case ho34 => omega
     case hi35 => omega
     rintro v L' rfl
     refine D.ph (Phases.fin ?_)
     refine G.slCast (T := 131) (sz := 12) (m' := l.length) (xs' := (l.set k (l[k].1, (l[k].2.1, { l[k].2.2 with data := y.data }))).flatMap rnC) (by (repeat' constructor)) rfl (flatMap_set (f := rnC) (sz := 12) (fun _ => rfl) (by simpa using hkl) (by decide) (by rfl)) ?_
     refine G.then_n (G.seq ?_)
     refine G.draw [10] [[0, 1, 2, 3, 4, 5, 6, 7, 8, 9, 10]] mixed (by kernel_rfl) ?_
     refine Phases.go [] (by (repeat' constructor)) ?_
     refine D.qw [1, 2, 3, 7, 8, 9, 10] rfl (by kernel_rfl) (Quiet.move rfl) ?_
     refine D.qw [2, 3, 7, 8, 9, 10] rfl (by kernel_rfl) (Quiet.nilp rfl) ?_
     refine D.qw [3, 7, 8, 9, 10] rfl (by kernel_rfl) (Quiet.fieldAddr rfl fo_101_0) ?_
     refine D.qw [7, 8, 9, 10] rfl (by kernel_rfl) (Quiet.load rfl ag_98 (by (repeat' constructor)) (rfl)) ?_
     refine D.qw [7, 8, 9, 10] rfl (by kernel_rfl) (Quiet.move rfl) ?_
     refine D.qw [6, 7, 8, 9, 10] rfl (by kernel_rfl) (Quiet.fieldAddr rfl fo_37_5) ?_
     refine D.qw [7, 8, 9, 10] rfl (by kernel_rfl) (Quiet.load rfl ag_3 (by (repeat' constructor)) (rfl)) ?_
     refine D.qw [8, 9, 10] rfl (by kernel_rfl) (Quiet.indexAddr rfl rfl el_98 (by omega)) ?_
     refine D.qw [9, 10] rfl (by kernel_rfl) (Quiet.fieldAddr rfl fo_131_3) ?_
     refine D.qw [10] rfl (by kernel_rfl) (Quiet.fieldAddr rfl fo_43_3) ?_
     refine D.h rfl (by kernel_rfl) (OpSpec.storeRd (sz := 12) (j := k * 12 + 6) rfl rfl ?hv46 sz_3 ?ho47 ?hi48) (by (repeat' constructor)) ?nx49
     case hv46 => first | rfl | assumption
     case ho47 => omega
     case hi48 => omega
     rintro v L' rfl
     refine D.ph (Phases.fin ?_)
     refine G.slCast (T := 131) (sz := 12) (m' := l.length) (xs' := ((l.set k (l[k].1, (l[k].2.1, { l[k].2.2 with data := y.data }))).set k (l[k].1, (l[k].2.1, { l[k].2.2 with data := y.data, st := { l[k].2.2.st with ver := y.num } }))).flatMap rnC) (by (repeat' constructor)) rfl (flatMap_set (f := rnC) (sz := 12) (fun _ => rfl) (by simpa using hkl) (by decide) (by rw [List.getElem_set_self]; rfl)) ?_
     rw [List.set_set]
     refine G.then_n (G.seq (G.region (G.q (Quiet.move rfl) rfl (G.q (Quiet.nilp rfl) rfl (G.q (Quiet.fieldAddr rfl fo_101_0) rfl ?_)))))
     refine G.q (Quiet.load rfl ag_98 (by (repeat' constructor)) (rfl)) rfl ?_
     refine G.q (Quiet.move rfl) rfl (G.q (Quiet.move rfl) rfl ?_)
     refine G.q (Quiet.indexAddr rfl rfl el_98 (by omega)) rfl ?_
     refine G.q (Quiet.fieldAddr rfl fo_131_3) rfl (G.q (Quiet.fieldAddr rfl fo_43_1) rfl ?_)
     refine G.op (OpSpec.storeRd (sz := 12) (j := k * 12 + 4) rfl rfl ?hv58 sz_3 ?ho59 ?hi60) (by (repeat' constructor)) rfl ?nx61
     case hv58 => first | rfl | assumption
     case ho59 => omega
     case hi60 => omega
     rintro v L' rfl
     refine G.nil ?_
     refine G.slCast (T := 131) (sz := 12) (m' := l.length) (xs' := ((l.set k (l[k].1, (l[k].2.1, { l[k].2.2 with data := y.data, st := { l[k].2.2.st with ver := y.num } }))).set k (l[k].1, (l[k].2.1, setN y.data y.num zx l[k].2.2))).flatMap rnC) (by (repeat' constructor)) rfl (flatMap_set (f := rnC) (sz := 12) (fun _ => rfl) (by simpa using hkl) (by decide) (by rw [List.getElem_set_self]; rfl)) ?_
     rw [List.set_set]
     refine G.bigSet (y := (l[k].1, (l[k].2.1, setN y.data y.num zx l[k].2.2))) hkl (by rfl) (by (repeat' constructor)) ?_
     refine G.rfFold (x := x) (τ := ({ τ with nodes := amod τ.nodes y.path (setN y.data y.num zx) } : Tr)) (l := (l.set k (l[k].1, (l[k].2.1, setN y.data y.num zx l[k].2.2)))) (nds_mod hl hnd hkl hlk (setN y.data y.num zx) rfl) (by (repeat' constructor)) rfl (by simp) rfl rfl rfl ?_
     refine G.then_n (G.seq (G.region (G.q (Quiet.fieldAddr rfl fo_37_1) rfl ?_)))
     refine G.q (Quiet.load rfl ag_9 (by (repeat' constructor)) (rfl)) rfl ?_
     refine G.q (Quiet.move rfl) rfl ?_
     refine G.q (Quiet.build (us := [(0, _), (1, _), (2, _)]) fl_75 ze_75 rfl rfl (by simp [isCell])) rfl ?_
     refine G.op (OpSpec.buildSlice (vs := [_]) el_30 ze_75 rfl rfl rfl rfl (by first | (simp [Value.cells]; done) | (intro v hv; simp only [List.mem_cons, List.not_mem_nil, or_false] at hv; (repeat (first | (subst hv; rfl) | (rcases hv with hv | hv; (subst hv; rfl)))))) (by decide)) (by (repeat' constructor)) rfl ?nx66
     rintro v L' ⟨bo, rfl, rfl⟩
     refine G.q (Quiet.assign rfl) rfl (G.nil ?_)
     refine G.slMakeN 3 1 (b := bo) (xs := ([(3, (y.path, zx))] : List Ev).flatMap evC) (by (repeat' constructor)) rfl rfl ?_
     refine G.then_n (G.ret (G.blk_r (G.then_r ?_)))
     have hc : partZ τ y zx = (({ τ with nodes := amod τ.nodes y.path (setN y.data y.num zx) } : Tr), [(3, (y.path, zx))]) := by unfold partZ; rw [if_neg h14, if_neg h20, if_pos ⟨h26, place_iff.1 h29⟩]
     refine G.rfCast (x := x) (τ' := (partZ τ y zx).1) (by (repeat' constructor)) (by rw [hc]) ?_
     refine G.slCast (T := 75) (sz := 3) (m' := (partZ τ y zx).2.length) (xs' := (partZ τ y zx).2.flatMap evC) (by (repeat' constructor)) (by (rw [hc]; try rfl)) (by (rw [hc]; try rfl)) ?_
     exact G.done (l := [.tmp 6]) rfl rfl ⟨_, _, by (rw [hc]; try rfl), rfl⟩ (by (repeat' constructor)) (by (repeat' constructor))
    ·refine G.skip (G.blk_n (G.then_n (G.seq (G.region (G.q (Quiet.assign rfl) rfl (G.nil (G.then_n (G.ret (G.add (slR_nil 75 3) ?_)))))))))
     have hc : partZ τ y zx = (τ, []) := by unfold partZ; rw [if_neg h14, if_neg h20, if_neg (fun g => h29 (place_iff.2 g.2)), if_neg (fun g => h29 (place_iff.2 g.2))]
     refine G.rfCast (x := x) (τ' := (partZ τ y zx).1) (by (repeat' constructor)) (by rw [hc]) ?_
     refine G.slCast (T := 75) (sz := 3) (m' := (partZ τ y zx).2.length) (xs' := (partZ τ y zx).2.flatMap evC) (by (repeat' constructor)) (by (rw [hc]; try rfl)) (by (rw [hc]; try rfl)) ?_
     exact G.done (l := [.tmp 6]) rfl rfl ⟨_, _, by (rw [hc]; try rfl), rfl⟩ (by (repeat' constructor)) (by (repeat' constructor))
   ·refine G.seq (G.region (G.q (Quiet.int rfl rfl rfl) rfl (G.q (Quiet.assign rfl) rfl (G.nil (G.then_n ?_)))))
    refine G.condD rfl (fun h63 => ?_) (fun h63 => ?_)
    ·refine G.seq (G.region (G.q (Quiet.move rfl) rfl (G.q (Quiet.int rfl rfl rfl) rfl (G.nil (G.then_n ?_)))))
     refine G.condD rfl (fun h66 => ?_) (fun h66 => ?_)
     ·obtain ⟨k, hk, hpk, hkp⟩ := place_get (l := τ.nodes) h66
      have hpz : placeZ τ y.path = k := hpk
      rw [hpz]
      refine G.rfOpen (x := x) (τ := τ) (by (repeat' constructor)) fun an cn as1 cs l hl => ?_
      have hll := nds_len hl
      have hkl : k < l.length := by omega
      have hlk : l[k].1 = y.path := by have := nds_get hl hkl; rw [← hkp]; simp only [this]
      refine G.slShape (T := 131) (sz := 12) (v := .slice an l.length cn) (xs := l.flatMap rnC) (by (repeat' constructor)) (by omega) fun bn bn' e0 mbn _ => ?_
      simp only [Value.slice.injEq, true_and] at e0
      obtain ⟨rfl, rfl⟩ := e0
      refine G.seq ?_
      refine G.draw [7, 10] [[0, 1, 2, 3, 4, 5, 6, 7], [8, 9, 10]] mixed (by kernel_rfl) ?_
      refine Phases.go [ptc bx _ _, ptc x _ _] (by (repeat' constructor)) ?_
      refine D.q rfl (by kernel_rfl) (Quiet.move rfl) ?_
      refine D.q rfl (by kernel_rfl) (Quiet.nilp rfl) ?_
      refine D.q rfl (by kernel_rfl) (Quiet.fieldAddr rfl fo_101_0) ?_
      refine D.q rfl (by kernel_rfl) (Quiet.load rfl ag_98 (by (repeat' constructor)) (rfl)) ?_
      refine D.q rfl (by kernel_rfl) (Quiet.move rfl) ?_
      refine D.qw [6, 7] rfl (by kernel_rfl) (Quiet.fieldAddr rfl fo_37_3) ?_
      refine D.qw [7] rfl (by kernel_rfl) (Quiet.load rfl ag_34 (by (repeat' constructor)) (rfl)) ?_
      refine D.h rfl (by kernel_rfl) (OpSpec.call Tryz.func105 rfl rfl (vs := [_]) rfl (rrows_spec y.aclV y.acl p hy.acl hfew)) (by (repeat' constructor)) ?nx77
      rintro v L' ⟨⟨a15, c15, rfl⟩, rfl⟩
      refine D.ph ?_
      refine Phases.go [] (by (repeat' constructor)) ?_
      refine D.qw [9, 10] rfl (by kernel_rfl) (Quiet.indexAddr rfl rfl el_98 (by omega)) ?_
      refine D.qw [10] rfl (by kernel_rfl) (Quiet.fieldAddr rfl fo_131_2) ?_
      refine D.h rfl (by kernel_rfl) (OpSpec.storeRd (sz := 12) (j := k * 12 + 2) rfl rfl ?hv81 sz_34 ?ho82 ?hi83) (by (repeat' constructor)) ?nx84
      case hv81 => first | rfl | assumption
      case ho82 => omega
      case hi83 => omega
      rintro v L' rfl
      refine D.ph (Phases.fin ?_)
      refine G.slCast (T := 131) (sz := 12) (m' := l.length) (xs' := (l.set k (l[k].1, (.slice a15 y.acl.length c15, { l[k].2.2 with acl := y.acl }))).flatMap rnC) (by (repeat' constructor)) rfl (flatMap_set (f := rnC) (sz := 12) (fun _ => rfl) (by simpa using hkl) (by decide) (by rfl)) ?_
      refine G.then_n ?_
      refine G.draw [10] [[0, 1, 2, 3, 4, 5, 6, 7, 8, 9, 10]] mixed (by kernel_rfl) ?_
      refine Phases.go [] (by (repeat' constructor)) ?_
      refine D.qw [1, 2, 3, 7, 8, 9, 10] rfl (by kernel_rfl) (Quiet.move rfl) ?_
      refine D.qw [2, 3, 7, 8, 9, 10] rfl (by kernel_rfl) (Quiet.nilp rfl) ?_
      refine D.qw [3, 7, 8, 9, 10] rfl (by kernel_rfl) (Quiet.fieldAddr rfl fo_101_0) ?_
      refine D.qw [7, 8, 9, 10] rfl (by kernel_rfl) (Quiet.load rfl ag_98 (by (repeat' constructor)) (rfl)) ?_
      refine D.qw [7, 8, 9, 10] rfl (by kernel_rfl) (Quiet.move rfl) ?_
      refine D.qw [6, 7, 8, 9, 10] rfl (by kernel_rfl) (Quiet.fieldAddr rfl fo_37_5) ?_
      refine D.qw [7, 8, 9, 10] rfl (by kernel_rfl) (Quiet.load rfl ag_3 (by (repeat' constructor)) (rfl)) ?_
      refine D.qw [8, 9, 10] rfl (by kernel_rfl) (Quiet.indexAddr rfl rfl el_98 (by omega)) ?_
      refine D.qw [9, 10] rfl (by kernel_rfl) (Quiet.fieldAddr rfl fo_131_3) ?_
      refine D.qw [10] rfl (by kernel_rfl) (Quiet.fieldAddr rfl fo_43_5) ?_
      refine D.h rfl (by kernel_rfl) (OpSpec.storeRd (sz := 12) (j := k * 12 + 8) rfl rfl ?hv94 sz_3 ?ho95 ?hi96) (by (repeat' constructor)) ?nx97
      case hv94 => first | rfl | assumption
      case ho95 => omega
      case hi96 => omega
      rintro v L' rfl
      refine D.ph (Phases.fin ?_)
      refine G.slCast (T := 131) (sz := 12) (m' := l.length) (xs' := ((l.set k (l[k].1, (.slice a15 y.acl.length c15, { l[k].2.2 with acl := y.acl }))).set k (l[k].1, (.slice a15 y.acl.length c15, aclN y.acl y.num l[k].2.2))).flatMap rnC) (by (repeat' constructor)) rfl (flatMap_set (f := rnC) (sz := 12) (fun _ => rfl) (by simpa using hkl) (by decide) (by rw [List.getElem_set_self]; rfl)) ?_
      rw [List.set_set]
      refine G.toRd (v := .slice a15 y.acl.length c15) (by (repeat' constructor)) ?_
      refine G.bigRep (l[k].1, (.slice a15 y.acl.length c15, aclN y.acl y.num l[k].2.2)) hkl (p := rdO 2 (.slice a15 y.acl.length c15) y.acl.length (y.acl.flatMap acC)) rfl (by (repeat' constructor)) ?_
      refine G.rfFold (x := x) (τ := ({ τ with nodes := amod τ.nodes y.path (aclN y.acl y.num) } : Tr)) (l := (l.set k (l[k].1, (.slice a15 y.acl.length c15, aclN y.acl y.num l[k].2.2)))) (nds_mod hl hnd hkl hlk (aclN y.acl y.num) rfl) (by (repeat' constructor)) rfl (by simp) rfl rfl rfl ?_
      refine G.blk_n (G.then_n (G.seq (G.region (G.q (Quiet.assign rfl) rfl (G.nil (G.then_n (G.ret (G.add (slR_nil 75 3) ?_))))))))
      have hc : partZ τ y zx = (({ τ with nodes := amod τ.nodes y.path (aclN y.acl y.num) } : Tr), []) := by unfold partZ; rw [if_neg h14, if_neg h20, if_neg (fun g => h26 g.1), if_pos ⟨h63, place_iff.1 h66⟩]
      refine G.rfCast (x := x) (τ' := (partZ τ y zx).1) (by (repeat' constructor)) (by rw [hc]) ?_
      refine G.slCast (T := 75) (sz := 3) (m' := (partZ τ y zx).2.length) (xs' := (partZ τ y zx).2.flatMap evC) (by (repeat' constructor)) (by (rw [hc]; try rfl)) (by (rw [hc]; try rfl)) ?_
      exact G.done (l := [.tmp 6]) rfl rfl ⟨_, _, by (rw [hc]; try rfl), rfl⟩ (by (repeat' constructor)) (by (repeat' constructor))
     ·refine G.skip (G.blk_n (G.then_n (G.seq (G.region (G.q (Quiet.assign rfl) rfl (G.nil (G.then_n (G.ret (G.add (slR_nil 75 3) ?_)))))))))
      have hc : partZ τ y zx = (τ, []) := by unfold partZ; rw [if_neg h14, if_neg h20, if_neg (fun g => h26 g.1), if_neg (fun g => h66 (place_iff.2 g.2))]
      refine G.rfCast (x := x) (τ' := (partZ τ y zx).1) (by (repeat' constructor)) (by rw [hc]) ?_
      refine G.slCast (T := 75) (sz := 3) (m' := (partZ τ y zx).2.length) (xs' := (partZ τ y zx).2.flatMap evC) (by (repeat' constructor)) (by (rw [hc]; try rfl)) (by (rw [hc]; try rfl)) ?_
      exact G.done (l := [.tmp 6]) rfl rfl ⟨_, _, by (rw [hc]; try rfl), rfl⟩ (by (repeat' constructor)) (by (repeat' constructor))
    ·refine G.skip (G.blk_n (G.then_n (G.seq (G.region (G.q (Quiet.assign rfl) rfl (G.nil (G.then_n (G.ret (G.add (slR_nil 75 3) ?_)))))))))
     have hc : partZ τ y zx = (τ, []) := by unfold partZ; rw [if_neg h14, if_neg h20, if_neg (fun g => h26 g.1), if_neg (fun g => h63 g.1)]
     refine G.rfCast (x := x) (τ' := (partZ τ y zx).1) (by (repeat' constructor)) (by rw [hc]) ?_
     refine G.slCast (T := 75) (sz := 3) (m' := (partZ τ y zx).2.length) (xs' := (partZ τ y zx).2.flatMap evC) (by (repeat' constructor)) (by (rw [hc]; try rfl)) (by (rw [hc]; try rfl)) ?_
     exact G.done (l := [.tmp 6]) rfl rfl ⟨_, _, by (rw [hc]; try rfl), rfl⟩ (by (repeat' constructor)) (by (repeat' constructor))

theorem rs_cells (z : Int × (Int × Bs)) : ∀ y ∈ (Value.agg (rsC z).toArray).cells.toList, isCell y = true := by
  intro v hv
  simp only [Value.cells, rsC, List.mem_cons, List.not_mem_nil, or_false] at hv
  rcases hv with rfl | rfl | rfl <;> rfl
theorem rsl_cells (l : SsM) : ∀ y ∈ l.flatMap rsC, isCell y = true := by
  intro y hy
  obtain ⟨a, -, h⟩ := List.mem_flatMap.1 hy
  simp only [rsC, List.mem_cons, List.not_mem_nil, or_false] at h
  rcases h with rfl | rfl | rfl <;> rfl
set_option maxRecDepth 100000 in
theorem rdrop_spec (x : Nat) (τ : Tr) (id : Int) (hN : τ.sess.length ≤ 1073741824) : Fn Tryz.prog 61 #[vptr x, vint id] [refR x τ] fun v L => v = .tuple #[] ∧ L = [refR x (dropS τ id)] := by
 refine Fn.intro (vs := [vptr x, vint id]) Tryz.func61 rfl rfl ?_
 intro F W
 refine G.rfOpen (x := x) (τ := τ) (by (repeat' constructor)) fun an cn as1 cs l hl => ?_
 refine G.add (slR_nil 134 3) ?_
 refine G.seq (G.region (G.q (Quiet.assign rfl) rfl (G.nil (G.then_n (G.seq (G.seq (G.region (G.q (Quiet.assign rfl) rfl (G.nil (G.then_n (G.block ?_)))))))))))
 refine G.loopK (ι := Nat × Value) (fun q E => (5, vint q.1) :: (4, q.2) :: E) (fun q => [rsR q.2 ((τ.sess.take q.1).filter fun w => !decide (w.1 = id))]) (fun q => q.1 ≤ τ.sess.length ∧ ∃ a c, q.2 = .slice a ((τ.sess.take q.1).filter fun w => !decide (w.1 = id)).length c) (fun q => τ.sess.length - q.1) (0, .slice none 0 0) (ts := [0, 1]) (.cons rfl (.cons rfl (.nil))) (⟨Nat.zero_le _, none, 0, rfl⟩) ⟨rfl, rfl, rfl, rfl, trivial⟩ (by (repeat' constructor)) ?_
 rintro ⟨i, u⟩ ⟨hi, au, cu, hu⟩
 dsimp only
 dsimp only at hi hu
 subst hu
 have hfl := List.length_filter_le (fun w : Int × (Int × Bs) => !decide (w.1 = id)) (τ.sess.take i)
 rw [List.length_take] at hfl
 refine G.seq (G.seq (G.region (G.q (Quiet.move rfl) rfl (G.q (Quiet.move rfl) rfl (G.q (Quiet.nilp rfl) rfl (G.q (Quiet.fieldAddr rfl fo_101_1) rfl ?_))))))
 refine G.q (Quiet.load rfl ag_99 (by (repeat' constructor)) (rfl)) rfl ?_
 refine G.q (Quiet.slen rfl Tryz.underlying99 rfl) rfl (G.q (Quiet.int rfl rfl rfl) rfl (G.nil (G.then_n ?_)))
 refine G.condD rfl (fun h12 => ?_) (fun h12 => ?_)
 ·have hi2 : i < τ.sess.length := by omega
  refine G.slShape (T := 134) (sz := 3) (v := .slice as1 τ.sess.length cs) (xs := τ.sess.flatMap rsC) (by (repeat' constructor)) (by omega) fun bs bs' e0 mbs _ => ?_
  simp only [Value.slice.injEq, true_and] at e0
  obtain ⟨rfl, rfl⟩ := e0
  refine G.skip (G.then_n (G.seq (G.block (G.seq (G.region (G.q (Quiet.move rfl) rfl (G.q (Quiet.nilp rfl) rfl (G.q (Quiet.fieldAddr rfl fo_101_1) rfl ?_))))))))
  refine G.q (Quiet.load rfl ag_99 (by (repeat' constructor)) (rfl)) rfl ?_
  refine G.q (Quiet.move rfl) rfl ?_
  refine G.q (Quiet.indexAddr rfl rfl el_99 (by omega)) rfl ?_
  refine G.q (Quiet.fieldAddr rfl fo_134_0) rfl ?_
  refine G.q (Quiet.loadRd (sz := 3) (j := i * 3 + 0) (p := rsR _ τ.sess) rfl ag_3 (by (repeat' constructor)) (fun h hp => slR_rd hp) (by omega) ((rs_cell (l := τ.sess) (i := i) (k := 0) (by omega) (by decide)).trans rfl)) rfl ?_
  refine G.q (Quiet.move rfl) rfl (G.q (Quiet.int rfl rfl rfl) rfl (G.nil (G.then_n ?_)))
  refine G.condN rfl (fun h24 => ?_) (fun h24 => ?_)
  ·refine G.region (G.q (Quiet.move rfl) rfl (G.q (Quiet.move rfl) rfl (G.q (Quiet.nilp rfl) rfl (G.q (Quiet.fieldAddr rfl fo_101_1) rfl ?_))))
   refine G.q (Quiet.load rfl ag_99 (by (repeat' constructor)) (rfl)) rfl ?_
   refine G.q (Quiet.move rfl) rfl ?_
   refine G.q (Quiet.indexAddr rfl rfl el_99 (by omega)) rfl ?_
   refine G.q (Quiet.loadRdA (sz := 3) (j := i * 3) (k := 3) (p := rsR _ τ.sess) (vs := rsC τ.sess[i]) rfl ag_134 (by (repeat' constructor)) (fun h hp => slR_rd hp) (by omega) (by omega) (by omega) (flatMap_at (f := rsC) (sz := 3) (fun _ _ => rfl) (by omega))) rfl ?_
   refine G.op (OpSpec.buildSlice (vs := [_]) el_99 ze_134 rfl rfl rfl rfl (by first | (simp [Value.cells]; done) | (intro v hv; simp only [List.mem_cons, List.not_mem_nil, or_false] at hv; (repeat (first | (subst hv; rfl) | (rcases hv with hv | hv; (subst hv; rfl)))))) (by decide)) (by (repeat' constructor)) rfl ?nx28
   rintro v L' ⟨b5_8, rfl, rfl⟩
   refine G.op (OpSpec.append1 rfl rfl rfl el_99 ze_134 rfl rfl ?c30 ?c31 (Nat.le_refl _) ?c32 (by decide)) (by (repeat' constructor)) rfl ?nx33
   case c30 => first | exact rs_cells _ | (simp only [List.map_cons, List.map_nil, List.flatten_cons, List.flatten_nil, List.append_nil]; exact rs_cells _)
   case c31 => rfl
   case c32 => first | omega | (simp; omega)
   rintro v L' ⟨⟨a5_9, c5_9, rfl⟩, rfl⟩
   refine G.q (Quiet.assign rfl) rfl (G.nil (G.blk_n (G.then_n (G.region (G.q (Quiet.move rfl) rfl ?_)))))
   refine G.q (Quiet.add rfl rfl (by omega)) rfl ?_
   refine G.q (Quiet.assign rfl) rfl (G.nil (G.then_n ?_))
   have hst : ((τ.sess.take (i + 1)).filter fun w => !decide (w.1 = id)) = ((τ.sess.take i).filter fun w => !decide (w.1 = id)) ++ [τ.sess[i]] := by rw [List.take_succ_eq_append_getElem hi2, List.filter_append]; simp [show ¬ τ.sess[i].1 = id from h24]
   rw [show ((τ.sess.take i).filter fun w => !decide (w.1 = id)).length + 1 = ((τ.sess.take (i + 1)).filter fun w => !decide (w.1 = id)).length by rw [hst, List.length_append]; rfl]
   refine G.slCast (T := 134) (sz := 3) (m' := ((τ.sess.take (i + 1)).filter fun w => !decide (w.1 = id)).length) (xs' := ((τ.sess.take (i + 1)).filter fun w => !decide (w.1 = id)).flatMap rsC) (by (repeat' constructor)) rfl (by rw [hst, List.flatMap_append]; simp; rfl) ?_
   exact G.roundK ((i + 1, .slice a5_9 ((τ.sess.take (i + 1)).filter fun w => !decide (w.1 = id)).length c5_9)) (⟨by dsimp only; omega, _, _, rfl⟩) (by dsimp only; omega) ⟨rfl, rfl, rfl, rfl, trivial⟩ (by (repeat' constructor)) (by ((repeat (apply Have.cons; (repeat (first | exact Pick.here | apply Pick.there)))); apply Have.base; repeat' constructor))
  ·refine G.skip (G.blk_n (G.then_n (G.region (G.q (Quiet.move rfl) rfl ?_))))
   refine G.q (Quiet.add rfl rfl (by omega)) rfl ?_
   refine G.q (Quiet.assign rfl) rfl (G.nil (G.then_n ?_))
   have hst : ((τ.sess.take (i + 1)).filter fun w => !decide (w.1 = id)) = ((τ.sess.take i).filter fun w => !decide (w.1 = id)) := by rw [List.take_succ_eq_append_getElem hi2, List.filter_append]; simp [show τ.sess[i].1 = id from h24]
   rw [← hst]
   exact G.roundK ((i + 1, .slice au ((τ.sess.take (i + 1)).filter fun w => !decide (w.1 = id)).length cu)) (⟨by dsimp only; omega, _, _, rfl⟩) (by dsimp only; omega) ⟨rfl, rfl, rfl, rfl, trivial⟩ (by (repeat' constructor)) (by ((repeat (apply Have.cons; (repeat (first | exact Pick.here | apply Pick.there)))); apply Have.base; repeat' constructor))
 ·have hii : i = τ.sess.length := by omega
  subst hii
  rw [List.take_length]
  refine G.exit (G.then_e (G.then_e (G.blk_e (G.then_n (G.region (G.q (Quiet.move rfl) rfl (G.q (Quiet.move rfl) rfl (G.q (Quiet.nilp rfl) rfl (G.q (Quiet.fieldAddr rfl fo_101_1) rfl ?_)))))))))
  refine G.op (OpSpec.store rfl rfl rfl sz_99 ?c43 ?c44) (by (repeat' constructor)) rfl ?nx45
  case c43 => first | decide | (simp; omega) | simp
  case c44 => exact nfz0 _ _
  rintro v L' rfl
  refine G.nil (G.done_n ?_)
  refine G.rfFold (x := x) (τ := (dropS τ id)) (l := l) hl (by (repeat' constructor)) rfl rfl rfl rfl rfl ?_
  exact G.done (l := []) rfl rfl ⟨rfl, rfl⟩ (by (repeat' constructor)) (by (repeat' constructor))

set_option maxRecDepth 100000 in
theorem ropen_spec (x : Nat) (τ : Tr) (id n : Int) (s : Bs) (N : Nat) (ho : τ.Ok N) (hN : τ.sess.length ≤ 1073741824) : Fn Tryz.prog 59 #[vptr x, .agg (rsC (id, (n, s))).toArray] [refR x τ] fun v L => v = .tuple #[] ∧ L = [refR x (openS τ id n s)] := by
 refine Fn.intro (vs := [vptr x, .agg (rsC (id, (n, s))).toArray]) Tryz.func59 rfl rfl ?_
 intro F W
 have hsl : (dropS τ id).sess.length ≤ τ.sess.length := List.length_filter_le _ _
 refine G.seq (G.region ?_)
 refine G.op (OpSpec.box rfl) (by (repeat' constructor)) rfl ?nx1
 rintro v L' ⟨bz, rfl, rfl⟩
 refine G.nil ?_
 refine G.ptCast (b := bz) (l' := rsC (id, (n, s))) (by (repeat' constructor)) rfl ?_
 refine G.then_n (G.seq (G.region (G.q (Quiet.move rfl) rfl (G.q (Quiet.fieldAddr rfl fo_134_0) rfl ?_))))
 refine G.q (Quiet.load rfl ag_3 (by (repeat' constructor)) (rfl)) rfl ?_
 refine G.op (OpSpec.call Tryz.func61 rfl rfl (vs := [_, _]) rfl (rdrop_spec x τ id hN)) (by (repeat' constructor)) rfl ?nx6
 rintro v L' ⟨rfl, rfl⟩
 refine G.nil (G.then_n (G.seq ?_))
 refine G.rfOpen (x := x) (τ := (dropS τ id)) (by (repeat' constructor)) fun an cn as1 cs l hl => ?_
 refine G.region ?_
 refine G.slForm (T := 134) (sz := 3) (a := as1) (m := (dropS τ id).sess.length) (c := cs) (by (repeat' constructor)) (fun e0 e1 e2 => ?_) (fun bs e0 e1 => ?_)
 ·subst e0
  refine G.q (Quiet.assign rfl) rfl (G.nil (G.then_n (G.seq ?_)))
  refine G.joinK (ι := Nat) (fun q E => (4, vint q) :: E) (fun q => []) (fun q => q ≤ (dropS τ id).sess.length ∧ (∀ w ∈ ((dropS τ id).sess.take q), w.1 < id) ∧ ∀ h : q < (dropS τ id).sess.length, ¬ (dropS τ id).sess[q].1 < id) (pre := []) (ts := [0, 3]) (.cons rfl (.cons rfl (.nil))) (by (repeat' constructor)) ?_ ?_
  ·refine G.block ?_
   refine G.loopK (ι := Nat) (fun q E => (4, vint q) :: E) (fun q => []) (fun q => q ≤ (dropS τ id).sess.length ∧ ∀ w ∈ ((dropS τ id).sess.take q), w.1 < id) (fun q => (dropS τ id).sess.length - q) (0) (ts := [0, 3]) (.cons rfl (.cons rfl (.nil))) (⟨Nat.zero_le _, by simp⟩) ⟨rfl, rfl, rfl, trivial⟩ (by (repeat' constructor)) ?_
   rintro i ⟨hi, hlow⟩
   refine G.seq (G.seq ?_)
   refine G.draw [] [[0, 1, 2, 3, 4, 5, 6, 7, 8, 9, 10, 11, 12, 13, 14, 15, 16, 17, 18, 19]] mixed (by kernel_rfl) ?_
   refine Phases.go [] (by (repeat' constructor)) ?_
   refine D.qw [6, 7, 8, 9, 10, 11, 12, 13, 14, 15, 16, 17, 18, 19] rfl (by kernel_rfl) (Quiet.move rfl) ?_
   refine D.qw [2, 3, 4, 5, 6, 7, 8, 9, 10, 11, 12, 13, 14, 15, 16, 17, 18, 19] rfl (by kernel_rfl) (Quiet.move rfl) ?_
   refine D.qw [3, 4, 5, 6, 7, 8, 9, 10, 11, 12, 13, 14, 15, 16, 17, 18, 19] rfl (by kernel_rfl) (Quiet.nilp rfl) ?_
   refine D.qw [4, 5, 6, 7, 8, 9, 10, 11, 12, 13, 14, 15, 16, 17, 18, 19] rfl (by kernel_rfl) (Quiet.fieldAddr rfl fo_101_1) ?_
   refine D.qw [5, 6, 7, 8, 9, 10, 11, 12, 13, 14, 15, 16, 17, 18, 19] rfl (by kernel_rfl) (Quiet.load rfl ag_99 (by (repeat' constructor)) (rfl)) ?_
   refine D.qw [6, 7, 8, 9, 10, 11, 12, 13, 14, 15, 16, 17, 18, 19] rfl (by kernel_rfl) (Quiet.slen rfl Tryz.underlying99 rfl) ?_
   refine D.qw [7, 8, 9, 10, 11, 12, 13, 14, 15, 16, 17, 18, 19] rfl (by kernel_rfl) (Quiet.int rfl rfl rfl) ?_
   refine D.qw [8, 9, 10, 11, 12, 13, 14, 15, 16, 17, 18, 19] rfl (by kernel_rfl) (Quiet.move rfl) ?_
   refine D.dec (t := 17) rfl (fun h3_17 => ?_) (fun h3_17 => ?_)
   ·exfalso; omega
   ·refine D.kDF (t := 16) rfl h3_17 ?_
    refine D.gs (t := 17) rfl rfl rfl rfl (by kernel_rfl) ?_
    refine D.gs (t := 17) rfl rfl rfl rfl (by kernel_rfl) ?_
    refine D.gs (t := 17) rfl rfl rfl rfl (by kernel_rfl) ?_
    refine D.gs (t := 17) rfl rfl rfl rfl (by kernel_rfl) ?_
    refine D.gs (t := 17) rfl rfl rfl rfl (by kernel_rfl) ?_
    refine D.gs (t := 17) rfl rfl rfl rfl (by kernel_rfl) ?_
    refine D.gs (t := 17) rfl rfl rfl rfl (by kernel_rfl) ?_
    refine D.gs (t := 17) rfl rfl rfl rfl (by kernel_rfl) ?_
    refine D.gs (t := 17) rfl rfl rfl rfl (by kernel_rfl) ?_
    refine D.gs (t := 17) rfl rfl rfl rfl (by kernel_rfl) ?_
    refine D.gs (t := 17) rfl rfl rfl rfl (by kernel_rfl) ?_
    refine D.qw [] rfl (by kernel_rfl) (Quiet.pickF rfl rfl) ?_
    refine D.ph (Phases.fin (G.then_n (G.condF rfl (G.exit (G.then_e (G.then_e (G.blk_e (G.then_n ?_))))))))
    exact G.meetK (i) (⟨hi, hlow, fun h => absurd h (by omega)⟩) ⟨rfl, rfl, rfl, trivial⟩ (by (repeat' constructor)) (by ((repeat (apply Have.cons; (repeat (first | exact Pick.here | apply Pick.there)))); apply Have.base; repeat' constructor))
  ·rintro i ⟨hi, hlow, hhigh⟩
   refine G.seq (G.add (slR_nil 134 3) (G.region (G.q (Quiet.assign rfl) rfl (G.nil (G.then_n (G.seq ?_))))))
   have hadr : (none : Option Addr) = none ∨ ∃ b off, (none : Option Addr) = some (⟨b, off, none⟩ : Addr) := .inl rfl
   refine G.region (G.q (Quiet.move rfl) rfl (G.q (Quiet.move rfl) rfl (G.q (Quiet.nilp rfl) rfl (G.q (Quiet.fieldAddr rfl fo_101_1) rfl ?_))))
   refine G.q (Quiet.load rfl ag_99 (by (repeat' constructor)) (rfl)) rfl ?_
   refine G.q (Quiet.move rfl) rfl ?_
   refine G.q (Quiet.to (v' := .slice (none : Option Addr) i cs) (Quiet.slTo (j := (i : Int)) rfl el_99 rfl (by omega) hadr) (by rw [Int.toNat_natCast])) rfl ?_
   refine G.op (OpSpec.append (n := 0) (m := i) (ys := ((dropS τ id).sess.take i).flatMap rsC) (p := slR 134 3 (.slice (none : Option Addr) (dropS τ id).sess.length cs) (dropS τ id).sess.length ((dropS τ id).sess.flatMap rsC)) rfl rfl rfl el_99 (.inl ⟨_, Tryz.underlying99⟩) ze_134 rfl rfl ?hc24 ?hr25 ?hb26 (by decide)) (by (repeat' constructor)) rfl ?nx27
   case hc24 => exact rsl_cells _
   case hr25 => exact fun h hp => by have := slR_rd_to hi hp; rw [(flat_take (f := rsC) (sz := 3) (fun _ => rfl) _ i).1] at this; exact this
   case hb26 => omega
   rintro v L' ⟨⟨a6, c6, rfl⟩, rfl⟩; rw [Nat.zero_add, List.nil_append]
   refine G.q (Quiet.assign rfl) rfl (G.nil (G.then_n (G.seq (G.region (G.q (Quiet.move rfl) rfl ?_)))))
   refine G.q (Quiet.loadAs (vs := rsC (id, (n, s))) rfl ag_134 (by (repeat' constructor)) (by simp [rsC]) rfl) rfl ?_
   refine G.op (OpSpec.buildSlice (vs := [_]) el_99 ze_134 rfl rfl rfl rfl (by first | (simp [Value.cells]; done) | (intro v hv; simp only [List.mem_cons, List.not_mem_nil, or_false] at hv; (repeat (first | (subst hv; rfl) | (rcases hv with hv | hv; (subst hv; rfl)))))) (by decide)) (by (repeat' constructor)) rfl ?nx30
   rintro v L' ⟨b7_2, rfl, rfl⟩
   refine G.op (OpSpec.append1 rfl rfl rfl el_99 ze_134 rfl rfl ?c32 ?c33 (Nat.le_refl _) ?c34 (by decide)) (by (repeat' constructor)) rfl ?nx35
   case c32 => first | exact rs_cells _ | (simp only [List.map_cons, List.map_nil, List.flatten_cons, List.flatten_nil, List.append_nil]; exact rs_cells _)
   case c33 => rfl
   case c34 => first | omega | (simp; omega)
   rintro v L' ⟨⟨a7_3, c7_3, rfl⟩, rfl⟩
   refine G.q (Quiet.assign rfl) rfl (G.nil ?_)
   refine G.slCast (T := 134) (sz := 3) (m' := i + 1) (xs' := (((dropS τ id).sess.take i) ++ [(id, (n, s))]).flatMap rsC) (by (repeat' constructor)) rfl (by rw [List.flatMap_append]; simp; rfl) ?_
   refine G.then_n (G.region (G.q (Quiet.move rfl) rfl (G.q (Quiet.move rfl) rfl (G.q (Quiet.move rfl) rfl (G.q (Quiet.nilp rfl) rfl (G.q (Quiet.fieldAddr rfl fo_101_1) rfl ?_))))))
   refine G.q (Quiet.load rfl ag_99 (by (repeat' constructor)) (rfl)) rfl ?_
   refine G.q (Quiet.move rfl) rfl ?_
   refine G.q (Quiet.slFromO (i := (i : Int)) rfl el_99 rfl (by omega)) rfl ?_
   refine G.op (OpSpec.append (n := i + 1) (m := (dropS τ id).sess.length - (i : Int).toNat) (ys := ((dropS τ id).sess.drop i).flatMap rsC) (p := slR 134 3 (.slice (none : Option Addr) (dropS τ id).sess.length cs) (dropS τ id).sess.length ((dropS τ id).sess.flatMap rsC)) rfl rfl rfl el_99 (.inl ⟨_, Tryz.underlying99⟩) ze_134 rfl rfl ?hc44 ?hr45 ?hb46 (by decide)) (by (repeat' constructor)) rfl ?nx47
   case hc44 => exact rsl_cells _
   case hr45 => exact fun h hp => by rw [Int.toNat_natCast]; have := slR_rd_from hi hp; rw [(flat_take (f := rsC) (sz := 3) (fun _ => rfl) _ i).2] at this; exact this
   case hb46 => omega
   rintro v L' ⟨⟨a8, c8, rfl⟩, rfl⟩
   refine G.q (Quiet.nilp rfl) rfl (G.q (Quiet.fieldAddr rfl fo_101_1) rfl ?_)
   refine G.op (OpSpec.store rfl rfl rfl sz_99 ?c51 ?c52) (by (repeat' constructor)) rfl ?nx53
   case c51 => first | decide | (simp; omega) | simp
   case c52 => exact nfz0 _ _
   rintro v L' rfl
   refine G.nil (G.done_n ?_)
   have hfin : ((dropS τ id).sess.take i) ++ [(id, (n, s))] ++ ((dropS τ id).sess.drop i) = (openS τ id n s).sess := by rw [sset_at hi hlow hhigh (fun w hw => by have := (List.mem_filter.1 hw).2; simpa using this), ← open_drop ho id n s]; rfl
   have hlen : i + 1 + ((dropS τ id).sess.length - (i : Int).toNat) = (openS τ id n s).sess.length := by rw [← hfin]; simp; omega
   refine G.rfFold (x := x) (τ := (openS τ id n s)) (l := l) hl (by (repeat' constructor)) rfl rfl rfl hlen (by rw [← List.flatMap_append, hfin]) ?_
   exact G.done (l := []) rfl rfl ⟨rfl, rfl⟩ (by (repeat' constructor)) (by (repeat' constructor))
 ·subst e0
  refine G.q (Quiet.assign rfl) rfl (G.nil (G.then_n (G.seq ?_)))
  refine G.joinK (ι := Nat) (fun q E => (4, vint q) :: E) (fun q => []) (fun q => q ≤ (dropS τ id).sess.length ∧ (∀ w ∈ ((dropS τ id).sess.take q), w.1 < id) ∧ ∀ h : q < (dropS τ id).sess.length, ¬ (dropS τ id).sess[q].1 < id) (pre := []) (ts := [0, 3]) (.cons rfl (.cons rfl (.nil))) (by (repeat' constructor)) ?_ ?_
  ·refine G.block ?_
   refine G.loopK (ι := Nat) (fun q E => (4, vint q) :: E) (fun q => []) (fun q => q ≤ (dropS τ id).sess.length ∧ ∀ w ∈ ((dropS τ id).sess.take q), w.1 < id) (fun q => (dropS τ id).sess.length - q) (0) (ts := [0, 3]) (.cons rfl (.cons rfl (.nil))) (⟨Nat.zero_le _, by simp⟩) ⟨rfl, rfl, rfl, trivial⟩ (by (repeat' constructor)) ?_
   rintro i ⟨hi, hlow⟩
   refine G.seq (G.seq ?_)
   refine G.draw [] [[0, 1, 2, 3, 4, 5, 6, 7, 8, 9, 10, 11, 12, 13, 14, 15, 16, 17, 18, 19]] mixed (by kernel_rfl) ?_
   refine Phases.go [] (by (repeat' constructor)) ?_
   refine D.qw [6, 7, 8, 9, 10, 11, 12, 13, 14, 15, 16, 17, 18, 19] rfl (by kernel_rfl) (Quiet.move rfl) ?_
   refine D.qw [2, 3, 4, 5, 6, 7, 8, 9, 10, 11, 12, 13, 14, 15, 16, 17, 18, 19] rfl (by kernel_rfl) (Quiet.move rfl) ?_
   refine D.qw [3, 4, 5, 6, 7, 8, 9, 10, 11, 12, 13, 14, 15, 16, 17, 18, 19] rfl (by kernel_rfl) (Quiet.nilp rfl) ?_
   refine D.qw [4, 5, 6, 7, 8, 9, 10, 11, 12, 13, 14, 15, 16, 17, 18, 19] rfl (by kernel_rfl) (Quiet.fieldAddr rfl fo_101_1) ?_
   refine D.qw [5, 6, 7, 8, 9, 10, 11, 12, 13, 14, 15, 16, 17, 18, 19] rfl (by kernel_rfl) (Quiet.load rfl ag_99 (by (repeat' constructor)) (rfl)) ?_
   refine D.qw [6, 7, 8, 9, 10, 11, 12, 13, 14, 15, 16, 17, 18, 19] rfl (by kernel_rfl) (Quiet.slen rfl Tryz.underlying99 rfl) ?_
   refine D.qw [7, 8, 9, 10, 11, 12, 13, 14, 15, 16, 17, 18, 19] rfl (by kernel_rfl) (Quiet.int rfl rfl rfl) ?_
   refine D.qw [8, 9, 10, 11, 12, 13, 14, 15, 16, 17, 18, 19] rfl (by kernel_rfl) (Quiet.move rfl) ?_
   refine D.dec (t := 17) rfl (fun h3_17 => ?_) (fun h3_17 => ?_)
   ·have hi2 : i < (dropS τ id).sess.length := by omega
    refine D.kDT (t := 16) rfl h3_17 ?_
    refine D.gqw [9, 10, 11, 13, 14, 15, 18, 19] (t := 17) rfl rfl rfl (by kernel_rfl) (Quiet.move rfl) ?_
    refine D.gqw [10, 11, 13, 14, 15, 18, 19] (t := 17) rfl rfl rfl (by kernel_rfl) (Quiet.nilp rfl) ?_
    refine D.gqw [11, 13, 14, 15, 18, 19] (t := 17) rfl rfl rfl (by kernel_rfl) (Quiet.fieldAddr rfl fo_101_1) ?_
    refine D.gqw [13, 14, 15, 18, 19] (t := 17) rfl rfl rfl (by kernel_rfl) (Quiet.load rfl ag_99 (by (repeat' constructor)) (rfl)) ?_
    refine D.gqw [13, 14, 15, 18, 19] (t := 17) rfl rfl rfl (by kernel_rfl) (Quiet.move rfl) ?_
    refine D.gqw [14, 15, 18, 19] (t := 17) rfl rfl rfl (by kernel_rfl) (Quiet.indexAddr rfl rfl el_99 (by omega)) ?_
    refine D.gqw [15, 18, 19] (t := 17) rfl rfl rfl (by kernel_rfl) (Quiet.fieldAddr rfl fo_134_0) ?_
    refine D.gqw [18, 19] (t := 17) rfl rfl rfl (by kernel_rfl) (Quiet.loadRd (sz := 3) (j := i * 3 + 0) (p := rsR _ (dropS τ id).sess) rfl ag_3 (by (repeat' constructor)) (fun h hp => slR_rd hp) (by omega) ((rs_cell (l := (dropS τ id).sess) (i := i) (k := 0) (by omega) (by decide)).trans rfl)) ?_
    refine D.gqw [17, 18, 19] (t := 17) rfl rfl rfl (by kernel_rfl) (Quiet.fieldAddr rfl fo_134_0) ?_
    refine D.gqw [18, 19] (t := 17) rfl rfl rfl (by kernel_rfl) (Quiet.load rfl ag_3 (by (repeat' constructor)) rfl) ?_
    refine D.gqw [19] (t := 17) rfl rfl rfl (by kernel_rfl) (Quiet.int rfl rfl rfl) ?_
    refine D.qw [] rfl (by kernel_rfl) (Quiet.pickT rfl rfl) ?_
    refine D.ph (Phases.fin (G.then_n ?_))
    refine G.condD rfl (fun h29 => ?_) (fun h29 => ?_)
    ·refine G.skip (G.then_n (G.block (G.region (G.q (Quiet.move rfl) rfl ?_))))
     refine G.q (Quiet.add rfl rfl (by omega)) rfl ?_
     refine G.q (Quiet.assign rfl) rfl (G.nil (G.blk_n (G.then_n ?_)))
     exact G.roundK (i + 1) (⟨by omega, fun w hw => by rw [List.take_succ_eq_append_getElem hi2] at hw; rcases List.mem_append.1 hw with hw | hw; (exact hlow w hw); (rw [List.mem_singleton] at hw; rw [hw]; exact h29)⟩) (by omega) ⟨rfl, rfl, rfl, trivial⟩ (by (repeat' constructor)) (by ((repeat (apply Have.cons; (repeat (first | exact Pick.here | apply Pick.there)))); apply Have.base; repeat' constructor))
    ·refine G.exit (G.then_e (G.then_e (G.blk_e (G.then_n ?_))))
     exact G.meetK (i) (⟨hi, hlow, fun h => h29⟩) ⟨rfl, rfl, rfl, trivial⟩ (by (repeat' constructor)) (by ((repeat (apply Have.cons; (repeat (first | exact Pick.here | apply Pick.there)))); apply Have.base; repeat' constructor))
   ·refine D.kDF (t := 16) rfl h3_17 ?_
    refine D.gs (t := 17) rfl rfl rfl rfl (by kernel_rfl) ?_
    refine D.gs (t := 17) rfl rfl rfl rfl (by kernel_rfl) ?_
    refine D.gs (t := 17) rfl rfl rfl rfl (by kernel_rfl) ?_
    refine D.gs (t := 17) rfl rfl rfl rfl (by kernel_rfl) ?_
    refine D.gs (t := 17) rfl rfl rfl rfl (by kernel_rfl) ?_
    refine D.gs (t := 17) rfl rfl rfl rfl (by kernel_rfl) ?_
    refine D.gs (t := 17) rfl rfl rfl rfl (by kernel_rfl) ?_
    refine D.gs (t := 17) rfl rfl rfl rfl (by kernel_rfl) ?_
    refine D.gs (t := 17) rfl rfl rfl rfl (by kernel_rfl) ?_
    refine D.gs (t := 17) rfl rfl rfl rfl (by kernel_rfl) ?_
    refine D.gs (t := 17) rfl rfl rfl rfl (by kernel_rfl) ?_
    refine D.qw [] rfl (by kernel_rfl) (Quiet.pickF rfl rfl) ?_
    refine D.ph (Phases.fin (G.then_n (G.condF rfl (G.exit (G.then_e (G.then_e (G.blk_e (G.then_n ?_))))))))
    exact G.meetK (i) (⟨hi, hlow, fun h => absurd h (by omega)⟩) ⟨rfl, rfl, rfl, trivial⟩ (by (repeat' constructor)) (by ((repeat (apply Have.cons; (repeat (first | exact Pick.here | apply Pick.there)))); apply Have.base; repeat' constructor))
  ·rintro i ⟨hi, hlow, hhigh⟩
   refine G.seq (G.add (slR_nil 134 3) (G.region (G.q (Quiet.assign rfl) rfl (G.nil (G.then_n (G.seq ?_))))))
   have hadr : (some (⟨bs, 0, none⟩ : Addr)) = none ∨ ∃ b off, (some (⟨bs, 0, none⟩ : Addr)) = some (⟨b, off, none⟩ : Addr) := .inr ⟨_, _, rfl⟩
   refine G.region (G.q (Quiet.move rfl) rfl (G.q (Quiet.move rfl) rfl (G.q (Quiet.nilp rfl) rfl (G.q (Quiet.fieldAddr rfl fo_101_1) rfl ?_))))
   refine G.q (Quiet.load rfl ag_99 (by (repeat' constructor)) (rfl)) rfl ?_
   refine G.q (Quiet.move rfl) rfl ?_
   refine G.q (Quiet.to (v' := .slice (some (⟨bs, 0, none⟩ : Addr)) i cs) (Quiet.slTo (j := (i : Int)) rfl el_99 rfl (by omega) hadr) (by rw [Int.toNat_natCast])) rfl ?_
   refine G.op (OpSpec.append (n := 0) (m := i) (ys := ((dropS τ id).sess.take i).flatMap rsC) (p := slR 134 3 (.slice (some (⟨bs, 0, none⟩ : Addr)) (dropS τ id).sess.length cs) (dropS τ id).sess.length ((dropS τ id).sess.flatMap rsC)) rfl rfl rfl el_99 (.inl ⟨_, Tryz.underlying99⟩) ze_134 rfl rfl ?hc83 ?hr84 ?hb85 (by decide)) (by (repeat' constructor)) rfl ?nx86
   case hc83 => exact rsl_cells _
   case hr84 => exact fun h hp => by have := slR_rd_to hi hp; rw [(flat_take (f := rsC) (sz := 3) (fun _ => rfl) _ i).1] at this; exact this
   case hb85 => omega
   rintro v L' ⟨⟨a6, c6, rfl⟩, rfl⟩; rw [Nat.zero_add, List.nil_append]
   refine G.q (Quiet.assign rfl) rfl (G.nil (G.then_n (G.seq (G.region (G.q (Quiet.move rfl) rfl ?_)))))
   refine G.q (Quiet.loadAs (vs := rsC (id, (n, s))) rfl ag_134 (by (repeat' constructor)) (by simp [rsC]) rfl) rfl ?_
   refine G.op (OpSpec.buildSlice (vs := [_]) el_99 ze_134 rfl rfl rfl rfl (by first | (simp [Value.cells]; done) | (intro v hv; simp only [List.mem_cons, List.not_mem_nil, or_false] at hv; (repeat (first | (subst hv; rfl) | (rcases hv with hv | hv; (subst hv; rfl)))))) (by decide)) (by (repeat' constructor)) rfl ?nx89
   rintro v L' ⟨b7_2, rfl, rfl⟩
   refine G.op (OpSpec.append1 rfl rfl rfl el_99 ze_134 rfl rfl ?c91 ?c92 (Nat.le_refl _) ?c93 (by decide)) (by (repeat' constructor)) rfl ?nx94
   case c91 => first | exact rs_cells _ | (simp only [List.map_cons, List.map_nil, List.flatten_cons, List.flatten_nil, List.append_nil]; exact rs_cells _)
   case c92 => rfl
   case c93 => first | omega | (simp; omega)
   rintro v L' ⟨⟨a7_3, c7_3, rfl⟩, rfl⟩
   refine G.q (Quiet.assign rfl) rfl (G.nil ?_)
   refine G.slCast (T := 134) (sz := 3) (m' := i + 1) (xs' := (((dropS τ id).sess.take i) ++ [(id, (n, s))]).flatMap rsC) (by (repeat' constructor)) rfl (by rw [List.flatMap_append]; simp; rfl) ?_
   refine G.then_n (G.region (G.q (Quiet.move rfl) rfl (G.q (Quiet.move rfl) rfl (G.q (Quiet.move rfl) rfl (G.q (Quiet.nilp rfl) rfl (G.q (Quiet.fieldAddr rfl fo_101_1) rfl ?_))))))
   refine G.q (Quiet.load rfl ag_99 (by (repeat' constructor)) (rfl)) rfl ?_
   refine G.q (Quiet.move rfl) rfl ?_
   refine G.q (Quiet.slFromO (i := (i : Int)) rfl el_99 rfl (by omega)) rfl ?_
   refine G.op (OpSpec.append (n := i + 1) (m := (dropS τ id).sess.length - (i : Int).toNat) (ys := ((dropS τ id).sess.drop i).flatMap rsC) (p := slR 134 3 (.slice (some (⟨bs, 0, none⟩ : Addr)) (dropS τ id).sess.length cs) (dropS τ id).sess.length ((dropS τ id).sess.flatMap rsC)) rfl rfl rfl el_99 (.inl ⟨_, Tryz.underlying99⟩) ze_134 rfl rfl ?hc103 ?hr104 ?hb105 (by decide)) (by (repeat' constructor)) rfl ?nx106
   case hc103 => exact rsl_cells _
   case hr104 => exact fun h hp => by rw [Int.toNat_natCast]; have := slR_rd_from hi hp; rw [(flat_take (f := rsC) (sz := 3) (fun _ => rfl) _ i).2] at this; exact this
   case hb105 => omega
   rintro v L' ⟨⟨a8, c8, rfl⟩, rfl⟩
   refine G.q (Quiet.nilp rfl) rfl (G.q (Quiet.fieldAddr rfl fo_101_1) rfl ?_)
   refine G.op (OpSpec.store rfl rfl rfl sz_99 ?c110 ?c111) (by (repeat' constructor)) rfl ?nx112
   case c110 => first | decide | (simp; omega) | simp
   case c111 => exact nfz0 _ _
   rintro v L' rfl
   refine G.nil (G.done_n ?_)
   have hfin : ((dropS τ id).sess.take i) ++ [(id, (n, s))] ++ ((dropS τ id).sess.drop i) = (openS τ id n s).sess := by rw [sset_at hi hlow hhigh (fun w hw => by have := (List.mem_filter.1 hw).2; simpa using this), ← open_drop ho id n s]; rfl
   have hlen : i + 1 + ((dropS τ id).sess.length - (i : Int).toNat) = (openS τ id n s).sess.length := by rw [← hfin]; simp; omega
   refine G.rfFold (x := x) (τ := (openS τ id n s)) (l := l) hl (by (repeat' constructor)) rfl rfl rfl hlen (by rw [← List.flatMap_append, hfin]) ?_
   exact G.done (l := []) rfl rfl ⟨rfl, rfl⟩ (by (repeat' constructor)) (by (repeat' constructor))

end Go.Proofs.YtnnbelmpbmfdnaaGreatDoor

/- Own work, by program: the document's tree: kids, owners, clones, soundness: walked. -/

namespace Go.Proofs.YtnnbelmpbmfdnaaGreatDoor
open Go
set_option maxRecDepth 100000 in
theorem rkids_spec (x : Nat) (τ : Tr) (p : Bs) (N : Nat) (ho : τ.Ok N) (hN : N ≤ 1073741824) : Fn Tryz.prog 65 #[vptr x, vstr p] [refR x τ] fun v L => (∃ a c, v = .slice a (kidsZ τ p).length c) ∧ L = [refR x τ, slR 9 1 v (kidsZ τ p).length (strs (kidsZ τ p))] := by
 refine Fn.intro (vs := [vptr x, vstr p]) Tryz.func65 rfl rfl ?_
 intro F W
 refine G.rfOpen (x := x) (τ := τ) (by (repeat' constructor)) fun an cn as1 cs l hl => ?_
 have hll := nds_len hl
 have hofew := ho.few
 refine G.add (slR_nil 9 1) ?_
 refine G.seq (G.region (G.q (Quiet.assign rfl) rfl (G.nil (G.then_n (G.seq (G.region (G.q (Quiet.assign rfl) rfl (G.nil (G.then_n (G.seq (G.seq (G.region (G.q (Quiet.assign rfl) rfl (G.nil (G.then_n (G.block ?_))))))))))))))))
 refine G.loopK (ι := Nat × Value) (fun q E => (6, vint q.1) :: (5, q.2) :: E) (fun q => [slR 9 1 q.2 (kidsN (l.take q.1) p).length (strs (kidsN (l.take q.1) p))]) (fun q => q.1 ≤ l.length ∧ ∃ a c, q.2 = .slice a (kidsN (l.take q.1) p).length c) (fun q => l.length - q.1) (0, .slice none 0 0) (ts := [0, 1, 4]) (.cons rfl (.cons rfl (.cons rfl (.nil)))) (⟨Nat.zero_le _, none, 0, rfl⟩) ⟨rfl, rfl, rfl, rfl, rfl, trivial⟩ (by (repeat' constructor)) ?_
 rintro ⟨i, u⟩ ⟨hi, au, cu, hu⟩
 dsimp only
 dsimp only at hi hu
 subst hu
 have hkl := kidsN_len (l.take i) p
 rw [List.length_take] at hkl
 refine G.seq (G.seq (G.region (G.q (Quiet.move rfl) rfl (G.q (Quiet.move rfl) rfl (G.q (Quiet.nilp rfl) rfl (G.q (Quiet.fieldAddr rfl fo_101_0) rfl ?_))))))
 refine G.q (Quiet.load rfl ag_98 (by (repeat' constructor)) (rfl)) rfl ?_
 refine G.q (Quiet.slen rfl Tryz.underlying98 rfl) rfl (G.q (Quiet.int rfl rfl rfl) rfl (G.nil (G.then_n ?_)))
 refine G.condD rfl (fun h13 => ?_) (fun h13 => ?_)
 ·have hi2 : i < l.length := by omega
  have hpi : l[i].1.length ≤ 60 := by have := nds_get hl hi2; have h2 := able_len (ho.able _ (List.getElem_mem (l := τ.nodes) (n := i) (by omega))); rw [this] at h2; exact h2
  refine G.slShape (T := 131) (sz := 12) (v := .slice an l.length cn) (xs := l.flatMap rnC) (by (repeat' constructor)) (by omega) fun bn bn' e0 mbn _ => ?_
  simp only [Value.slice.injEq, true_and] at e0
  obtain ⟨rfl, rfl⟩ := e0
  refine G.skip (G.then_n (G.seq (G.block (G.seq (G.region (G.q (Quiet.move rfl) rfl (G.q (Quiet.nilp rfl) rfl (G.q (Quiet.fieldAddr rfl fo_101_0) rfl ?_))))))))
  refine G.q (Quiet.load rfl ag_98 (by (repeat' constructor)) (rfl)) rfl ?_
  refine G.q (Quiet.move rfl) rfl ?_
  refine G.q (Quiet.indexAddr rfl rfl el_98 (by omega)) rfl ?_
  refine G.q (Quiet.fieldAddr rfl fo_131_0) rfl ?_
  refine G.q (Quiet.loadRd (sz := 12) (j := i * 12 + 0) (p := rnR _ l) rfl ag_9 (by (repeat' constructor)) (fun h hp => slR_rd hp) (by omega) ((rn_cell (l := l) (i := i) (k := 0) (by omega) (by decide)).trans rfl)) rfl ?_
  refine G.q (Quiet.strne rfl rfl) rfl (G.q (Quiet.move rfl) rfl ?_)
  refine G.ndec (t := 25) rfl (fun h5_25 => ?_) (fun h5_25 => ?_)
  ·refine G.kNT (t := 24) rfl h5_25 (G.grun (t := 25) rfl rfl rfl (G.q (Quiet.move rfl) rfl (G.grun (t := 25) rfl rfl rfl (G.q (Quiet.nilp rfl) rfl (G.grun (t := 25) rfl rfl rfl (G.q (Quiet.fieldAddr rfl fo_101_0) rfl (G.grun (t := 25) rfl rfl rfl ?_)))))))
   refine G.q (Quiet.load rfl ag_98 (by (repeat' constructor)) (rfl)) rfl ?_
   refine G.grun (t := 25) rfl rfl rfl (G.q (Quiet.move rfl) rfl (G.grun (t := 25) rfl rfl rfl ?_))
   refine G.q (Quiet.indexAddr rfl rfl el_98 (by omega)) rfl ?_
   refine G.grun (t := 25) rfl rfl rfl (G.q (Quiet.fieldAddr rfl fo_131_0) rfl (G.grun (t := 25) rfl rfl rfl ?_))
   refine G.q (Quiet.loadRd (sz := 12) (j := i * 12 + 0) (p := rnR _ l) rfl ag_9 (by (repeat' constructor)) (fun h hp => slR_rd hp) (by omega) ((rn_cell (l := l) (i := i) (k := 0) (by omega) (by decide)).trans rfl)) rfl ?_
   refine G.grun (t := 25) rfl rfl rfl ?_
   refine G.op (OpSpec.call Tryz.func51 rfl rfl (vs := [_]) rfl (rparent_spec l[i].1 (by omega))) (by (repeat' constructor)) rfl ?nx28
   rintro v L' ⟨rfl, rfl⟩
   refine G.grun (t := 25) rfl rfl rfl (G.q (Quiet.move rfl) rfl (G.grun (t := 25) rfl rfl rfl (G.q (Quiet.streq rfl rfl) rfl (G.q (Quiet.pickT rfl rfl) rfl (G.nil (G.then_n ?_))))))
   refine G.condD rfl (fun h37 => ?_) (fun h37 => ?_)
   ·refine G.region (G.q (Quiet.move rfl) rfl (G.q (Quiet.move rfl) rfl (G.q (Quiet.nilp rfl) rfl (G.q (Quiet.fieldAddr rfl fo_101_0) rfl ?_))))
    refine G.q (Quiet.load rfl ag_98 (by (repeat' constructor)) (rfl)) rfl ?_
    refine G.q (Quiet.move rfl) rfl ?_
    refine G.q (Quiet.indexAddr rfl rfl el_98 (by omega)) rfl ?_
    refine G.q (Quiet.fieldAddr rfl fo_131_0) rfl ?_
    refine G.q (Quiet.loadRd (sz := 12) (j := i * 12 + 0) (p := rnR _ l) rfl ag_9 (by (repeat' constructor)) (fun h hp => slR_rd hp) (by omega) ((rn_cell (l := l) (i := i) (k := 0) (by omega) (by decide)).trans rfl)) rfl ?_
    refine G.op (OpSpec.call Tryz.func107 rfl rfl (vs := [_]) rfl (rbase_spec l[i].1 (by omega))) (by (repeat' constructor)) rfl ?nx41
    rintro v L' ⟨rfl, rfl⟩
    refine G.op (OpSpec.buildSlice1 (vs := [_]) el_40 ze_9 rfl rfl rfl rfl rfl (by decide)) (by (repeat' constructor)) rfl ?nx43
    rintro v L' ⟨b6_10, rfl, rfl⟩
    refine G.op (OpSpec.append1 rfl rfl rfl el_40 ze_9 rfl rfl ?c45 ?c46 (Nat.le_refl _) ?c47 (by decide)) (by (repeat' constructor)) rfl ?nx48
    case c45 => (first | (simp [isCell]; done) | (simp [isCell, setAll, Value.cells]; done))
    case c46 => rfl
    case c47 => first | omega | (simp; omega)
    rintro v L' ⟨⟨a6_11, c6_11, rfl⟩, rfl⟩
    refine G.q (Quiet.assign rfl) rfl (G.nil (G.blk_n (G.then_n (G.region (G.q (Quiet.move rfl) rfl ?_)))))
    refine G.q (Quiet.add rfl rfl (by omega)) rfl ?_
    refine G.q (Quiet.assign rfl) rfl (G.nil (G.then_n ?_))
    have hst : (kidsN (l.take (i + 1)) p) = (kidsN (l.take i) p) ++ [baseZ l[i].1] := by unfold kidsN; rw [List.take_succ_eq_append_getElem hi2, List.filter_append, List.map_append]; simp [show ¬ l[i].1 = [47] from h5_25, show parentZ l[i].1 = p from h37]
    rw [show strs (kidsN (l.take i) p) ++ [vstr (baseZ l[i].1)] = strs (kidsN (l.take (i + 1)) p) by rw [hst]; simp [strs], show (kidsN (l.take i) p).length + 1 = (kidsN (l.take (i + 1)) p).length by rw [hst, List.length_append]; rfl]
    exact G.roundK ((i + 1, .slice a6_11 (kidsN (l.take (i + 1)) p).length c6_11)) (⟨by dsimp only; omega, _, _, rfl⟩) (by dsimp only; omega) ⟨rfl, rfl, rfl, rfl, rfl, trivial⟩ (by (repeat' constructor)) (by ((repeat (apply Have.cons; (repeat (first | exact Pick.here | apply Pick.there)))); apply Have.base; repeat' constructor))
   ·refine G.skip (G.blk_n (G.then_n (G.region (G.q (Quiet.move rfl) rfl ?_))))
    refine G.q (Quiet.add rfl rfl (by omega)) rfl ?_
    refine G.q (Quiet.assign rfl) rfl (G.nil (G.then_n ?_))
    have hst : (kidsN (l.take (i + 1)) p) = (kidsN (l.take i) p) := by unfold kidsN; rw [List.take_succ_eq_append_getElem hi2, List.filter_append, List.map_append]; simp; exact fun g1 g2 => h37 g2
    rw [← hst]
    exact G.roundK ((i + 1, .slice au (kidsN (l.take (i + 1)) p).length cu)) (⟨by dsimp only; omega, _, _, rfl⟩) (by dsimp only; omega) ⟨rfl, rfl, rfl, rfl, rfl, trivial⟩ (by (repeat' constructor)) (by ((repeat (apply Have.cons; (repeat (first | exact Pick.here | apply Pick.there)))); apply Have.base; repeat' constructor))
  ·refine G.kNF (t := 24) rfl h5_25 (G.gskip (t := 25) rfl rfl rfl rfl (G.gskip (t := 25) rfl rfl rfl rfl (G.gskip (t := 25) rfl rfl rfl rfl (G.gskip (t := 25) rfl rfl rfl rfl (G.gskip (t := 25) rfl rfl rfl rfl (G.gskip (t := 25) rfl rfl rfl rfl (G.gskip (t := 25) rfl rfl rfl rfl (G.gskip (t := 25) rfl rfl rfl rfl (G.gskip (t := 25) rfl rfl rfl rfl (G.gskip (t := 25) rfl rfl rfl rfl (G.gskip (t := 25) rfl rfl rfl rfl (G.q (Quiet.pickF rfl rfl) rfl (G.nil (G.then_n (G.condF rfl (G.skip (G.blk_n (G.then_n (G.region (G.q (Quiet.move rfl) rfl ?_))))))))))))))))))))
   refine G.q (Quiet.add rfl rfl (by omega)) rfl ?_
   refine G.q (Quiet.assign rfl) rfl (G.nil (G.then_n ?_))
   have hst : (kidsN (l.take (i + 1)) p) = (kidsN (l.take i) p) := by unfold kidsN; rw [List.take_succ_eq_append_getElem hi2, List.filter_append, List.map_append]; simp; exact fun g1 _ => g1 h5_25
   rw [← hst]
   exact G.roundK ((i + 1, .slice au (kidsN (l.take (i + 1)) p).length cu)) (⟨by dsimp only; omega, _, _, rfl⟩) (by dsimp only; omega) ⟨rfl, rfl, rfl, rfl, rfl, trivial⟩ (by (repeat' constructor)) (by ((repeat (apply Have.cons; (repeat (first | exact Pick.here | apply Pick.there)))); apply Have.base; repeat' constructor))
 ·have hii : i = l.length := by omega
  rw [hii, List.take_length, kidsN_eq hl]
  refine G.exit (G.then_e (G.then_e (G.blk_e (G.then_n (G.seq (G.region (G.q (Quiet.move rfl) rfl (G.q (Quiet.assign rfl) rfl (G.nil (G.then_n (G.ret ?_)))))))))))
  refine G.rfFold (x := x) (τ := τ) (l := l) hl (by (repeat' constructor)) rfl rfl rfl rfl rfl ?_
  exact G.done (l := [.tmp 4]) rfl rfl ⟨⟨_, _, rfl⟩, rfl⟩ (by (repeat' constructor)) (by (repeat' constructor))

set_option maxRecDepth 100000 in
theorem rowned_spec (x : Nat) (τ : Tr) (s : Int) (N : Nat) (ho : τ.Ok N) (hN : N ≤ 1073741824) : Fn Tryz.prog 66 #[vptr x, vint s] [refR x τ] fun v L => (∃ a c, v = .slice a (ownedZ τ s).length c) ∧ L = [refR x τ, slR 9 1 v (ownedZ τ s).length (strs (ownedZ τ s))] := by
 refine Fn.intro (vs := [vptr x, vint s]) Tryz.func66 rfl rfl ?_
 intro F W
 refine G.rfOpen (x := x) (τ := τ) (by (repeat' constructor)) fun an cn as1 cs l hl => ?_
 have hll := nds_len hl
 have hofew := ho.few
 refine G.add (slR_nil 9 1) ?_
 refine G.seq (G.region (G.q (Quiet.assign rfl) rfl (G.nil (G.then_n (G.seq (G.region (G.q (Quiet.assign rfl) rfl (G.nil (G.then_n (G.seq (G.seq (G.region (G.q (Quiet.assign rfl) rfl (G.nil (G.then_n (G.block ?_))))))))))))))))
 refine G.loopK (ι := Nat × Value) (fun q E => (6, vint q.1) :: (5, q.2) :: E) (fun q => [slR 9 1 q.2 (ownN (l.take q.1) s).length (strs (ownN (l.take q.1) s))]) (fun q => q.1 ≤ l.length ∧ ∃ a c, q.2 = .slice a (ownN (l.take q.1) s).length c) (fun q => l.length - q.1) (0, .slice none 0 0) (ts := [0, 1, 4]) (.cons rfl (.cons rfl (.cons rfl (.nil)))) (⟨Nat.zero_le _, none, 0, rfl⟩) ⟨rfl, rfl, rfl, rfl, rfl, trivial⟩ (by (repeat' constructor)) ?_
 rintro ⟨i, u⟩ ⟨hi, au, cu, hu⟩
 dsimp only
 dsimp only at hi hu
 subst hu
 have hkl := ownN_len (l.take i) s
 rw [List.length_take] at hkl
 refine G.seq (G.seq (G.region (G.q (Quiet.move rfl) rfl (G.q (Quiet.move rfl) rfl (G.q (Quiet.nilp rfl) rfl (G.q (Quiet.fieldAddr rfl fo_101_0) rfl ?_))))))
 refine G.q (Quiet.load rfl ag_98 (by (repeat' constructor)) (rfl)) rfl ?_
 refine G.q (Quiet.slen rfl Tryz.underlying98 rfl) rfl (G.q (Quiet.int rfl rfl rfl) rfl (G.nil (G.then_n ?_)))
 refine G.condD rfl (fun h13 => ?_) (fun h13 => ?_)
 ·have hi2 : i < l.length := by omega
  have hpi : l[i].1.length ≤ 60 := by have := nds_get hl hi2; have h2 := able_len (ho.able _ (List.getElem_mem (l := τ.nodes) (n := i) (by omega))); rw [this] at h2; exact h2
  refine G.slShape (T := 131) (sz := 12) (v := .slice an l.length cn) (xs := l.flatMap rnC) (by (repeat' constructor)) (by omega) fun bn bn' e0 mbn _ => ?_
  simp only [Value.slice.injEq, true_and] at e0
  obtain ⟨rfl, rfl⟩ := e0
  refine G.skip (G.then_n (G.seq (G.block (G.seq (G.region (G.q (Quiet.move rfl) rfl (G.q (Quiet.int rfl rfl rfl) rfl (G.q (Quiet.move rfl) rfl ?_))))))))
  refine G.ndec (t := 18) rfl (fun h5_18 => ?_) (fun h5_18 => ?_)
  ·refine G.kNT (t := 17) rfl h5_18 (G.grun (t := 18) rfl rfl rfl (G.q (Quiet.move rfl) rfl (G.grun (t := 18) rfl rfl rfl (G.q (Quiet.nilp rfl) rfl (G.grun (t := 18) rfl rfl rfl (G.q (Quiet.fieldAddr rfl fo_101_0) rfl (G.grun (t := 18) rfl rfl rfl ?_)))))))
   refine G.q (Quiet.load rfl ag_98 (by (repeat' constructor)) (rfl)) rfl ?_
   refine G.grun (t := 18) rfl rfl rfl (G.q (Quiet.move rfl) rfl (G.grun (t := 18) rfl rfl rfl ?_))
   refine G.q (Quiet.indexAddr rfl rfl el_98 (by omega)) rfl ?_
   refine G.grun (t := 18) rfl rfl rfl (G.q (Quiet.fieldAddr rfl fo_131_3) rfl (G.grun (t := 18) rfl rfl rfl (G.q (Quiet.fieldAddr rfl fo_43_6) rfl (G.grun (t := 18) rfl rfl rfl ?_))))
   refine G.q (Quiet.loadRd (sz := 12) (j := i * 12 + 9) (p := rnR _ l) rfl ag_3 (by (repeat' constructor)) (fun h hp => slR_rd hp) (by omega) ((rn_cell (l := l) (i := i) (k := 9) (by omega) (by decide)).trans rfl)) rfl ?_
   refine G.grun (t := 18) rfl rfl rfl (G.q (Quiet.move rfl) rfl (G.grun (t := 18) rfl rfl rfl (G.q (Quiet.int rfl rfl rfl) rfl (G.q (Quiet.pickT rfl rfl) rfl (G.nil (G.then_n ?_))))))
   refine G.condD rfl (fun h30 => ?_) (fun h30 => ?_)
   ·refine G.region (G.q (Quiet.move rfl) rfl (G.q (Quiet.move rfl) rfl (G.q (Quiet.nilp rfl) rfl (G.q (Quiet.fieldAddr rfl fo_101_0) rfl ?_))))
    refine G.q (Quiet.load rfl ag_98 (by (repeat' constructor)) (rfl)) rfl ?_
    refine G.q (Quiet.move rfl) rfl ?_
    refine G.q (Quiet.indexAddr rfl rfl el_98 (by omega)) rfl ?_
    refine G.q (Quiet.fieldAddr rfl fo_131_0) rfl ?_
    refine G.q (Quiet.loadRd (sz := 12) (j := i * 12 + 0) (p := rnR _ l) rfl ag_9 (by (repeat' constructor)) (fun h hp => slR_rd hp) (by omega) ((rn_cell (l := l) (i := i) (k := 0) (by omega) (by decide)).trans rfl)) rfl ?_
    refine G.op (OpSpec.buildSlice1 (vs := [_]) el_40 ze_9 rfl rfl rfl rfl rfl (by decide)) (by (repeat' constructor)) rfl ?nx33
    rintro v L' ⟨b6_9, rfl, rfl⟩
    refine G.op (OpSpec.append1 rfl rfl rfl el_40 ze_9 rfl rfl ?c35 ?c36 (Nat.le_refl _) ?c37 (by decide)) (by (repeat' constructor)) rfl ?nx38
    case c35 => (first | (simp [isCell]; done) | (simp [isCell, setAll, Value.cells]; done))
    case c36 => rfl
    case c37 => first | omega | (simp; omega)
    rintro v L' ⟨⟨a6_10, c6_10, rfl⟩, rfl⟩
    refine G.q (Quiet.assign rfl) rfl (G.nil (G.blk_n (G.then_n (G.region (G.q (Quiet.move rfl) rfl ?_)))))
    refine G.q (Quiet.add rfl rfl (by omega)) rfl ?_
    refine G.q (Quiet.assign rfl) rfl (G.nil (G.then_n ?_))
    have hst : (ownN (l.take (i + 1)) s) = (ownN (l.take i) s) ++ [l[i].1] := by unfold ownN; rw [List.take_succ_eq_append_getElem hi2, List.filter_append, List.map_append]; simp [show ¬ s = 0 from h5_18, show l[i].2.2.st.own = s from h30]
    rw [show strs (ownN (l.take i) s) ++ [vstr (l[i].1)] = strs (ownN (l.take (i + 1)) s) by rw [hst]; simp [strs], show (ownN (l.take i) s).length + 1 = (ownN (l.take (i + 1)) s).length by rw [hst, List.length_append]; rfl]
    exact G.roundK ((i + 1, .slice a6_10 (ownN (l.take (i + 1)) s).length c6_10)) (⟨by dsimp only; omega, _, _, rfl⟩) (by dsimp only; omega) ⟨rfl, rfl, rfl, rfl, rfl, trivial⟩ (by (repeat' constructor)) (by ((repeat (apply Have.cons; (repeat (first | exact Pick.here | apply Pick.there)))); apply Have.base; repeat' constructor))
   ·refine G.skip (G.blk_n (G.then_n (G.region (G.q (Quiet.move rfl) rfl ?_))))
    refine G.q (Quiet.add rfl rfl (by omega)) rfl ?_
    refine G.q (Quiet.assign rfl) rfl (G.nil (G.then_n ?_))
    have hst : (ownN (l.take (i + 1)) s) = (ownN (l.take i) s) := by unfold ownN; rw [List.take_succ_eq_append_getElem hi2, List.filter_append, List.map_append]; simp; exact fun g1 g2 => h30 g2
    rw [← hst]
    exact G.roundK ((i + 1, .slice au (ownN (l.take (i + 1)) s).length cu)) (⟨by dsimp only; omega, _, _, rfl⟩) (by dsimp only; omega) ⟨rfl, rfl, rfl, rfl, rfl, trivial⟩ (by (repeat' constructor)) (by ((repeat (apply Have.cons; (repeat (first | exact Pick.here | apply Pick.there)))); apply Have.base; repeat' constructor))
  ·refine G.kNF (t := 17) rfl h5_18 (G.gskip (t := 18) rfl rfl rfl rfl (G.gskip (t := 18) rfl rfl rfl rfl (G.gskip (t := 18) rfl rfl rfl rfl (G.gskip (t := 18) rfl rfl rfl rfl (G.gskip (t := 18) rfl rfl rfl rfl (G.gskip (t := 18) rfl rfl rfl rfl (G.gskip (t := 18) rfl rfl rfl rfl (G.gskip (t := 18) rfl rfl rfl rfl (G.gskip (t := 18) rfl rfl rfl rfl (G.gskip (t := 18) rfl rfl rfl rfl (G.gskip (t := 18) rfl rfl rfl rfl (G.q (Quiet.pickF rfl rfl) rfl (G.nil (G.then_n (G.condF rfl (G.skip (G.blk_n (G.then_n (G.region (G.q (Quiet.move rfl) rfl ?_))))))))))))))))))))
   refine G.q (Quiet.add rfl rfl (by omega)) rfl ?_
   refine G.q (Quiet.assign rfl) rfl (G.nil (G.then_n ?_))
   have hst : (ownN (l.take (i + 1)) s) = (ownN (l.take i) s) := by unfold ownN; rw [List.take_succ_eq_append_getElem hi2, List.filter_append, List.map_append]; simp; exact fun g1 _ => g1 h5_18
   rw [← hst]
   exact G.roundK ((i + 1, .slice au (ownN (l.take (i + 1)) s).length cu)) (⟨by dsimp only; omega, _, _, rfl⟩) (by dsimp only; omega) ⟨rfl, rfl, rfl, rfl, rfl, trivial⟩ (by (repeat' constructor)) (by ((repeat (apply Have.cons; (repeat (first | exact Pick.here | apply Pick.there)))); apply Have.base; repeat' constructor))
 ·have hii : i = l.length := by omega
  rw [hii, List.take_length, ownN_eq hl]
  refine G.exit (G.then_e (G.then_e (G.blk_e (G.then_n (G.seq (G.region (G.q (Quiet.move rfl) rfl (G.q (Quiet.assign rfl) rfl (G.nil (G.then_n (G.ret ?_)))))))))))
  refine G.rfFold (x := x) (τ := τ) (l := l) hl (by (repeat' constructor)) rfl rfl rfl rfl rfl ?_
  exact G.done (l := [.tmp 4]) rfl rfl ⟨⟨_, _, rfl⟩, rfl⟩ (by (repeat' constructor)) (by (repeat' constructor))

set_option maxRecDepth 100000 in
theorem rclone_spec (x : Nat) (τ : Tr) (N : Nat) (ho : τ.Ok N) (hN : N ≤ 1073741824) : Fn Tryz.prog 91 #[vptr x] [refR x τ] fun v L => ∃ u, v = vptr u ∧ L = [refR u τ, refR x τ] := by
 refine Fn.intro (vs := [vptr x]) Tryz.func91 rfl rfl ?_
 intro F W
 refine G.rfOpen (x := x) (τ := τ) (by (repeat' constructor)) fun an cn as1 cs l hl => ?_
 have hll := nds_len hl
 have hofew := ho.few
 have hosf := ho.sfew
 refine G.seq (G.region (G.q (Quiet.assign rfl) rfl (G.nil (G.then_n (G.seq (G.region (G.q (Quiet.move rfl) rfl (G.q (Quiet.nilp rfl) rfl (G.q (Quiet.fieldAddr rfl fo_101_2) rfl ?_)))))))))
 refine G.q (Quiet.load rfl ag_3 (by (repeat' constructor)) (rfl)) rfl ?_
 refine G.q (Quiet.build (us := [(2, _)]) fl_101 ze_101 rfl rfl (by simp [isCell])) rfl ?_
 refine G.op (OpSpec.box rfl) (by (repeat' constructor)) rfl ?nx7
 rintro v L' ⟨u, rfl, rfl⟩
 refine G.q (Quiet.assign rfl) rfl (G.nil (G.then_n (G.seq (G.add (slR_nil 134 3) ?_))))
 refine G.ptCast (b := u) (l' := [.slice none 0 0, .slice none 0 0, vint τ.zx]) (by (repeat' constructor)) rfl ?_
 refine G.draw [9, 12] [[0, 1, 2, 3, 4, 5, 6, 7, 8, 9], [10, 11, 12]] mixed (by kernel_rfl) ?_
 refine Phases.go [ptc x _ _] (by (repeat' constructor)) ?_
 refine D.q rfl (by kernel_rfl) (Quiet.move rfl) ?_
 refine D.qw [2, 3, 4, 9] rfl (by kernel_rfl) (Quiet.move rfl) ?_
 refine D.qw [3, 4, 9] rfl (by kernel_rfl) (Quiet.nilp rfl) ?_
 refine D.qw [4, 9] rfl (by kernel_rfl) (Quiet.fieldAddr rfl fo_101_1) ?_
 refine D.qw [9] rfl (by kernel_rfl) (Quiet.load rfl ag_99 (by (repeat' constructor)) (rfl)) ?_
 refine D.qw [6, 7, 8, 9] rfl (by kernel_rfl) (Quiet.move rfl) ?_
 refine D.qw [7, 8, 9] rfl (by kernel_rfl) (Quiet.nilp rfl) ?_
 refine D.qw [8, 9] rfl (by kernel_rfl) (Quiet.fieldAddr rfl fo_101_1) ?_
 refine D.qw [9] rfl (by kernel_rfl) (Quiet.load rfl ag_99 (by (repeat' constructor)) (rfl)) ?_
 refine D.h rfl (by kernel_rfl) (OpSpec.append (n := 0) (m := τ.sess.length) (ys := τ.sess.flatMap rsC) (p := rsR (.slice as1 τ.sess.length cs) τ.sess) rfl rfl rfl el_99 (.inl ⟨_, Tryz.underlying99⟩) ze_134 rfl rfl ?hc16 ?hr17 ?hb18 (by decide)) (by (repeat' constructor)) ?nx19
 case hc16 => exact rsl_cells _
 case hr17 => exact fun h hp => slR_rd hp
 case hb18 => omega
 rintro v L' ⟨⟨a2, c2, rfl⟩, rfl⟩; rw [Nat.zero_add, List.nil_append]
 refine D.ph ?_
 refine Phases.go [] (by (repeat' constructor)) ?_
 refine D.qw [11, 12] rfl (by kernel_rfl) (Quiet.nilp rfl) ?_
 refine D.qw [12] rfl (by kernel_rfl) (Quiet.fieldAddr rfl fo_101_1) ?_
 refine D.h rfl (by kernel_rfl) (OpSpec.store rfl rfl rfl sz_99 ?c23 ?c24) (by (repeat' constructor)) ?nx25
 case c23 => first | decide | (simp; omega) | simp
 case c24 => exact nfz0 _ _
 rintro v L' rfl
 refine D.ph (Phases.fin (G.then_n (G.seq (G.seq ?_))))
 refine G.ptCast (b := u) (l' := [.slice none 0 0, .slice a2 τ.sess.length c2, vint τ.zx]) (by (repeat' constructor)) rfl ?_
 refine G.add (slR_nil 131 12) (G.add (p := bigR inA []) big_nil (G.region (G.q (Quiet.assign rfl) rfl (G.nil (G.then_n (G.block ?_))))))
 refine G.loopK (ι := Nat × Value × (List Rn)) (fun q E => (4, vint q.1) :: E) (fun q => [ptc u [q.2.1, .slice a2 τ.sess.length c2, vint τ.zx] 101, rnR q.2.1 q.2.2, bigR inA q.2.2]) (fun q => q.1 ≤ l.length ∧ ndsZ q.2.2 = ndsZ (l.take q.1) ∧ ∃ a c, q.2.1 = .slice a q.2.2.length c) (fun q => l.length - q.1) (0, .slice none 0 0, []) (ts := [0, 2, 3]) (.cons rfl (.cons rfl (.cons rfl (.nil)))) (⟨Nat.zero_le _, rfl, none, 0, rfl⟩) ⟨rfl, rfl, rfl, rfl, trivial⟩ (by (repeat' constructor)) ?_
 rintro ⟨i, w, acc⟩ ⟨hi, hac, aw, cw, hw⟩
 dsimp only
 dsimp only at hi hac hw
 subst hw
 have hal : acc.length = i := by have := congrArg List.length hac; simp [ndsZ] at this; omega
 refine G.seq (G.seq (G.region (G.q (Quiet.move rfl) rfl (G.q (Quiet.move rfl) rfl (G.q (Quiet.nilp rfl) rfl (G.q (Quiet.fieldAddr rfl fo_101_0) rfl ?_))))))
 refine G.q (Quiet.load rfl ag_98 (by (repeat' constructor)) (rfl)) rfl ?_
 refine G.q (Quiet.slen rfl Tryz.underlying98 rfl) rfl (G.q (Quiet.int rfl rfl rfl) rfl (G.nil (G.then_n ?_)))
 refine G.condD rfl (fun h30 => ?_) (fun h30 => ?_)
 ·have hi2 : i < l.length := by omega
  refine G.slShape (T := 131) (sz := 12) (v := .slice an l.length cn) (xs := l.flatMap rnC) (by (repeat' constructor)) (by omega) fun bn bn' e0 mbn _ => ?_
  simp only [Value.slice.injEq, true_and] at e0
  obtain ⟨rfl, rfl⟩ := e0
  refine G.skip (G.then_n (G.seq (G.block (G.seq ?_))))
  refine G.aclShape (l := l) (i := i) hi2 (by (repeat' constructor)) fun hcl => ?_
  refine G.region (G.q (Quiet.move rfl) rfl (G.q (Quiet.nilp rfl) rfl (G.q (Quiet.fieldAddr rfl fo_101_0) rfl ?_)))
  refine G.q (Quiet.load rfl ag_98 (by (repeat' constructor)) (rfl)) rfl ?_
  refine G.q (Quiet.move rfl) rfl ?_
  refine G.q (Quiet.indexAddr rfl rfl el_98 (by omega)) rfl ?_
  refine G.q (Quiet.loadRdA (sz := 12) (j := i * 12) (k := 12) (p := rnR _ l) (vs := rnC l[i]) rfl ag_131 (by (repeat' constructor)) (fun h hp => slR_rd hp) (by omega) (by omega) (by omega) (flatMap_at (f := rnC) (sz := 12) (fun _ _ => rfl) (by omega))) rfl ?_
  refine G.op (OpSpec.allocA ze_131) (by (repeat' constructor)) rfl ?nx41
  rintro v L' ⟨b5, rfl, rfl⟩
  refine G.op (OpSpec.storeA rfl rfl ?c43 sz_131 ?c46 ?c44 ?c45) (by (repeat' constructor)) rfl ?nx47
  case c43 => intro v hv; exact rn_cells hcl v (by simpa [Value.cells] using hv)
  case c46 => rfl
  case c44 => simp [rnC]
  case c45 => exact nfz0 _ _
  rintro v L' rfl
  refine G.nil ?_
  refine G.ptCast (b := b5) (l' := rnC l[i]) (by (repeat' constructor)) rfl ?_
  refine G.then_n (G.seq (G.region (G.q (Quiet.fieldAddr rfl fo_131_2) rfl ?_)))
  refine G.q (Quiet.load rfl ag_34 (by (repeat' constructor)) (rfl)) rfl ?_
  refine G.op (OpSpec.call Tryz.func105 rfl rfl (vs := [_]) rfl (rrows_spec l[i].2.1 l[i].2.2.acl (bigR inA l) (big_rd hi2) (by have := ho.acls _ (List.getElem_mem (l := τ.nodes) (n := i) (by omega)); rw [nds_get hl hi2] at this; exact this))) (by (repeat' constructor)) rfl ?nx50
  rintro v L' ⟨⟨a7, c7, rfl⟩, rfl⟩
  refine G.q (Quiet.fieldAddr rfl fo_131_2) rfl ?_
  refine G.op (OpSpec.store rfl rfl rfl sz_34 ?c53 ?c54) (by (repeat' constructor)) rfl ?nx55
  case c53 => simp [rnC]
  case c54 => exact nfz0 _ _
  rintro v L' rfl
  refine G.nil ?_
  refine G.ptCast (b := b5) (l' := rnC ((l[i].1, (.slice a7 l[i].2.2.acl.length c7, l[i].2.2)) : Rn)) (by (repeat' constructor)) rfl ?_
  refine G.then_n ?_
  refine G.draw [6, 7, 10] [[0, 1, 2, 3, 4, 5, 6, 7], [8, 9, 10]] mixed (by kernel_rfl) ?_
  refine Phases.go [ptc b5 _ _, ptc u _ _] (by (repeat' constructor)) ?_
  refine D.q rfl (by kernel_rfl) (Quiet.move rfl) ?_
  refine D.q rfl (by kernel_rfl) (Quiet.move rfl) ?_
  refine D.q rfl (by kernel_rfl) (Quiet.nilp rfl) ?_
  refine D.q rfl (by kernel_rfl) (Quiet.fieldAddr rfl fo_101_0) ?_
  refine D.q rfl (by kernel_rfl) (Quiet.load rfl ag_98 (by (repeat' constructor)) (rfl)) ?_
  refine D.qw [6, 7] rfl (by kernel_rfl) (Quiet.loadAs (vs := rnC ((l[i].1, (.slice a7 l[i].2.2.acl.length c7, l[i].2.2)) : Rn)) rfl ag_131 (by (repeat' constructor)) (by simp [rnC]) rfl) ?_
  refine D.h rfl (by kernel_rfl) (OpSpec.buildSlice (vs := [_]) el_98 ze_131 rfl rfl rfl rfl (by first | (simp [Value.cells]; done) | (intro v hv; simp only [List.mem_cons, List.not_mem_nil, or_false] at hv; (repeat (first | (subst hv; rfl) | (rcases hv with hv | hv; (subst hv; rfl)))))) (by decide)) (by (repeat' constructor)) ?nx62
  rintro v L' ⟨b8_6, rfl, rfl⟩
  refine D.h rfl (by kernel_rfl) (OpSpec.append1 rfl rfl rfl el_98 ze_131 rfl rfl ?c64 ?c65 (Nat.le_refl _) ?c66 (by decide)) (by (repeat' constructor)) ?nx67
  case c64 => first | exact rn_cells rfl | (simp only [List.map_cons, List.map_nil, List.flatten_cons, List.flatten_nil, List.append_nil]; exact rn_cells rfl)
  case c65 => rfl
  case c66 => first | omega | (simp; omega)
  rintro v L' ⟨⟨a8_7, c8_7, rfl⟩, rfl⟩
  refine D.ph ?_
  refine Phases.go [] (by (repeat' constructor)) ?_
  refine D.qw [9, 10] rfl (by kernel_rfl) (Quiet.nilp rfl) ?_
  refine D.qw [10] rfl (by kernel_rfl) (Quiet.fieldAddr rfl fo_101_0) ?_
  refine D.h rfl (by kernel_rfl) (OpSpec.store rfl rfl rfl sz_98 ?c71 ?c72) (by (repeat' constructor)) ?nx73
  case c71 => first | decide | (simp; omega) | simp
  case c72 => exact nfz0 _ _
  rintro v L' rfl
  refine D.ph (Phases.fin (G.blk_n (G.then_n (G.region (G.q (Quiet.move rfl) rfl ?_)))))
  refine G.q (Quiet.add rfl rfl (by omega)) rfl ?_
  refine G.q (Quiet.assign rfl) rfl (G.nil (G.then_n ?_))
  refine G.toRd (v := .slice a7 l[i].2.2.acl.length c7) (by (repeat' constructor)) ?_
  refine G.bigSnoc (l := acc) ((l[i].1, (.slice a7 l[i].2.2.acl.length c7, l[i].2.2)) : Rn) (p := rdO 2 (.slice a7 l[i].2.2.acl.length c7) l[i].2.2.acl.length (l[i].2.2.acl.flatMap acC)) rfl (by (repeat' constructor)) ?_
  rw [show acc.length + 1 = (acc ++ [((l[i].1, (.slice a7 l[i].2.2.acl.length c7, l[i].2.2)) : Rn)]).length by rw [List.length_append]; rfl]
  refine G.slCast (T := 131) (sz := 12) (m' := (acc ++ [((l[i].1, (.slice a7 l[i].2.2.acl.length c7, l[i].2.2)) : Rn)]).length) (xs' := (acc ++ [((l[i].1, (.slice a7 l[i].2.2.acl.length c7, l[i].2.2)) : Rn)]).flatMap rnC) (by (repeat' constructor)) rfl (by rw [List.flatMap_append]; simp; rfl) ?_
  refine G.ptCast (b := u) (l' := [.slice a8_7 (acc ++ [((l[i].1, (.slice a7 l[i].2.2.acl.length c7, l[i].2.2)) : Rn)]).length c8_7, .slice a2 τ.sess.length c2, vint τ.zx]) (by (repeat' constructor)) rfl ?_
  exact G.roundK ((i + 1, .slice a8_7 (acc ++ [((l[i].1, (.slice a7 l[i].2.2.acl.length c7, l[i].2.2)) : Rn)]).length c8_7, acc ++ [((l[i].1, (.slice a7 l[i].2.2.acl.length c7, l[i].2.2)) : Rn)])) (⟨by dsimp only; omega, by dsimp only; rw [List.take_succ_eq_append_getElem hi2]; unfold ndsZ at hac ⊢; rw [List.map_append, List.map_append, hac]; rfl, _, _, rfl⟩) (by dsimp only; omega) ⟨rfl, rfl, rfl, rfl, trivial⟩ (by (repeat' constructor)) (by ((repeat (apply Have.cons; (repeat (first | exact Pick.here | apply Pick.there)))); apply Have.base; repeat' constructor))
 ·have hii : i = l.length := by omega
  rw [hii, List.take_length, hl] at hac
  refine G.exit (G.then_e (G.then_e (G.blk_e (G.then_n (G.seq (G.region (G.q (Quiet.move rfl) rfl (G.q (Quiet.assign rfl) rfl (G.nil (G.then_n (G.ret ?_)))))))))))
  refine G.rfFold (x := u) (τ := τ) (l := acc) hac (by (repeat' constructor)) rfl rfl rfl rfl rfl ?_
  refine G.rfFold (x := x) (τ := τ) (l := l) hl (by (repeat' constructor)) rfl rfl rfl rfl rfl ?_
  exact G.done (l := [.tmp 2]) rfl rfl ⟨_, rfl, rfl⟩ (by (repeat' constructor)) (by (repeat' constructor))

end Go.Proofs.YtnnbelmpbmfdnaaGreatDoor

/- Own work, by program: the document's tree: soundness: walked. -/

namespace Go.Proofs.YtnnbelmpbmfdnaaGreatDoor
open Go
set_option maxRecDepth 100000 in
theorem rfinds_spec (x : Nat) (τ : Tr) (y : Pt) (hpl : y.path.length ≤ 1048576) (N : Nat) (ho : τ.Ok N) (hN : N ≤ 1073741824) : Fn Tryz.prog 93 #[vptr x, .agg (ptC y).toArray] [refR x τ] fun v L => v = .bool (findsZ τ y) ∧ L = [refR x τ] := by
 refine Fn.intro (vs := [vptr x, .agg (ptC y).toArray]) Tryz.func93 rfl rfl ?_
 intro F W
 have hof := ho.few
 have hpar := parent_len y.path
 refine G.seq (G.region ?_)
 refine G.op (OpSpec.box rfl) (by (repeat' constructor)) rfl ?nx1
 rintro v L' ⟨bx, rfl, rfl⟩
 refine G.q (Quiet.assign rfl) rfl (G.nil ?_)
 refine G.ptCast (b := bx) (l' := ptC y) (by (repeat' constructor)) rfl ?_
 refine G.then_n (G.seq (G.region (G.q (Quiet.move rfl) rfl (G.q (Quiet.fieldAddr rfl fo_37_1) rfl ?_))))
 refine G.q (Quiet.load rfl ag_9 (by (repeat' constructor)) (rfl)) rfl ?_
 refine G.op (OpSpec.call Tryz.func69 rfl rfl (vs := [_, _]) rfl (rplace_spec x τ y.path (by omega))) (by (repeat' constructor)) rfl ?nx7
 rintro v L' ⟨rfl, rfl⟩
 refine G.q (Quiet.int rfl rfl rfl) rfl (G.q (Quiet.assign rfl) rfl (G.nil (G.then_n (G.seq (G.seq (G.region (G.q (Quiet.fieldAddr rfl fo_37_0) rfl ?_)))))))
 refine G.q (Quiet.load rfl ag_3 (by (repeat' constructor)) (rfl)) rfl ?_
 refine G.nil (G.then_n (G.block (G.seq (G.region (G.q (Quiet.int rfl rfl rfl) rfl (G.q (Quiet.assign rfl) rfl (G.nil (G.then_n ?_))))))))
 refine G.condD rfl (fun h14 => ?_) (fun h14 => ?_)
 ·refine G.seq (G.region (G.q (Quiet.fieldAddr rfl fo_37_1) rfl ?_))
  refine G.q (Quiet.load rfl ag_9 (by (repeat' constructor)) (rfl)) rfl ?_
  refine G.op (OpSpec.call Tryz.func118 rfl rfl (vs := [_]) rfl (rable_spec _ ?hs15)) (by (repeat' constructor)) rfl ?nx16
  case hs15 => first | assumption | omega
  rintro v L' ⟨rfl, rfl⟩
  refine G.q (Quiet.assign rfl) rfl (G.nil (G.then_n (G.seq (G.region (G.q (Quiet.move rfl) rfl (G.q (Quiet.move rfl) rfl ?_))))))
  refine G.dec (t := 20) rfl (fun h5_20 => ?_) (fun h5_20 => ?_)
  ·refine G.kDT (t := 18) rfl h5_20 (G.kDT (t := 6) rfl h5_20 (G.kDT (t := 19) rfl h5_20 (G.grun (t := 20) rfl rfl rfl (G.q (Quiet.move rfl) rfl (G.grun (t := 20) rfl rfl rfl (G.q (Quiet.not rfl) rfl (G.q (Quiet.pickT rfl rfl) rfl (G.q (Quiet.move rfl) rfl ?_))))))))
   refine G.ndec (t := 24) rfl (fun h5_24 => ?_) (fun h5_24 => ?_)
   ·refine G.kNT (t := 22) rfl h5_24 (G.kNT (t := 23) rfl h5_24 (G.grun (t := 24) rfl rfl rfl (G.q (Quiet.move rfl) rfl (G.grun (t := 24) rfl rfl rfl (G.q (Quiet.fieldAddr rfl fo_37_1) rfl (G.grun (t := 24) rfl rfl rfl ?_))))))
    refine G.q (Quiet.load rfl ag_9 (by (repeat' constructor)) (rfl)) rfl ?_
    refine G.grun (t := 24) rfl rfl rfl ?_
    refine G.op (OpSpec.call Tryz.func51 rfl rfl (vs := [_]) rfl (rparent_spec _ ?hs22)) (by (repeat' constructor)) rfl ?nx23
    case hs22 => first | assumption | omega
    rintro v L' ⟨rfl, rfl⟩
    refine G.grun (t := 24) rfl rfl rfl ?_
    refine G.op (OpSpec.call Tryz.func69 rfl rfl (vs := [_, _]) rfl (rplace_spec x τ (parentZ y.path) (by omega))) (by (repeat' constructor)) rfl ?nx25
    rintro v L' ⟨rfl, rfl⟩
    refine G.grun (t := 24) rfl rfl rfl (G.q (Quiet.int rfl rfl rfl) rfl (G.q (Quiet.pickT rfl rfl) rfl (G.q (Quiet.assign rfl) rfl (G.nil (G.then_n (G.ret (G.blk_r (G.then_r ?_))))))))
    have hz : findsZ τ y = decide (ableZ y.path ∧ ¬ thereT τ y.path ∧ thereT τ (parentZ y.path)) := by unfold findsZ; rw [if_pos h14]
    exact G.done (l := [.tmp 4]) rfl rfl ⟨congrArg Value.bool (by rw [hz]; exact decide_eq_decide.2 ⟨fun e => ⟨h5_20, fun g => h5_24 (show 0 ≤ placeTo τ.nodes y.path from (place_iff (l := τ.nodes) (p := y.path)).2 g), (place_iff (l := τ.nodes)).1 e⟩, fun e => (place_iff (l := τ.nodes)).2 e.2.2⟩), rfl⟩ (by (repeat' constructor)) (by (repeat' constructor))
   ·refine G.kNF (t := 22) rfl h5_24 (G.kNF (t := 23) rfl h5_24 (G.gskip (t := 24) rfl rfl rfl rfl (G.gskip (t := 24) rfl rfl rfl rfl (G.gskip (t := 24) rfl rfl rfl rfl (G.gskip (t := 24) rfl rfl rfl rfl (G.gskip (t := 24) rfl rfl rfl rfl (G.gskip (t := 24) rfl rfl rfl rfl (G.q (Quiet.pickF rfl rfl) rfl (G.q (Quiet.assign rfl) rfl (G.nil (G.then_n (G.ret (G.blk_r (G.then_r ?_))))))))))))))
    have hz : findsZ τ y = decide (ableZ y.path ∧ ¬ thereT τ y.path ∧ thereT τ (parentZ y.path)) := by unfold findsZ; rw [if_pos h14]
    exact G.done (l := [.tmp 4]) rfl rfl ⟨congrArg Value.bool (by rw [hz, decide_eq_false (fun g => g.2.1 ((place_iff (l := τ.nodes) (p := y.path)).1 h5_24))]), rfl⟩ (by (repeat' constructor)) (by (repeat' constructor))
  ·refine G.kDF (t := 18) rfl h5_20 (G.kDF (t := 6) rfl h5_20 (G.kDF (t := 19) rfl h5_20 (G.gskip (t := 20) rfl rfl rfl rfl (G.gskip (t := 20) rfl rfl rfl rfl (G.q (Quiet.pickF rfl rfl) rfl (G.q (Quiet.move rfl) rfl (G.gskip (t := 24) rfl rfl rfl rfl (G.gskip (t := 24) rfl rfl rfl rfl (G.gskip (t := 24) rfl rfl rfl rfl (G.gskip (t := 24) rfl rfl rfl rfl (G.gskip (t := 24) rfl rfl rfl rfl (G.gskip (t := 24) rfl rfl rfl rfl (G.q (Quiet.pickF rfl rfl) rfl (G.q (Quiet.assign rfl) rfl (G.nil (G.then_n (G.ret (G.blk_r (G.then_r ?_)))))))))))))))))))
   have hz : findsZ τ y = decide (ableZ y.path ∧ ¬ thereT τ y.path ∧ thereT τ (parentZ y.path)) := by unfold findsZ; rw [if_pos h14]
   exact G.done (l := [.tmp 4]) rfl rfl ⟨congrArg Value.bool (by rw [hz, decide_eq_false (fun g => h5_20 g.1)]), rfl⟩ (by (repeat' constructor)) (by (repeat' constructor))
 ·refine G.seq (G.region (G.q (Quiet.int rfl rfl rfl) rfl (G.q (Quiet.assign rfl) rfl (G.nil (G.then_n ?_)))))
  refine G.condD rfl (fun h32 => ?_) (fun h32 => ?_)
  ·refine G.seq (G.region (G.q (Quiet.fieldAddr rfl fo_37_1) rfl ?_))
   refine G.q (Quiet.load rfl ag_9 (by (repeat' constructor)) (rfl)) rfl ?_
   refine G.q (Quiet.strne rfl rfl) rfl (G.q (Quiet.move rfl) rfl ?_)
   refine G.ndec (t := 37) rfl (fun h7_37 => ?_) (fun h7_37 => ?_)
   ·refine G.kNT (t := 36) rfl h7_37 (G.grun (t := 37) rfl rfl rfl (G.q (Quiet.move rfl) rfl (G.q (Quiet.pickT rfl rfl) rfl (G.q (Quiet.move rfl) rfl ?_))))
    refine G.dec (t := 40) rfl (fun h7_40 => ?_) (fun h7_40 => ?_)
    ·refine G.kDT (t := 11) rfl h7_40 (G.kDT (t := 5) rfl h7_40 (G.kDT (t := 38) rfl h7_40 (G.kDT (t := 39) rfl h7_40 (G.grun (t := 40) rfl rfl rfl (G.q (Quiet.move rfl) rfl (G.grun (t := 40) rfl rfl rfl (G.q (Quiet.fieldAddr rfl fo_37_1) rfl (G.grun (t := 40) rfl rfl rfl ?_))))))))
     refine G.q (Quiet.load rfl ag_9 (by (repeat' constructor)) (rfl)) rfl ?_
     refine G.grun (t := 40) rfl rfl rfl ?_
     refine G.op (OpSpec.call Tryz.func65 rfl rfl (vs := [_, _]) rfl (rkids_spec x τ y.path N ho (by omega))) (by (repeat' constructor)) rfl ?nx38
     rintro v L' ⟨⟨a7, c7, rfl⟩, rfl⟩
     refine G.grun (t := 40) rfl rfl rfl (G.q (Quiet.slen rfl Tryz.underlying40 rfl) rfl (G.grun (t := 40) rfl rfl rfl (G.q (Quiet.int rfl rfl rfl) rfl (G.q (Quiet.pickT rfl rfl) rfl (G.q (Quiet.assign rfl) rfl (G.nil (G.then_n (G.ret (G.blk_r (G.then_r ?_))))))))))
     have hz : findsZ τ y = decide (y.path ≠ [47] ∧ thereT τ y.path ∧ (kidsZ τ y.path).length = 0) := by unfold findsZ; rw [if_neg h14, if_pos h32]
     exact G.done (l := [.tmp 4]) rfl rfl ⟨congrArg Value.bool (by rw [hz]; exact decide_eq_decide.2 ⟨fun e => ⟨h7_37, (place_iff (l := τ.nodes) (p := y.path)).1 h7_40, by omega⟩, fun e => by have := e.2.2; omega⟩), rfl⟩ (by (repeat' constructor)) (by (repeat' constructor))
    ·refine G.kDF (t := 11) rfl h7_40 (G.kDF (t := 5) rfl h7_40 (G.kDF (t := 38) rfl h7_40 (G.kDF (t := 39) rfl h7_40 (G.gskip (t := 40) rfl rfl rfl rfl (G.gskip (t := 40) rfl rfl rfl rfl (G.gskip (t := 40) rfl rfl rfl rfl (G.gskip (t := 40) rfl rfl rfl rfl (G.gskip (t := 40) rfl rfl rfl rfl (G.gskip (t := 40) rfl rfl rfl rfl (G.q (Quiet.pickF rfl rfl) rfl (G.q (Quiet.assign rfl) rfl (G.nil (G.then_n (G.ret (G.blk_r (G.then_r ?_))))))))))))))))
     have hz : findsZ τ y = decide (y.path ≠ [47] ∧ thereT τ y.path ∧ (kidsZ τ y.path).length = 0) := by unfold findsZ; rw [if_neg h14, if_pos h32]
     exact G.done (l := [.tmp 4]) rfl rfl ⟨congrArg Value.bool (by rw [hz, decide_eq_false (fun g => h7_40 ((place_iff (l := τ.nodes) (p := y.path)).2 g.2.1))]), rfl⟩ (by (repeat' constructor)) (by (repeat' constructor))
   ·refine G.kNF (t := 36) rfl h7_37 (G.gskip (t := 37) rfl rfl rfl rfl (G.q (Quiet.pickF rfl rfl) rfl (G.q (Quiet.move rfl) rfl (G.gskip (t := 40) rfl rfl rfl rfl (G.gskip (t := 40) rfl rfl rfl rfl (G.gskip (t := 40) rfl rfl rfl rfl (G.gskip (t := 40) rfl rfl rfl rfl (G.gskip (t := 40) rfl rfl rfl rfl (G.gskip (t := 40) rfl rfl rfl rfl (G.q (Quiet.pickF rfl rfl) rfl (G.q (Quiet.assign rfl) rfl (G.nil (G.then_n (G.ret (G.blk_r (G.then_r ?_))))))))))))))))
    have hz : findsZ τ y = decide (y.path ≠ [47] ∧ thereT τ y.path ∧ (kidsZ τ y.path).length = 0) := by unfold findsZ; rw [if_neg h14, if_pos h32]
    exact G.done (l := [.tmp 4]) rfl rfl ⟨congrArg Value.bool (by rw [hz, decide_eq_false (fun g => g.1 h7_37)]), rfl⟩ (by (repeat' constructor)) (by (repeat' constructor))
  ·refine G.seq (G.seq (G.region (G.q (Quiet.int rfl rfl rfl) rfl (G.q (Quiet.assign rfl) rfl (G.nil (G.then_n ?_))))))
   refine G.dec (t := 48) rfl (fun h48 => ?_) (fun h48 => ?_)
   ·refine G.condT rfl (G.skip (G.then_n (G.condT rfl (G.seq (G.region (G.q (Quiet.move rfl) rfl (G.q (Quiet.assign rfl) rfl (G.nil (G.then_n (G.ret (G.blk_r (G.then_r ?_))))))))))))
    have hz : findsZ τ y = decide (thereT τ y.path) := by unfold findsZ; rw [if_neg h14, if_neg h32, if_pos (by omega)]
    exact G.done (l := [.tmp 4]) rfl rfl ⟨congrArg Value.bool (by rw [hz]; exact decide_eq_decide.2 (place_iff (l := τ.nodes) (p := y.path))), rfl⟩ (by (repeat' constructor)) (by (repeat' constructor))
   ·refine G.condF rfl (G.region (G.q (Quiet.int rfl rfl rfl) rfl (G.q (Quiet.assign rfl) rfl (G.nil (G.then_n ?_)))))
    refine G.dec (t := 48) rfl (fun h48 => ?_) (fun h48 => ?_)
    ·refine G.condT rfl (G.seq (G.region (G.q (Quiet.move rfl) rfl (G.q (Quiet.assign rfl) rfl (G.nil (G.then_n (G.ret (G.blk_r (G.then_r ?_)))))))))
     have hz : findsZ τ y = decide (thereT τ y.path) := by unfold findsZ; rw [if_neg h14, if_neg h32, if_pos (by omega)]
     exact G.done (l := [.tmp 4]) rfl rfl ⟨congrArg Value.bool (by rw [hz]; exact decide_eq_decide.2 (place_iff (l := τ.nodes) (p := y.path))), rfl⟩ (by (repeat' constructor)) (by (repeat' constructor))
    ·refine G.condF rfl (G.skip (G.blk_n (G.then_n (G.seq (G.region (G.q (Quiet.assign rfl) rfl (G.nil (G.then_n (G.ret ?_)))))))))
     have hz : findsZ τ y = false := by unfold findsZ; rw [if_neg h14, if_neg h32, if_neg (by omega)]
     exact G.done (l := [.tmp 4]) rfl rfl ⟨by rw [hz], rfl⟩ (by (repeat' constructor)) (by (repeat' constructor))

set_option maxRecDepth 100000 in
theorem rsound_spec (x : Nat) (τ : Tr) (zx ses xid : Int) (y : Pt) (subs : List Pt) (p : HP) (hx : TxA p y subs) (N : Nat) (ho : τ.Ok N) (hN : N + subs.length + 1 ≤ 1073741824) : Fn Tryz.prog 45 #[vptr x, .agg ([vint zx, vint ses, vint xid] ++ ptC y).toArray] [refR x τ, p] fun v L => v = .bool (soundZ τ zx y subs) ∧ L = [refR x τ, p] := by
 refine Fn.intro (vs := [vptr x, .agg ([vint zx, vint ses, vint xid] ++ ptC y).toArray]) Tryz.func45 rfl rfl ?_
 intro F W
 refine G.rdAny (p := p) hx.rd (by (repeat' constructor)) fun asb csb esub _ => ?_
 have hrd := hx.rd
 rw [esub] at hrd
 have hfs := hx.few
 have hosf := ho.sfew
 have hpl := hx.own.plen
 refine G.seq (G.region ?_)
 refine G.op (OpSpec.box rfl) (by (repeat' constructor)) rfl ?nx1
 rintro v L' ⟨be, rfl, rfl⟩
 refine G.q (Quiet.assign rfl) rfl (G.nil ?_)
 refine G.ptCast (b := be) (l' := ([vint zx, vint ses, vint xid] ++ ptC y)) (by (repeat' constructor)) rfl ?_
 refine G.then_n (G.seq (G.region (G.q (Quiet.move rfl) rfl ?_)))
 refine G.op (OpSpec.call Tryz.func91 rfl rfl (vs := [_]) rfl (rclone_spec x τ N ho (by omega))) (by (repeat' constructor)) rfl ?nx5
 rintro v L' ⟨u, rfl, rfl⟩
 refine G.q (Quiet.assign rfl) rfl (G.nil (G.then_n (G.seq (G.region (G.q (Quiet.fieldAddr rfl fo_39_3) rfl ?_)))))
 refine G.q (Quiet.loadAs (vs := ptC y) rfl ag_37 (by (repeat' constructor)) (by simp [ptC]) rfl) rfl ?_
 refine G.op (OpSpec.allocA ze_37) (by (repeat' constructor)) rfl ?nx9
 rintro v L' ⟨bx, rfl, rfl⟩
 refine G.op (OpSpec.storeA rfl rfl ?c11 sz_37 ?c14 ?c12 ?c13) (by (repeat' constructor)) rfl ?nx15
 case c11 => exact hx.own.all
 case c14 => rfl
 case c12 => simp [ptC]
 case c13 => exact nfz0 _ _
 rintro v L' rfl
 refine G.nil ?_
 refine G.ptCast (b := bx) (l' := ptC y) (by (repeat' constructor)) rfl ?_
 refine G.then_n (G.seq (G.seq (G.region (G.q (Quiet.fieldAddr rfl fo_37_0) rfl ?_))))
 refine G.q (Quiet.load rfl ag_3 (by (repeat' constructor)) (rfl)) rfl ?_
 refine G.nil (G.then_n (G.block (G.seq (G.seq (G.region (G.q (Quiet.int rfl rfl rfl) rfl (G.q (Quiet.assign rfl) rfl (G.nil (G.then_n ?_)))))))))
 refine G.dec (t := 15) rfl (fun h15 => ?_) (fun h15 => ?_)
 ·refine G.condT rfl (G.skip (G.then_n (G.condT rfl (G.seq (G.region (G.q (Quiet.move rfl) rfl ?_))))))
  refine G.q (Quiet.loadAs (vs := ptC y) rfl ag_37 (by (repeat' constructor)) (by simp [ptC]) rfl) rfl ?_
  refine G.op (OpSpec.call Tryz.func93 rfl rfl (vs := [_, _]) rfl (rfinds_spec u τ y hpl N ho (by omega))) (by (repeat' constructor)) rfl ?nx20
  rintro v L' ⟨rfl, rfl⟩
  refine G.q (Quiet.assign rfl) rfl (G.nil (G.then_n (G.ret (G.blk_r (G.then_r ?_)))))
  have hz : soundZ τ zx y subs = findsZ τ y := by unfold soundZ; rw [if_pos (by omega)]
  exact G.done (l := [.tmp 4]) rfl rfl ⟨by rw [hz], rfl⟩ (by (repeat' constructor)) (by (repeat' constructor))
 ·refine G.condF rfl (G.seq (G.region (G.q (Quiet.int rfl rfl rfl) rfl (G.q (Quiet.assign rfl) rfl (G.nil (G.then_n ?_))))))
  refine G.dec (t := 15) rfl (fun h15 => ?_) (fun h15 => ?_)
  ·refine G.condT rfl (G.skip (G.then_n (G.condT rfl (G.seq (G.region (G.q (Quiet.move rfl) rfl ?_))))))
   refine G.q (Quiet.loadAs (vs := ptC y) rfl ag_37 (by (repeat' constructor)) (by simp [ptC]) rfl) rfl ?_
   refine G.op (OpSpec.call Tryz.func93 rfl rfl (vs := [_, _]) rfl (rfinds_spec u τ y hpl N ho (by omega))) (by (repeat' constructor)) rfl ?nx24
   rintro v L' ⟨rfl, rfl⟩
   refine G.q (Quiet.assign rfl) rfl (G.nil (G.then_n (G.ret (G.blk_r (G.then_r ?_)))))
   have hz : soundZ τ zx y subs = findsZ τ y := by unfold soundZ; rw [if_pos (by omega)]
   exact G.done (l := [.tmp 4]) rfl rfl ⟨by rw [hz], rfl⟩ (by (repeat' constructor)) (by (repeat' constructor))
  ·refine G.condF rfl (G.seq (G.region (G.q (Quiet.int rfl rfl rfl) rfl (G.q (Quiet.assign rfl) rfl (G.nil (G.then_n ?_))))))
   refine G.dec (t := 15) rfl (fun h15 => ?_) (fun h15 => ?_)
   ·refine G.condT rfl (G.skip (G.then_n (G.condT rfl (G.seq (G.region (G.q (Quiet.move rfl) rfl ?_))))))
    refine G.q (Quiet.loadAs (vs := ptC y) rfl ag_37 (by (repeat' constructor)) (by simp [ptC]) rfl) rfl ?_
    refine G.op (OpSpec.call Tryz.func93 rfl rfl (vs := [_, _]) rfl (rfinds_spec u τ y hpl N ho (by omega))) (by (repeat' constructor)) rfl ?nx28
    rintro v L' ⟨rfl, rfl⟩
    refine G.q (Quiet.assign rfl) rfl (G.nil (G.then_n (G.ret (G.blk_r (G.then_r ?_)))))
    have hz : soundZ τ zx y subs = findsZ τ y := by unfold soundZ; rw [if_pos (by omega)]
    exact G.done (l := [.tmp 4]) rfl rfl ⟨by rw [hz], rfl⟩ (by (repeat' constructor)) (by (repeat' constructor))
   ·refine G.condF rfl (G.region (G.q (Quiet.int rfl rfl rfl) rfl (G.q (Quiet.assign rfl) rfl (G.nil (G.then_n ?_)))))
    refine G.dec (t := 15) rfl (fun h15 => ?_) (fun h15 => ?_)
    ·refine G.condT rfl (G.seq (G.region (G.q (Quiet.move rfl) rfl ?_)))
     refine G.q (Quiet.loadAs (vs := ptC y) rfl ag_37 (by (repeat' constructor)) (by simp [ptC]) rfl) rfl ?_
     refine G.op (OpSpec.call Tryz.func93 rfl rfl (vs := [_, _]) rfl (rfinds_spec u τ y hpl N ho (by omega))) (by (repeat' constructor)) rfl ?nx32
     rintro v L' ⟨rfl, rfl⟩
     refine G.q (Quiet.assign rfl) rfl (G.nil (G.then_n (G.ret (G.blk_r (G.then_r ?_)))))
     have hz : soundZ τ zx y subs = findsZ τ y := by unfold soundZ; rw [if_pos (by omega)]
     exact G.done (l := [.tmp 4]) rfl rfl ⟨by rw [hz], rfl⟩ (by (repeat' constructor)) (by (repeat' constructor))
    ·refine G.condF rfl (G.seq (G.seq (G.region (G.q (Quiet.int rfl rfl rfl) rfl (G.q (Quiet.assign rfl) rfl (G.nil (G.then_n ?_)))))))
     refine G.dec (t := 23) rfl (fun h23 => ?_) (fun h23 => ?_)
     ·refine G.condT rfl (G.skip (G.then_n (G.condT rfl (G.seq (G.region (G.q (Quiet.assign rfl) rfl (G.nil (G.then_n (G.block ?_)))))))))
      have hsz : soundZ τ zx y subs = soundL τ zx (decide (y.kind = 6)) subs := by unfold soundZ; rw [if_neg (by omega), if_pos (by omega)]
      refine G.rfCast (x := u) (τ' := (partsZ τ zx (subs.take 0)).1) (by (repeat' constructor)) (by rw [List.take_zero]; rfl) ?_
      refine G.loopK (ι := Nat) (fun q E => (7, vint q) :: E) (fun q => [refR u (partsZ τ zx (subs.take q)).1]) (fun q => q ≤ subs.length ∧ soundL τ zx (decide (y.kind = 6)) subs = soundL (partsZ τ zx (subs.take q)).1 zx (decide (y.kind = 6)) (subs.drop q)) (fun q => subs.length - q) (0) (ts := [3, 5, 6]) (.cons rfl (.cons rfl (.cons rfl (.nil)))) (⟨Nat.zero_le _, by rw [List.take_zero]; rfl⟩) ⟨rfl, rfl, rfl, rfl, trivial⟩ (by (repeat' constructor)) ?_
      rintro i ⟨hi, hsnd⟩
      have hok : (partsZ τ zx (subs.take i)).1.Ok (N + subs.length) := (ho.parts zx _ (fun w hw => (hx.each w (List.mem_of_mem_take hw)).few)).more (by rw [List.length_take]; omega)
      refine G.seq (G.seq (G.region (G.q (Quiet.move rfl) rfl (G.q (Quiet.fieldAddr rfl fo_37_7) rfl ?_))))
      refine G.q (Quiet.as (v' := .slice asb subs.length csb) (by exact esub) (Quiet.load rfl ag_35 (by (repeat' constructor)) (rfl))) rfl ?_
      refine G.q (Quiet.slen rfl Tryz.underlying35 rfl) rfl (G.q (Quiet.int rfl rfl rfl) rfl (G.nil (G.then_n ?_)))
      refine G.condD rfl (fun h30 => ?_) (fun h30 => ?_)
      ·have hi2 : i < subs.length := by omega
       refine G.rdShape (p := p) hrd (by (repeat' constructor)) (by omega) fun bs os e1 => ?_
       subst e1
       have hys := hx.each _ (List.getElem_mem hi2)
       refine G.skip (G.then_n (G.seq (G.block (G.seq (G.region (G.q (Quiet.move rfl) rfl (G.q (Quiet.fieldAddr rfl fo_37_7) rfl ?_)))))))
       refine G.q (Quiet.as (v' := .slice (some ⟨bs, os, none⟩) subs.length csb) (by exact esub) (Quiet.load rfl ag_35 (by (repeat' constructor)) (rfl))) rfl ?_
       refine G.q (Quiet.move rfl) rfl ?_
       refine G.q (Quiet.indexAddr rfl rfl el_35 (by omega)) rfl ?_
       refine G.q (Quiet.loadRdA (sz := 8) (j := i * 8) (k := 8) (p := p) (vs := ptC subs[i]) rfl ag_37 (by (repeat' constructor)) hrd (by simp) (by omega) (by omega) (flatMap_at (f := ptC) (sz := 8) (fun _ _ => rfl) (by omega))) rfl ?_
       refine G.op (OpSpec.call Tryz.func93 rfl rfl (vs := [_, _]) rfl (rfinds_spec u (partsZ τ zx (subs.take i)).1 subs[i] hys.plen (N + subs.length) hok (by omega))) (by (repeat' constructor)) rfl ?nx47
       rintro v L' ⟨rfl, rfl⟩
       refine G.q (Quiet.assign rfl) rfl (G.nil (G.then_n (G.seq (G.seq (G.region (G.q (Quiet.move rfl) rfl (G.q (Quiet.not rfl) rfl (G.q (Quiet.move rfl) rfl ?_))))))))
       refine G.bool (t := 42) rfl (fun h15_42 => ?_) (fun h15_42 => ?_)
       ·refine G.kB (t := 41) rfl h15_42 (G.gskip (t := 42) rfl rfl rfl rfl (G.gskip (t := 42) rfl rfl rfl rfl (G.gskip (t := 42) rfl rfl rfl rfl (G.gskip (t := 42) rfl rfl rfl rfl (G.gskipU (t := 46) rfl rfl rfl (G.gskipU (t := 46) rfl rfl rfl (G.gskipU (t := 46) rfl rfl rfl (G.gskipU (t := 46) rfl rfl rfl (G.gskipU (t := 46) rfl rfl rfl (G.gskipU (t := 46) rfl rfl rfl (G.gskipU (t := 46) rfl rfl rfl (G.gskip (t := 42) rfl rfl rfl rfl (G.q (Quiet.pickT rfl rfl) rfl (G.nil (G.then_n (G.condT rfl (G.seq (G.region (G.q (Quiet.assign rfl) rfl (G.nil (G.then_n (G.ret (G.then_r (G.blk_r (G.then_r (G.then_r (G.blk_r (G.blk_r (G.then_r ?_)))))))))))))))))))))))))))))
        have hz : soundZ τ zx y subs = false := by rw [hsz, hsnd, sound_step hi2]; simp only [Bool.not_eq_true'] at h15_42; rw [h15_42]; rfl
        exact G.done (l := [.tmp 4]) rfl rfl ⟨by rw [hz], rfl⟩ (by (repeat' constructor)) (by (repeat' constructor))
       ·refine G.kB (t := 41) rfl h15_42 (G.grun (t := 42) rfl rfl rfl (G.q (Quiet.fieldAddr rfl fo_37_0) rfl (G.grun (t := 42) rfl rfl rfl ?_)))
        refine G.q (Quiet.load rfl ag_3 (by (repeat' constructor)) (rfl)) rfl ?_
        refine G.grun (t := 42) rfl rfl rfl (G.q (Quiet.int rfl rfl rfl) rfl (G.grun (t := 42) rfl rfl rfl (G.q (Quiet.move rfl) rfl ?_)))
        refine G.dec (t := 46) rfl (fun h15_46 => ?_) (fun h15_46 => ?_)
        ·refine G.kDT (t := 45) rfl h15_46 (G.grun (t := 46) rfl rfl rfl (G.q (Quiet.fieldAddr rfl fo_37_7) rfl (G.grun (t := 46) rfl rfl rfl ?_)))
         refine G.q (Quiet.as (v' := .slice (some ⟨bs, os, none⟩) subs.length csb) (by exact esub) (Quiet.load rfl ag_35 (by (repeat' constructor)) (rfl))) rfl ?_
         refine G.grun (t := 46) rfl rfl rfl (G.q (Quiet.move rfl) rfl (G.grun (t := 46) rfl rfl rfl ?_))
         refine G.q (Quiet.indexAddr rfl rfl el_35 (by omega)) rfl ?_
         refine G.grun (t := 46) rfl rfl rfl (G.q (Quiet.fieldAddr rfl fo_37_0) rfl (G.grun (t := 46) rfl rfl rfl ?_))
         refine G.q (Quiet.loadRd (sz := 8) (j := i * 8 + 0) (p := p) rfl ag_3 (by (repeat' constructor)) hrd (by omega) ((flatMap_cell (f := ptC) (sz := 8) (l := subs) (i := i) (k := 0) (fun _ _ => rfl) (by omega) (by decide)).trans rfl)) rfl ?_
         refine G.grun (t := 46) rfl rfl rfl (G.q (Quiet.int rfl rfl rfl) rfl (G.grun (t := 42) rfl rfl rfl (G.q (Quiet.pickT rfl rfl) rfl (G.q (Quiet.pickF rfl rfl) rfl (G.nil (G.then_n ?_))))))
         refine G.condN rfl (fun h55 => ?_) (fun h55 => ?_)
         ·refine G.seq (G.region (G.q (Quiet.assign rfl) rfl (G.nil (G.then_n (G.ret (G.then_r (G.blk_r (G.then_r (G.then_r (G.blk_r (G.blk_r (G.then_r ?_))))))))))))
          have hz : soundZ τ zx y subs = false := by rw [hsz, hsnd, sound_step hi2]; rw [decide_eq_true h15_46, decide_eq_false h55]; simp
          exact G.done (l := [.tmp 4]) rfl rfl ⟨by rw [hz], rfl⟩ (by (repeat' constructor)) (by (repeat' constructor))
         ·refine G.skip (G.then_n ?_)
          refine G.draw [8] [[0, 1, 2, 3, 4, 5, 6, 7, 8]] mixed (by kernel_rfl) ?_
          refine Phases.go [] (by (repeat' constructor)) ?_
          refine D.qw [8] rfl (by kernel_rfl) (Quiet.move rfl) ?_
          refine D.qw [2, 4, 5, 8] rfl (by kernel_rfl) (Quiet.fieldAddr rfl fo_37_7) ?_
          refine D.qw [4, 5, 8] rfl (by kernel_rfl) (Quiet.as (v' := .slice (some ⟨bs, os, none⟩) subs.length csb) (by exact esub) (Quiet.load rfl ag_35 (by (repeat' constructor)) (rfl))) ?_
          refine D.qw [4, 5, 8] rfl (by kernel_rfl) (Quiet.move rfl) ?_
          refine D.qw [5, 8] rfl (by kernel_rfl) (Quiet.indexAddr rfl rfl el_35 (by omega)) ?_
          refine D.qw [8] rfl (by kernel_rfl) (Quiet.loadRdA (sz := 8) (j := i * 8) (k := 8) (p := p) (vs := ptC subs[i]) rfl ag_37 (by (repeat' constructor)) hrd (by simp) (by omega) (by omega) (flatMap_at (f := ptC) (sz := 8) (fun _ _ => rfl) (by omega))) ?_
          refine D.qw [7, 8] rfl (by kernel_rfl) (Quiet.fieldAddr rfl fo_39_0) ?_
          refine D.qw [8] rfl (by kernel_rfl) (Quiet.load rfl ag_3 (by (repeat' constructor)) (rfl)) ?_
          refine D.h rfl (by kernel_rfl) (OpSpec.call Tryz.func60 rfl rfl (vs := [_, _, _]) rfl (rpart_spec u (partsZ τ zx (subs.take i)).1 subs[i] zx p hys (N + subs.length) hok (by omega))) (by (repeat' constructor)) ?nx71
          rintro v L' ⟨a15, c15, rfl, rfl⟩
          refine D.ph (Phases.fin (G.blk_n (G.then_n (G.region (G.q (Quiet.move rfl) rfl ?_)))))
          refine G.q (Quiet.add rfl rfl (by omega)) rfl ?_
          refine G.q (Quiet.assign rfl) rfl (G.nil (G.then_n ?_))
          have htru : (findsZ (partsZ τ zx (subs.take i)).1 subs[i] && (!(decide (y.kind = 6)) || decide (subs[i].kind = 2))) = true := by have h1 : findsZ (partsZ τ zx (subs.take i)).1 subs[i] = true := (by simpa using h15_42); rw [h1, decide_eq_true (p := subs[i].kind = 2) h55]; simp
          refine G.rfCast (x := u) (τ' := (partsZ τ zx (subs.take (i + 1))).1) (by (repeat' constructor)) (by rw [List.take_succ_eq_append_getElem hi2, parts_snoc]) ?_
          exact G.roundK (i + 1) (⟨by omega, by rw [hsnd, sound_step hi2, htru, Bool.true_and]⟩) (by omega) ⟨rfl, rfl, rfl, rfl, trivial⟩ (by (repeat' constructor)) (by ((repeat (apply Have.cons; (repeat (first | exact Pick.here | apply Pick.there)))); apply Have.base; repeat' constructor))
        ·refine G.kDF (t := 45) rfl h15_46 (G.gskip (t := 46) rfl rfl rfl rfl (G.gskip (t := 46) rfl rfl rfl rfl (G.gskip (t := 46) rfl rfl rfl rfl (G.gskip (t := 46) rfl rfl rfl rfl (G.gskip (t := 46) rfl rfl rfl rfl (G.gskip (t := 46) rfl rfl rfl rfl (G.gskip (t := 46) rfl rfl rfl rfl (G.grun (t := 42) rfl rfl rfl (G.q (Quiet.pickF rfl rfl) rfl (G.q (Quiet.pickF rfl rfl) rfl (G.nil (G.then_n (G.condF rfl (G.skip (G.then_n ?_)))))))))))))))
         refine G.draw [8] [[0, 1, 2, 3, 4, 5, 6, 7, 8]] mixed (by kernel_rfl) ?_
         refine Phases.go [] (by (repeat' constructor)) ?_
         refine D.qw [8] rfl (by kernel_rfl) (Quiet.move rfl) ?_
         refine D.qw [2, 4, 5, 8] rfl (by kernel_rfl) (Quiet.fieldAddr rfl fo_37_7) ?_
         refine D.qw [4, 5, 8] rfl (by kernel_rfl) (Quiet.as (v' := .slice (some ⟨bs, os, none⟩) subs.length csb) (by exact esub) (Quiet.load rfl ag_35 (by (repeat' constructor)) (rfl))) ?_
         refine D.qw [4, 5, 8] rfl (by kernel_rfl) (Quiet.move rfl) ?_
         refine D.qw [5, 8] rfl (by kernel_rfl) (Quiet.indexAddr rfl rfl el_35 (by omega)) ?_
         refine D.qw [8] rfl (by kernel_rfl) (Quiet.loadRdA (sz := 8) (j := i * 8) (k := 8) (p := p) (vs := ptC subs[i]) rfl ag_37 (by (repeat' constructor)) hrd (by simp) (by omega) (by omega) (flatMap_at (f := ptC) (sz := 8) (fun _ _ => rfl) (by omega))) ?_
         refine D.qw [7, 8] rfl (by kernel_rfl) (Quiet.fieldAddr rfl fo_39_0) ?_
         refine D.qw [8] rfl (by kernel_rfl) (Quiet.load rfl ag_3 (by (repeat' constructor)) (rfl)) ?_
         refine D.h rfl (by kernel_rfl) (OpSpec.call Tryz.func60 rfl rfl (vs := [_, _, _]) rfl (rpart_spec u (partsZ τ zx (subs.take i)).1 subs[i] zx p hys (N + subs.length) hok (by omega))) (by (repeat' constructor)) ?nx84
         rintro v L' ⟨a15, c15, rfl, rfl⟩
         refine D.ph (Phases.fin (G.blk_n (G.then_n (G.region (G.q (Quiet.move rfl) rfl ?_)))))
         refine G.q (Quiet.add rfl rfl (by omega)) rfl ?_
         refine G.q (Quiet.assign rfl) rfl (G.nil (G.then_n ?_))
         have htru : (findsZ (partsZ τ zx (subs.take i)).1 subs[i] && (!(decide (y.kind = 6)) || decide (subs[i].kind = 2))) = true := by have h1 : findsZ (partsZ τ zx (subs.take i)).1 subs[i] = true := (by simpa using h15_42); rw [h1, decide_eq_false h15_46]; simp
         refine G.rfCast (x := u) (τ' := (partsZ τ zx (subs.take (i + 1))).1) (by (repeat' constructor)) (by rw [List.take_succ_eq_append_getElem hi2, parts_snoc]) ?_
         exact G.roundK (i + 1) (⟨by omega, by rw [hsnd, sound_step hi2, htru, Bool.true_and]⟩) (by omega) ⟨rfl, rfl, rfl, rfl, trivial⟩ (by (repeat' constructor)) (by ((repeat (apply Have.cons; (repeat (first | exact Pick.here | apply Pick.there)))); apply Have.base; repeat' constructor))
      ·have hii : i = subs.length := by omega
       refine G.exit (G.then_e (G.then_e (G.blk_e (G.blk_n (G.then_n (G.seq (G.region (G.q (Quiet.assign rfl) rfl (G.nil (G.then_n (G.ret ?_)))))))))))
       have hz : soundZ τ zx y subs = true := by rw [hsz, hsnd, hii, List.drop_length]; rfl
       exact G.done (l := [.tmp 4]) rfl rfl ⟨by rw [hz], rfl⟩ (by (repeat' constructor)) (by (repeat' constructor))
     ·refine G.condF rfl (G.region (G.q (Quiet.int rfl rfl rfl) rfl (G.q (Quiet.assign rfl) rfl (G.nil (G.then_n ?_)))))
      refine G.dec (t := 23) rfl (fun h23 => ?_) (fun h23 => ?_)
      ·refine G.condT rfl (G.seq (G.region (G.q (Quiet.assign rfl) rfl (G.nil (G.then_n (G.block ?_))))))
       have hsz : soundZ τ zx y subs = soundL τ zx (decide (y.kind = 6)) subs := by unfold soundZ; rw [if_neg (by omega), if_pos (by omega)]
       refine G.rfCast (x := u) (τ' := (partsZ τ zx (subs.take 0)).1) (by (repeat' constructor)) (by rw [List.take_zero]; rfl) ?_
       refine G.loopK (ι := Nat) (fun q E => (7, vint q) :: E) (fun q => [refR u (partsZ τ zx (subs.take q)).1]) (fun q => q ≤ subs.length ∧ soundL τ zx (decide (y.kind = 6)) subs = soundL (partsZ τ zx (subs.take q)).1 zx (decide (y.kind = 6)) (subs.drop q)) (fun q => subs.length - q) (0) (ts := [3, 5, 6]) (.cons rfl (.cons rfl (.cons rfl (.nil)))) (⟨Nat.zero_le _, by rw [List.take_zero]; rfl⟩) ⟨rfl, rfl, rfl, rfl, trivial⟩ (by (repeat' constructor)) ?_
       rintro i ⟨hi, hsnd⟩
       have hok : (partsZ τ zx (subs.take i)).1.Ok (N + subs.length) := (ho.parts zx _ (fun w hw => (hx.each w (List.mem_of_mem_take hw)).few)).more (by rw [List.length_take]; omega)
       refine G.seq (G.seq (G.region (G.q (Quiet.move rfl) rfl (G.q (Quiet.fieldAddr rfl fo_37_7) rfl ?_))))
       refine G.q (Quiet.as (v' := .slice asb subs.length csb) (by exact esub) (Quiet.load rfl ag_35 (by (repeat' constructor)) (rfl))) rfl ?_
       refine G.q (Quiet.slen rfl Tryz.underlying35 rfl) rfl (G.q (Quiet.int rfl rfl rfl) rfl (G.nil (G.then_n ?_)))
       refine G.condD rfl (fun h30 => ?_) (fun h30 => ?_)
       ·have hi2 : i < subs.length := by omega
        refine G.rdShape (p := p) hrd (by (repeat' constructor)) (by omega) fun bs os e1 => ?_
        subst e1
        have hys := hx.each _ (List.getElem_mem hi2)
        refine G.skip (G.then_n (G.seq (G.block (G.seq (G.region (G.q (Quiet.move rfl) rfl (G.q (Quiet.fieldAddr rfl fo_37_7) rfl ?_)))))))
        refine G.q (Quiet.as (v' := .slice (some ⟨bs, os, none⟩) subs.length csb) (by exact esub) (Quiet.load rfl ag_35 (by (repeat' constructor)) (rfl))) rfl ?_
        refine G.q (Quiet.move rfl) rfl ?_
        refine G.q (Quiet.indexAddr rfl rfl el_35 (by omega)) rfl ?_
        refine G.q (Quiet.loadRdA (sz := 8) (j := i * 8) (k := 8) (p := p) (vs := ptC subs[i]) rfl ag_37 (by (repeat' constructor)) hrd (by simp) (by omega) (by omega) (flatMap_at (f := ptC) (sz := 8) (fun _ _ => rfl) (by omega))) rfl ?_
        refine G.op (OpSpec.call Tryz.func93 rfl rfl (vs := [_, _]) rfl (rfinds_spec u (partsZ τ zx (subs.take i)).1 subs[i] hys.plen (N + subs.length) hok (by omega))) (by (repeat' constructor)) rfl ?nx102
        rintro v L' ⟨rfl, rfl⟩
        refine G.q (Quiet.assign rfl) rfl (G.nil (G.then_n (G.seq (G.seq (G.region (G.q (Quiet.move rfl) rfl (G.q (Quiet.not rfl) rfl (G.q (Quiet.move rfl) rfl ?_))))))))
        refine G.bool (t := 42) rfl (fun h15_42 => ?_) (fun h15_42 => ?_)
        ·refine G.kB (t := 41) rfl h15_42 (G.gskip (t := 42) rfl rfl rfl rfl (G.gskip (t := 42) rfl rfl rfl rfl (G.gskip (t := 42) rfl rfl rfl rfl (G.gskip (t := 42) rfl rfl rfl rfl (G.gskipU (t := 46) rfl rfl rfl (G.gskipU (t := 46) rfl rfl rfl (G.gskipU (t := 46) rfl rfl rfl (G.gskipU (t := 46) rfl rfl rfl (G.gskipU (t := 46) rfl rfl rfl (G.gskipU (t := 46) rfl rfl rfl (G.gskipU (t := 46) rfl rfl rfl (G.gskip (t := 42) rfl rfl rfl rfl (G.q (Quiet.pickT rfl rfl) rfl (G.nil (G.then_n (G.condT rfl (G.seq (G.region (G.q (Quiet.assign rfl) rfl (G.nil (G.then_n (G.ret (G.then_r (G.blk_r (G.then_r (G.then_r (G.blk_r (G.blk_r (G.then_r ?_)))))))))))))))))))))))))))))
         have hz : soundZ τ zx y subs = false := by rw [hsz, hsnd, sound_step hi2]; simp only [Bool.not_eq_true'] at h15_42; rw [h15_42]; rfl
         exact G.done (l := [.tmp 4]) rfl rfl ⟨by rw [hz], rfl⟩ (by (repeat' constructor)) (by (repeat' constructor))
        ·refine G.kB (t := 41) rfl h15_42 (G.grun (t := 42) rfl rfl rfl (G.q (Quiet.fieldAddr rfl fo_37_0) rfl (G.grun (t := 42) rfl rfl rfl ?_)))
         refine G.q (Quiet.load rfl ag_3 (by (repeat' constructor)) (rfl)) rfl ?_
         refine G.grun (t := 42) rfl rfl rfl (G.q (Quiet.int rfl rfl rfl) rfl (G.grun (t := 42) rfl rfl rfl (G.q (Quiet.move rfl) rfl ?_)))
         refine G.dec (t := 46) rfl (fun h15_46 => ?_) (fun h15_46 => ?_)
         ·refine G.kDT (t := 45) rfl h15_46 (G.grun (t := 46) rfl rfl rfl (G.q (Quiet.fieldAddr rfl fo_37_7) rfl (G.grun (t := 46) rfl rfl rfl ?_)))
          refine G.q (Quiet.as (v' := .slice (some ⟨bs, os, none⟩) subs.length csb) (by exact esub) (Quiet.load rfl ag_35 (by (repeat' constructor)) (rfl))) rfl ?_
          refine G.grun (t := 46) rfl rfl rfl (G.q (Quiet.move rfl) rfl (G.grun (t := 46) rfl rfl rfl ?_))
          refine G.q (Quiet.indexAddr rfl rfl el_35 (by omega)) rfl ?_
          refine G.grun (t := 46) rfl rfl rfl (G.q (Quiet.fieldAddr rfl fo_37_0) rfl (G.grun (t := 46) rfl rfl rfl ?_))
          refine G.q (Quiet.loadRd (sz := 8) (j := i * 8 + 0) (p := p) rfl ag_3 (by (repeat' constructor)) hrd (by omega) ((flatMap_cell (f := ptC) (sz := 8) (l := subs) (i := i) (k := 0) (fun _ _ => rfl) (by omega) (by decide)).trans rfl)) rfl ?_
          refine G.grun (t := 46) rfl rfl rfl (G.q (Quiet.int rfl rfl rfl) rfl (G.grun (t := 42) rfl rfl rfl (G.q (Quiet.pickT rfl rfl) rfl (G.q (Quiet.pickF rfl rfl) rfl (G.nil (G.then_n ?_))))))
          refine G.condN rfl (fun h55 => ?_) (fun h55 => ?_)
          ·refine G.seq (G.region (G.q (Quiet.assign rfl) rfl (G.nil (G.then_n (G.ret (G.then_r (G.blk_r (G.then_r (G.then_r (G.blk_r (G.blk_r (G.then_r ?_))))))))))))
           have hz : soundZ τ zx y subs = false := by rw [hsz, hsnd, sound_step hi2]; rw [decide_eq_true h15_46, decide_eq_false h55]; simp
           exact G.done (l := [.tmp 4]) rfl rfl ⟨by rw [hz], rfl⟩ (by (repeat' constructor)) (by (repeat' constructor))
          ·refine G.skip (G.then_n ?_)
           refine G.draw [8] [[0, 1, 2, 3, 4, 5, 6, 7, 8]] mixed (by kernel_rfl) ?_
           refine Phases.go [] (by (repeat' constructor)) ?_
           refine D.qw [8] rfl (by kernel_rfl) (Quiet.move rfl) ?_
           refine D.qw [2, 4, 5, 8] rfl (by kernel_rfl) (Quiet.fieldAddr rfl fo_37_7) ?_
           refine D.qw [4, 5, 8] rfl (by kernel_rfl) (Quiet.as (v' := .slice (some ⟨bs, os, none⟩) subs.length csb) (by exact esub) (Quiet.load rfl ag_35 (by (repeat' constructor)) (rfl))) ?_
           refine D.qw [4, 5, 8] rfl (by kernel_rfl) (Quiet.move rfl) ?_
           refine D.qw [5, 8] rfl (by kernel_rfl) (Quiet.indexAddr rfl rfl el_35 (by omega)) ?_
           refine D.qw [8] rfl (by kernel_rfl) (Quiet.loadRdA (sz := 8) (j := i * 8) (k := 8) (p := p) (vs := ptC subs[i]) rfl ag_37 (by (repeat' constructor)) hrd (by simp) (by omega) (by omega) (flatMap_at (f := ptC) (sz := 8) (fun _ _ => rfl) (by omega))) ?_
           refine D.qw [7, 8] rfl (by kernel_rfl) (Quiet.fieldAddr rfl fo_39_0) ?_
           refine D.qw [8] rfl (by kernel_rfl) (Quiet.load rfl ag_3 (by (repeat' constructor)) (rfl)) ?_
           refine D.h rfl (by kernel_rfl) (OpSpec.call Tryz.func60 rfl rfl (vs := [_, _, _]) rfl (rpart_spec u (partsZ τ zx (subs.take i)).1 subs[i] zx p hys (N + subs.length) hok (by omega))) (by (repeat' constructor)) ?nx126
           rintro v L' ⟨a15, c15, rfl, rfl⟩
           refine D.ph (Phases.fin (G.blk_n (G.then_n (G.region (G.q (Quiet.move rfl) rfl ?_)))))
           refine G.q (Quiet.add rfl rfl (by omega)) rfl ?_
           refine G.q (Quiet.assign rfl) rfl (G.nil (G.then_n ?_))
           have htru : (findsZ (partsZ τ zx (subs.take i)).1 subs[i] && (!(decide (y.kind = 6)) || decide (subs[i].kind = 2))) = true := by have h1 : findsZ (partsZ τ zx (subs.take i)).1 subs[i] = true := (by simpa using h15_42); rw [h1, decide_eq_true (p := subs[i].kind = 2) h55]; simp
           refine G.rfCast (x := u) (τ' := (partsZ τ zx (subs.take (i + 1))).1) (by (repeat' constructor)) (by rw [List.take_succ_eq_append_getElem hi2, parts_snoc]) ?_
           exact G.roundK (i + 1) (⟨by omega, by rw [hsnd, sound_step hi2, htru, Bool.true_and]⟩) (by omega) ⟨rfl, rfl, rfl, rfl, trivial⟩ (by (repeat' constructor)) (by ((repeat (apply Have.cons; (repeat (first | exact Pick.here | apply Pick.there)))); apply Have.base; repeat' constructor))
         ·refine G.kDF (t := 45) rfl h15_46 (G.gskip (t := 46) rfl rfl rfl rfl (G.gskip (t := 46) rfl rfl rfl rfl (G.gskip (t := 46) rfl rfl rfl rfl (G.gskip (t := 46) rfl rfl rfl rfl (G.gskip (t := 46) rfl rfl rfl rfl (G.gskip (t := 46) rfl rfl rfl rfl (G.gskip (t := 46) rfl rfl rfl rfl (G.grun (t := 42) rfl rfl rfl (G.q (Quiet.pickF rfl rfl) rfl (G.q (Quiet.pickF rfl rfl) rfl (G.nil (G.then_n (G.condF rfl (G.skip (G.then_n ?_)))))))))))))))
          refine G.draw [8] [[0, 1, 2, 3, 4, 5, 6, 7, 8]] mixed (by kernel_rfl) ?_
          refine Phases.go [] (by (repeat' constructor)) ?_
          refine D.qw [8] rfl (by kernel_rfl) (Quiet.move rfl) ?_
          refine D.qw [2, 4, 5, 8] rfl (by kernel_rfl) (Quiet.fieldAddr rfl fo_37_7) ?_
          refine D.qw [4, 5, 8] rfl (by kernel_rfl) (Quiet.as (v' := .slice (some ⟨bs, os, none⟩) subs.length csb) (by exact esub) (Quiet.load rfl ag_35 (by (repeat' constructor)) (rfl))) ?_
          refine D.qw [4, 5, 8] rfl (by kernel_rfl) (Quiet.move rfl) ?_
          refine D.qw [5, 8] rfl (by kernel_rfl) (Quiet.indexAddr rfl rfl el_35 (by omega)) ?_
          refine D.qw [8] rfl (by kernel_rfl) (Quiet.loadRdA (sz := 8) (j := i * 8) (k := 8) (p := p) (vs := ptC subs[i]) rfl ag_37 (by (repeat' constructor)) hrd (by simp) (by omega) (by omega) (flatMap_at (f := ptC) (sz := 8) (fun _ _ => rfl) (by omega))) ?_
          refine D.qw [7, 8] rfl (by kernel_rfl) (Quiet.fieldAddr rfl fo_39_0) ?_
          refine D.qw [8] rfl (by kernel_rfl) (Quiet.load rfl ag_3 (by (repeat' constructor)) (rfl)) ?_
          refine D.h rfl (by kernel_rfl) (OpSpec.call Tryz.func60 rfl rfl (vs := [_, _, _]) rfl (rpart_spec u (partsZ τ zx (subs.take i)).1 subs[i] zx p hys (N + subs.length) hok (by omega))) (by (repeat' constructor)) ?nx139
          rintro v L' ⟨a15, c15, rfl, rfl⟩
          refine D.ph (Phases.fin (G.blk_n (G.then_n (G.region (G.q (Quiet.move rfl) rfl ?_)))))
          refine G.q (Quiet.add rfl rfl (by omega)) rfl ?_
          refine G.q (Quiet.assign rfl) rfl (G.nil (G.then_n ?_))
          have htru : (findsZ (partsZ τ zx (subs.take i)).1 subs[i] && (!(decide (y.kind = 6)) || decide (subs[i].kind = 2))) = true := by have h1 : findsZ (partsZ τ zx (subs.take i)).1 subs[i] = true := (by simpa using h15_42); rw [h1, decide_eq_false h15_46]; simp
          refine G.rfCast (x := u) (τ' := (partsZ τ zx (subs.take (i + 1))).1) (by (repeat' constructor)) (by rw [List.take_succ_eq_append_getElem hi2, parts_snoc]) ?_
          exact G.roundK (i + 1) (⟨by omega, by rw [hsnd, sound_step hi2, htru, Bool.true_and]⟩) (by omega) ⟨rfl, rfl, rfl, rfl, trivial⟩ (by (repeat' constructor)) (by ((repeat (apply Have.cons; (repeat (first | exact Pick.here | apply Pick.there)))); apply Have.base; repeat' constructor))
       ·have hii : i = subs.length := by omega
        refine G.exit (G.then_e (G.then_e (G.blk_e (G.blk_n (G.then_n (G.seq (G.region (G.q (Quiet.assign rfl) rfl (G.nil (G.then_n (G.ret ?_)))))))))))
        have hz : soundZ τ zx y subs = true := by rw [hsz, hsnd, hii, List.drop_length]; rfl
        exact G.done (l := [.tmp 4]) rfl rfl ⟨by rw [hz], rfl⟩ (by (repeat' constructor)) (by (repeat' constructor))
      ·refine G.condF rfl (G.skip (G.blk_n (G.then_n (G.seq (G.region (G.q (Quiet.assign rfl) rfl (G.nil (G.then_n (G.ret ?_)))))))))
       have hz : soundZ τ zx y subs = true := by unfold soundZ; rw [if_neg (by omega), if_neg (by omega)]
       exact G.done (l := [.tmp 4]) rfl rfl ⟨by rw [hz], rfl⟩ (by (repeat' constructor)) (by (repeat' constructor))

end Go.Proofs.YtnnbelmpbmfdnaaGreatDoor

