/- Own work, some of it printed by program, texts that were built one by one and are laid one behind the other here: the document's tree: entries, and what is told: walked. | package tree: Acl, Sessions, Lay, LaySession: walked. | the document's tree: Stat, layings, Same: walked. | what a sound history tells of one path, and what its states show of it: plain. | a watch that is carried to another table: the state of the loop: plain. | law 11: Told, awake, WatchGone, WatchApart, WatchOnce: walked. | law 07: pick, Events, awake, texts, numbers: walked. | the document's tree: soundness: walked. | law 07: a part of a sound history: walked. | law 07: acts made small: walked. | law 07: transactions of a sound history: walked. | package tree: a tree and itself: walked. -/
import Derived.Test.YtnnbelmpbmfdnaaGreatDoorCMovesP3
import Derived.Test.YtnnbelmpbmfdnaaGreatDoorCMovesP2
import Derived.Test.YtnnbelmpbmfdnaaGreatDoorCMovesP0
set_option linter.unusedSimpArgs false
set_option linter.unusedVariables false
/- Own work, by program: the document's tree: entries, and what is told: walked. -/
namespace Go.Proofs.YtnnbelmpbmfdnaaGreatDoor
open Go
def applyZ0 (τ : Tr) (zx : Int) (x : Pt) (subs : List Pt) : Tr × (List Ev × Int) :=
  if x.kind = 5 then (if 0 < x.own then openS τ x.own x.num x.data else τ, ([], 0))
  else if x.kind = 6 then (dropS (partsZ τ zx (subs.filter isDel)).1 x.own, ((partsZ τ zx (subs.filter isDel)).2, 0))
  else if x.kind = 7 then ((partsZ τ zx subs).1, ((partsZ τ zx subs).2, 0))
  else if x.kind = 8 then (τ, ([], x.err))
  else ((partZ τ x zx).1, ((partZ τ x zx).2, 0))
theorem part_zx (τ : Tr) (x : Pt) (zx z : Int) : partZ (zxT τ z) x zx = (zxT (partZ τ x zx).1 z, (partZ τ x zx).2) := by
  unfold partZ createZ eraseZ
  have h : ∀ p, thereT (zxT τ z) p ↔ thereT τ p := fun p => Iff.rfl
  simp only [h]
  repeat' split
  all_goals first | rfl | contradiction
theorem parts_zx (τ : Tr) (zx z : Int) (l : List Pt) : partsZ (zxT τ z) zx l = (zxT (partsZ τ zx l).1 z, (partsZ τ zx l).2) := by
  have key : ∀ (l : List Pt) (r : Tr × List Ev), l.foldl (fun r x => ((partZ r.1 x zx).1, r.2 ++ (partZ r.1 x zx).2)) (zxT r.1 z, r.2) = (zxT (l.foldl (fun r x => ((partZ r.1 x zx).1, r.2 ++ (partZ r.1 x zx).2)) r).1 z, (l.foldl (fun r x => ((partZ r.1 x zx).1, r.2 ++ (partZ r.1 x zx).2)) r).2) := by
    intro l
    induction l with
    | nil => intro r; rfl
    | cons x l ih =>
      intro r
      rw [List.foldl_cons, List.foldl_cons]
      dsimp only
      rw [part_zx]
      exact ih ((partZ r.1 x zx).1, r.2 ++ (partZ r.1 x zx).2)
  exact key l (τ, [])
theorem apply_zx (τ : Tr) (zx : Int) (x : Pt) (subs : List Pt) : applyZ τ zx x subs = (zxT (applyZ0 τ zx x subs).1 zx, (applyZ0 τ zx x subs).2) := by
  unfold applyZ applyZ0
  dsimp only
  rw [part_zx, parts_zx, parts_zx]
  repeat' split
  all_goals rfl
set_option maxRecDepth 100000 in
theorem rapply_spec (x : Nat) (τ : Tr) (zx ses xid : Int) (y : Pt) (subs : List Pt) (p : HP) (hx : TxA p y subs) (N : Nat) (ho : τ.Ok N) (hN : N + subs.length + 1 ≤ 1073741824) : Fn Tryz.prog 26 #[vptr x, .agg ([vint zx, vint ses, vint xid] ++ ptC y).toArray] [refR x τ, p] fun v L => ∃ u e, v = .tuple #[u, vint e] ∧ e = (applyZ τ zx y subs).2.2 ∧ (∃ a c, u = .slice a (applyZ τ zx y subs).2.1.length c) ∧ L = [refR x (applyZ τ zx y subs).1, p, slR 75 3 u (applyZ τ zx y subs).2.1.length ((applyZ τ zx y subs).2.1.flatMap evC)] := by
 refine Fn.intro (vs := [vptr x, .agg ([vint zx, vint ses, vint xid] ++ ptC y).toArray]) Tryz.func26 rfl rfl ?_
 intro F W
 refine G.rdAny (p := p) hx.rd (by (repeat' constructor)) fun asb csb esub _ => ?_
 have hrd := hx.rd
 rw [esub] at hrd
 have hfs := hx.few
 have hosf := ho.sfew
 refine G.seq (G.region ?_)
 refine G.op (OpSpec.box rfl) (by (repeat' constructor)) rfl ?nx1
 rintro v L' ⟨be, rfl, rfl⟩
 refine G.q (Quiet.assign rfl) rfl (G.q (Quiet.assign rfl) rfl (G.nil ?_))
 refine G.ptCast (b := be) (l' := ([vint zx, vint ses, vint xid] ++ ptC y)) (by (repeat' constructor)) rfl ?_
 refine G.then_n (G.seq (G.region (G.q (Quiet.fieldAddr rfl fo_39_3) rfl ?_)))
 refine G.q (Quiet.loadAs (vs := ptC y) rfl ag_37 (by (repeat' constructor)) (by simp [ptC]) rfl) rfl ?_
 refine G.op (OpSpec.allocA ze_37) (by (repeat' constructor)) rfl ?nx7
 rintro v L' ⟨bx, rfl, rfl⟩
 refine G.op (OpSpec.storeA rfl rfl ?c9 sz_37 ?c12 ?c10 ?c11) (by (repeat' constructor)) rfl ?nx13
 case c9 => exact hx.own.all
 case c12 => rfl
 case c10 => simp [ptC]
 case c11 => exact nfz0 _ _
 rintro v L' rfl
 refine G.nil ?_
 refine G.ptCast (b := bx) (l' := ptC y) (by (repeat' constructor)) rfl ?_
 refine G.then_n (G.seq (G.region (G.q (Quiet.assign rfl) rfl (G.nil (G.then_n (G.seq (G.region (G.q (Quiet.assign rfl) rfl (G.nil (G.then_n (G.seq (G.seq (G.region (G.q (Quiet.fieldAddr rfl fo_37_0) rfl ?_))))))))))))))
 refine G.q (Quiet.load rfl ag_3 (by (repeat' constructor)) (rfl)) rfl ?_
 refine G.nil (G.then_n (G.block (G.seq (G.region (G.q (Quiet.int rfl rfl rfl) rfl (G.q (Quiet.assign rfl) rfl (G.nil (G.then_n ?_))))))))
 refine G.condD rfl (fun h20 => ?_) (fun h20 => ?_)
 ·refine G.seq (G.region (G.q (Quiet.fieldAddr rfl fo_37_4) rfl ?_))
  refine G.q (Quiet.load rfl ag_3 (by (repeat' constructor)) (rfl)) rfl ?_
  refine G.q (Quiet.int rfl rfl rfl) rfl (G.nil (G.then_n ?_))
  refine G.condD rfl (fun h24 => ?_) (fun h24 => ?_)
  ·refine G.region (G.q (Quiet.move rfl) rfl (G.q (Quiet.fieldAddr rfl fo_37_4) rfl ?_))
   refine G.q (Quiet.load rfl ag_3 (by (repeat' constructor)) (rfl)) rfl ?_
   refine G.q (Quiet.fieldAddr rfl fo_37_5) rfl ?_
   refine G.q (Quiet.load rfl ag_3 (by (repeat' constructor)) (rfl)) rfl ?_
   refine G.q (Quiet.fieldAddr rfl fo_37_2) rfl ?_
   refine G.q (Quiet.load rfl ag_9 (by (repeat' constructor)) (rfl)) rfl ?_
   refine G.q (Quiet.to (v' := .agg (rsC (y.own, (y.num, y.data))).toArray) (Quiet.build (us := [(0, _), (1, _), (2, _)]) fl_134 ze_134 rfl rfl (by simp [isCell])) rfl) rfl ?_
   refine G.op (OpSpec.call Tryz.func59 rfl rfl (vs := [_, _]) rfl (ropen_spec x τ y.own y.num y.data N ho (by omega))) (by (repeat' constructor)) rfl ?nx30
   rintro v L' ⟨rfl, rfl⟩
   refine G.nil (G.blk_n (G.then_n (G.seq (G.add (slR_nil 75 3) ?_))))
   have hz : (applyZ τ zx y subs) = (zxT (openS τ y.own y.num y.data) zx, ([], 0)) := by rw [apply_zx]; unfold applyZ0; rw [if_pos h20, if_pos (show 0 < y.own by omega)]
   refine G.rfOpen (x := x) (τ := (openS τ y.own y.num y.data)) (by (repeat' constructor)) fun an cn as1 cs l hl => ?_
   refine G.region (G.q (Quiet.move rfl) rfl (G.q (Quiet.fieldAddr rfl fo_39_0) rfl ?_))
   refine G.q (Quiet.load rfl ag_3 (by (repeat' constructor)) (rfl)) rfl ?_
   refine G.q (Quiet.nilp rfl) rfl (G.q (Quiet.fieldAddr rfl fo_101_2) rfl ?_)
   refine G.op (OpSpec.store rfl rfl rfl sz_3 ?c37 ?c38) (by (repeat' constructor)) rfl ?nx39
   case c37 => first | decide | (simp; omega) | simp
   case c38 => exact nfz0 _ _
   rintro v L' rfl
   refine G.nil ?_
   refine G.rfFold (x := x) (τ := (zxT (openS τ y.own y.num y.data) zx)) (l := l) hl (by (repeat' constructor)) rfl rfl rfl rfl rfl ?_
   refine G.then_n (G.seq (G.region (G.q (Quiet.move rfl) rfl (G.q (Quiet.move rfl) rfl (G.q (Quiet.assign rfl) rfl (G.q (Quiet.assign rfl) rfl (G.nil (G.then_n (G.ret ?_)))))))))
   refine G.rfCast (x := x) (τ' := (applyZ τ zx y subs).1) (by (repeat' constructor)) (by rw [hz]) ?_
   refine G.slCast (T := 75) (sz := 3) (m' := (applyZ τ zx y subs).2.1.length) (xs' := (applyZ τ zx y subs).2.1.flatMap evC) (by (repeat' constructor)) (by (rw [hz]; try rfl)) (by (rw [hz]; try rfl)) ?_
   exact G.done (l := [.tmp 4, .tmp 5]) rfl rfl ⟨_, _, rfl, by rw [hz], ⟨_, _, by (rw [hz]; try rfl)⟩, rfl⟩ (by (repeat' constructor)) (by (repeat' constructor))
  ·refine G.skip (G.blk_n (G.then_n (G.seq (G.add (slR_nil 75 3) ?_))))
   have hz : (applyZ τ zx y subs) = (zxT (τ) zx, ([], 0)) := by rw [apply_zx]; unfold applyZ0; rw [if_pos h20, if_neg (show ¬ 0 < y.own by omega)]
   refine G.rfOpen (x := x) (τ := (τ)) (by (repeat' constructor)) fun an cn as1 cs l hl => ?_
   refine G.region (G.q (Quiet.move rfl) rfl (G.q (Quiet.fieldAddr rfl fo_39_0) rfl ?_))
   refine G.q (Quiet.load rfl ag_3 (by (repeat' constructor)) (rfl)) rfl ?_
   refine G.q (Quiet.nilp rfl) rfl (G.q (Quiet.fieldAddr rfl fo_101_2) rfl ?_)
   refine G.op (OpSpec.store rfl rfl rfl sz_3 ?c45 ?c46) (by (repeat' constructor)) rfl ?nx47
   case c45 => first | decide | (simp; omega) | simp
   case c46 => exact nfz0 _ _
   rintro v L' rfl
   refine G.nil ?_
   refine G.rfFold (x := x) (τ := (zxT (τ) zx)) (l := l) hl (by (repeat' constructor)) rfl rfl rfl rfl rfl ?_
   refine G.then_n (G.seq (G.region (G.q (Quiet.move rfl) rfl (G.q (Quiet.move rfl) rfl (G.q (Quiet.assign rfl) rfl (G.q (Quiet.assign rfl) rfl (G.nil (G.then_n (G.ret ?_)))))))))
   refine G.rfCast (x := x) (τ' := (applyZ τ zx y subs).1) (by (repeat' constructor)) (by rw [hz]) ?_
   refine G.slCast (T := 75) (sz := 3) (m' := (applyZ τ zx y subs).2.1.length) (xs' := (applyZ τ zx y subs).2.1.flatMap evC) (by (repeat' constructor)) (by (rw [hz]; try rfl)) (by (rw [hz]; try rfl)) ?_
   exact G.done (l := [.tmp 4, .tmp 5]) rfl rfl ⟨_, _, rfl, by rw [hz], ⟨_, _, by (rw [hz]; try rfl)⟩, rfl⟩ (by (repeat' constructor)) (by (repeat' constructor))
 ·refine G.seq (G.seq (G.region ?_))
  rcases Decidable.em (y.kind = 6) with hk6 | hk6
  ·refine G.q (Quiet.as (v' := .bool true) (by exact congrArg Value.bool (decide_eq_true hk6)) (Quiet.int rfl rfl rfl)) rfl ?_
   refine G.q (Quiet.assign rfl) rfl (G.nil (G.then_n (G.condT rfl (G.skip (G.then_n (G.condT rfl (G.seq (G.seq (G.region (G.q (Quiet.assign rfl) rfl (G.nil (G.then_n (G.block (G.add (slR_nil 75 3) ?_))))))))))))))
   refine G.rfCast (x := x) (τ' := (partsZ τ zx ((subs.take 0).filter isDel)).1) (by (repeat' constructor)) (by rw [List.take_zero]; rfl) ?_
   refine G.slCast (T := 75) (sz := 3) (m' := (partsZ τ zx ((subs.take 0).filter isDel)).2.length) (xs' := (partsZ τ zx ((subs.take 0).filter isDel)).2.flatMap evC) (by (repeat' constructor)) (by rw [List.take_zero]; rfl) (by rw [List.take_zero]; rfl) ?_
   refine G.loopK (ι := Nat × Value) (fun q E => (9, vint q.1) :: (7, q.2) :: E) (fun q => [refR x (partsZ τ zx ((subs.take q.1).filter isDel)).1, slR 75 3 q.2 (partsZ τ zx ((subs.take q.1).filter isDel)).2.length ((partsZ τ zx ((subs.take q.1).filter isDel)).2.flatMap evC)]) (fun q => q.1 ≤ subs.length ∧ ∃ a c, q.2 = .slice a (partsZ τ zx ((subs.take q.1).filter isDel)).2.length c) (fun q => subs.length - q.1) (0, .slice none 0 0) (ts := [0, 3, 4, 5, 6, 8]) (.cons rfl (.cons rfl (.cons rfl (.cons rfl (.cons rfl (.cons rfl (.nil))))))) (⟨Nat.zero_le _, none, 0, by rw [List.take_zero]; rfl⟩) ⟨rfl, rfl, rfl, rfl, rfl, rfl, rfl, rfl, trivial⟩ (by (repeat' constructor)) ?_
   rintro ⟨i, u⟩ ⟨hi, au, cu, hu⟩
   dsimp only
   dsimp only at hi hu
   subst hu
   have hev := parts_ev τ zx ((subs.take i).filter isDel)
   have hfl := List.length_filter_le isDel (subs.take i)
   rw [List.length_take] at hfl
   have hok : (partsZ τ zx ((subs.take i).filter isDel)).1.Ok (N + subs.length) := (ho.parts zx _ (fun w hw => (hx.each w (List.mem_of_mem_take (List.mem_filter.1 hw).1)).few)).more (by omega)
   refine G.seq (G.seq (G.region (G.q (Quiet.move rfl) rfl (G.q (Quiet.fieldAddr rfl fo_37_7) rfl ?_))))
   refine G.q (Quiet.as (v' := .slice asb subs.length csb) (by exact esub) (Quiet.load rfl ag_35 (by (repeat' constructor)) (rfl))) rfl ?_
   refine G.q (Quiet.slen rfl Tryz.underlying35 rfl) rfl (G.q (Quiet.int rfl rfl rfl) rfl (G.nil (G.then_n ?_)))
   refine G.condD rfl (fun h41 => ?_) (fun h41 => ?_)
   ·have hi2 : i < subs.length := by omega
    refine G.rdShape (p := p) hrd (by (repeat' constructor)) (by omega) fun bs os e1 => ?_
    subst e1
    have hys := hx.each _ (List.getElem_mem hi2)
    refine G.skip (G.then_n (G.seq (G.block (G.seq (G.region (G.q (Quiet.fieldAddr rfl fo_37_0) rfl ?_))))))
    refine G.q (Quiet.load rfl ag_3 (by (repeat' constructor)) (rfl)) rfl ?_
    refine G.q (Quiet.as (v' := .bool false) (by exact congrArg Value.bool (decide_eq_false (by omega))) (Quiet.int rfl rfl rfl)) rfl ?_
    refine G.q (Quiet.move rfl) rfl (G.grun (t := 47) rfl rfl rfl (G.q (Quiet.fieldAddr rfl fo_37_7) rfl (G.grun (t := 47) rfl rfl rfl ?_)))
    refine G.q (Quiet.as (v' := .slice (some ⟨bs, os, none⟩) subs.length csb) (by exact esub) (Quiet.load rfl ag_35 (by (repeat' constructor)) (rfl))) rfl ?_
    refine G.grun (t := 47) rfl rfl rfl (G.q (Quiet.move rfl) rfl (G.grun (t := 47) rfl rfl rfl ?_))
    refine G.q (Quiet.indexAddr rfl rfl el_35 (by omega)) rfl ?_
    refine G.grun (t := 47) rfl rfl rfl (G.q (Quiet.fieldAddr rfl fo_37_0) rfl (G.grun (t := 47) rfl rfl rfl ?_))
    refine G.q (Quiet.loadRd (sz := 8) (j := i * 8 + 0) (p := p) rfl ag_3 (by (repeat' constructor)) hrd (by omega) ((flatMap_cell (f := ptC) (sz := 8) (l := subs) (i := i) (k := 0) (fun _ _ => rfl) (by omega) (by decide)).trans rfl)) rfl ?_
    refine G.grun (t := 47) rfl rfl rfl (G.q (Quiet.int rfl rfl rfl) rfl (G.q (Quiet.pickF rfl rfl) rfl (G.nil (G.then_n ?_))))
    refine G.condD rfl (fun h55 => ?_) (fun h55 => ?_)
    ·refine G.seq ?_
     refine G.draw [8] [[0, 1, 2, 3, 4, 5, 6, 7, 8], [9]] mixed (by kernel_rfl) ?_
     refine Phases.go [] (by (repeat' constructor)) ?_
     refine D.qw [8] rfl (by kernel_rfl) (Quiet.move rfl) ?_
     refine D.qw [2, 4, 5, 8] rfl (by kernel_rfl) (Quiet.fieldAddr rfl fo_37_7) ?_
     refine D.qw [4, 5, 8] rfl (by kernel_rfl) (Quiet.as (v' := .slice (some ⟨bs, os, none⟩) subs.length csb) (by exact esub) (Quiet.load rfl ag_35 (by (repeat' constructor)) (rfl))) ?_
     refine D.qw [4, 5, 8] rfl (by kernel_rfl) (Quiet.move rfl) ?_
     refine D.qw [5, 8] rfl (by kernel_rfl) (Quiet.indexAddr rfl rfl el_35 (by omega)) ?_
     refine D.qw [8] rfl (by kernel_rfl) (Quiet.loadRdA (sz := 8) (j := i * 8) (k := 8) (p := p) (vs := ptC subs[i]) rfl ag_37 (by (repeat' constructor)) hrd (by simp) (by omega) (by omega) (flatMap_at (f := ptC) (sz := 8) (fun _ _ => rfl) (by omega))) ?_
     refine D.qw [7, 8] rfl (by kernel_rfl) (Quiet.fieldAddr rfl fo_39_0) ?_
     refine D.qw [8] rfl (by kernel_rfl) (Quiet.load rfl ag_3 (by (repeat' constructor)) (rfl)) ?_
     refine D.h rfl (by kernel_rfl) (OpSpec.call Tryz.func60 rfl rfl (vs := [_, _, _]) rfl (rpart_spec x (partsZ τ zx ((subs.take i).filter isDel)).1 subs[i] zx p hys (N + subs.length) hok (by omega))) (by (repeat' constructor)) ?nx73
     rintro v L' ⟨a15, c15, rfl, rfl⟩
     refine D.ph ?_
     refine Phases.go [] (by (repeat' constructor)) ?_
     refine D.qw [] rfl (by kernel_rfl) (Quiet.assign rfl) ?_
     refine D.ph (Phases.fin (G.then_n (G.region (G.q (Quiet.move rfl) rfl (G.q (Quiet.move rfl) rfl ?_)))))
     refine G.op (OpSpec.append (n := (partsZ τ zx ((subs.take i).filter isDel)).2.length) (m := (partZ (partsZ τ zx ((subs.take i).filter isDel)).1 subs[i] zx).2.length) (ys := (partZ (partsZ τ zx ((subs.take i).filter isDel)).1 subs[i] zx).2.flatMap evC) (p := slR 75 3 (.slice a15 (partZ (partsZ τ zx ((subs.take i).filter isDel)).1 subs[i] zx).2.length c15) (partZ (partsZ τ zx ((subs.take i).filter isDel)).1 subs[i] zx).2.length ((partZ (partsZ τ zx ((subs.take i).filter isDel)).1 subs[i] zx).2.flatMap evC)) rfl rfl rfl el_30 (.inl ⟨_, Tryz.underlying30⟩) ze_75 rfl rfl ?hc76 ?hr77 ?hb78 (by decide)) (by (repeat' constructor)) rfl ?nx79
     case hc76 => exact evC_cells _
     case hr77 => exact fun h hp => slR_rd hp
     case hb78 => have := part_ev (partsZ τ zx ((subs.take i).filter isDel)).1 subs[i] zx; omega
     rintro v L' ⟨⟨a16_2, c16_2, rfl⟩, rfl⟩
     refine G.q (Quiet.assign rfl) rfl (G.nil (G.blk_n (G.then_n (G.region (G.q (Quiet.move rfl) rfl ?_)))))
     refine G.q (Quiet.add rfl rfl (by omega)) rfl ?_
     refine G.q (Quiet.assign rfl) rfl (G.nil (G.then_n ?_))
     have hst := filter_take_yes (f := isDel) hi2 (by unfold isDel; rw [decide_eq_true h55])
     refine G.rfCast (x := x) (τ' := (partsZ τ zx ((subs.take (i + 1)).filter isDel)).1) (by (repeat' constructor)) (by rw [hst, parts_snoc]) ?_
     refine G.slCast (T := 75) (sz := 3) (m' := (partsZ τ zx ((subs.take (i + 1)).filter isDel)).2.length) (xs' := (partsZ τ zx ((subs.take (i + 1)).filter isDel)).2.flatMap evC) (by (repeat' constructor)) (by rw [hst, parts_snoc]; simp) (by rw [hst, parts_snoc]; simp) ?_
     exact G.roundK ((i + 1, .slice a16_2 ((partsZ τ zx ((subs.take i).filter isDel)).2.length + (partZ (partsZ τ zx ((subs.take i).filter isDel)).1 subs[i] zx).2.length) c16_2)) (⟨by dsimp only; omega, _, _, by rw [hst, parts_snoc, List.length_append]⟩) (by dsimp only; omega) ⟨rfl, rfl, rfl, rfl, rfl, rfl, rfl, rfl, trivial⟩ (by (repeat' constructor)) (by ((repeat (apply Have.cons; (repeat (first | exact Pick.here | apply Pick.there)))); apply Have.base; repeat' constructor))
    ·refine G.skip (G.blk_n (G.then_n (G.region (G.q (Quiet.move rfl) rfl ?_))))
     refine G.q (Quiet.add rfl rfl (by omega)) rfl ?_
     refine G.q (Quiet.assign rfl) rfl (G.nil (G.then_n ?_))
     have hst := filter_take_no (f := isDel) hi2 (by unfold isDel; rw [decide_eq_false h55])
     refine G.rfCast (x := x) (τ' := (partsZ τ zx ((subs.take (i + 1)).filter isDel)).1) (by (repeat' constructor)) (by rw [hst]) ?_
     refine G.slCast (T := 75) (sz := 3) (m' := (partsZ τ zx ((subs.take (i + 1)).filter isDel)).2.length) (xs' := (partsZ τ zx ((subs.take (i + 1)).filter isDel)).2.flatMap evC) (by (repeat' constructor)) (by rw [hst]) (by rw [hst]) ?_
     exact G.roundK ((i + 1, .slice au (partsZ τ zx ((subs.take i).filter isDel)).2.length cu)) (⟨by dsimp only; omega, _, _, by rw [hst]⟩) (by dsimp only; omega) ⟨rfl, rfl, rfl, rfl, rfl, rfl, rfl, rfl, trivial⟩ (by (repeat' constructor)) (by ((repeat (apply Have.cons; (repeat (first | exact Pick.here | apply Pick.there)))); apply Have.base; repeat' constructor))
   ·have hii : i = subs.length := by omega
    rw [hii, List.take_length]
    refine G.exit (G.then_e (G.then_e (G.blk_e (G.then_n (G.seq (G.region (G.q (Quiet.fieldAddr rfl fo_37_0) rfl ?_)))))))
    refine G.q (Quiet.load rfl ag_3 (by (repeat' constructor)) (rfl)) rfl ?_
    refine G.q (Quiet.as (v' := .bool true) (by exact congrArg Value.bool (decide_eq_true hk6)) (Quiet.int rfl rfl rfl)) rfl ?_
    refine G.nil (G.then_n (G.condT rfl (G.region (G.q (Quiet.move rfl) rfl (G.q (Quiet.fieldAddr rfl fo_37_4) rfl ?_)))))
    refine G.q (Quiet.load rfl ag_3 (by (repeat' constructor)) (rfl)) rfl ?_
    refine G.op (OpSpec.call Tryz.func61 rfl rfl (vs := [_, _]) rfl (rdrop_spec x (partsZ τ zx (subs.filter isDel)).1 y.own (by have := (ho.parts zx (subs.filter isDel) (fun w hw => (hx.each w (List.mem_filter.1 hw).1).few)).sfew; have := List.length_filter_le isDel subs; omega))) (by (repeat' constructor)) rfl ?nx91
    rintro v L' ⟨rfl, rfl⟩
    refine G.nil (G.blk_n (G.then_n (G.seq ?_)))
    have hz : (applyZ τ zx y subs) = (zxT (dropS (partsZ τ zx (subs.filter isDel)).1 y.own) zx, ((partsZ τ zx (subs.filter isDel)).2, 0)) := by rw [apply_zx]; unfold applyZ0; rw [if_neg h20, if_pos hk6]
    refine G.rfOpen (x := x) (τ := (dropS (partsZ τ zx (subs.filter isDel)).1 y.own)) (by (repeat' constructor)) fun an cn as1 cs l hl => ?_
    refine G.region (G.q (Quiet.move rfl) rfl (G.q (Quiet.fieldAddr rfl fo_39_0) rfl ?_))
    refine G.q (Quiet.load rfl ag_3 (by (repeat' constructor)) (rfl)) rfl ?_
    refine G.q (Quiet.nilp rfl) rfl (G.q (Quiet.fieldAddr rfl fo_101_2) rfl ?_)
    refine G.op (OpSpec.store rfl rfl rfl sz_3 ?c98 ?c99) (by (repeat' constructor)) rfl ?nx100
    case c98 => first | decide | (simp; omega) | simp
    case c99 => exact nfz0 _ _
    rintro v L' rfl
    refine G.nil ?_
    refine G.rfFold (x := x) (τ := (zxT (dropS (partsZ τ zx (subs.filter isDel)).1 y.own) zx)) (l := l) hl (by (repeat' constructor)) rfl rfl rfl rfl rfl ?_
    refine G.then_n (G.seq (G.region (G.q (Quiet.move rfl) rfl (G.q (Quiet.move rfl) rfl (G.q (Quiet.assign rfl) rfl (G.q (Quiet.assign rfl) rfl (G.nil (G.then_n (G.ret ?_)))))))))
    refine G.rfCast (x := x) (τ' := (applyZ τ zx y subs).1) (by (repeat' constructor)) (by rw [hz]) ?_
    refine G.slCast (T := 75) (sz := 3) (m' := (applyZ τ zx y subs).2.1.length) (xs' := (applyZ τ zx y subs).2.1.flatMap evC) (by (repeat' constructor)) (by (rw [hz]; try rfl)) (by (rw [hz]; try rfl)) ?_
    exact G.done (l := [.tmp 4, .tmp 5]) rfl rfl ⟨_, _, rfl, by rw [hz], ⟨_, _, by (rw [hz]; try rfl)⟩, rfl⟩ (by (repeat' constructor)) (by (repeat' constructor))
  ·refine G.q (Quiet.as (v' := .bool false) (by exact congrArg Value.bool (decide_eq_false hk6)) (Quiet.int rfl rfl rfl)) rfl ?_
   refine G.q (Quiet.assign rfl) rfl (G.nil (G.then_n (G.condF rfl (G.region ?_))))
   rcases Decidable.em (y.kind = 7) with hk7 | hk7
   ·refine G.q (Quiet.as (v' := .bool true) (by exact congrArg Value.bool (decide_eq_true hk7)) (Quiet.int rfl rfl rfl)) rfl ?_
    refine G.q (Quiet.assign rfl) rfl (G.nil (G.then_n (G.condT rfl (G.seq (G.seq (G.region (G.q (Quiet.assign rfl) rfl (G.nil (G.then_n (G.block (G.add (slR_nil 75 3) ?_)))))))))))
    refine G.rfCast (x := x) (τ' := (partsZ τ zx (subs.take 0)).1) (by (repeat' constructor)) (by rw [List.take_zero]; rfl) ?_
    refine G.slCast (T := 75) (sz := 3) (m' := (partsZ τ zx (subs.take 0)).2.length) (xs' := (partsZ τ zx (subs.take 0)).2.flatMap evC) (by (repeat' constructor)) (by rw [List.take_zero]; rfl) (by rw [List.take_zero]; rfl) ?_
    refine G.loopK (ι := Nat × Value) (fun q E => (9, vint q.1) :: (7, q.2) :: E) (fun q => [refR x (partsZ τ zx (subs.take q.1)).1, slR 75 3 q.2 (partsZ τ zx (subs.take q.1)).2.length ((partsZ τ zx (subs.take q.1)).2.flatMap evC)]) (fun q => q.1 ≤ subs.length ∧ ∃ a c, q.2 = .slice a (partsZ τ zx (subs.take q.1)).2.length c) (fun q => subs.length - q.1) (0, .slice none 0 0) (ts := [0, 3, 4, 5, 6, 8]) (.cons rfl (.cons rfl (.cons rfl (.cons rfl (.cons rfl (.cons rfl (.nil))))))) (⟨Nat.zero_le _, none, 0, by rw [List.take_zero]; rfl⟩) ⟨rfl, rfl, rfl, rfl, rfl, rfl, rfl, rfl, trivial⟩ (by (repeat' constructor)) ?_
    rintro ⟨i, u⟩ ⟨hi, au, cu, hu⟩
    dsimp only
    dsimp only at hi hu
    subst hu
    have hev := parts_ev τ zx (subs.take i)
    have hfl := List.length_take_le i subs
    have hok : (partsZ τ zx (subs.take i)).1.Ok (N + subs.length) := (ho.parts zx _ (fun w hw => (hx.each w (List.mem_of_mem_take hw)).few)).more (by rw [List.length_take]; omega)
    refine G.seq (G.seq (G.region (G.q (Quiet.move rfl) rfl (G.q (Quiet.fieldAddr rfl fo_37_7) rfl ?_))))
    refine G.q (Quiet.as (v' := .slice asb subs.length csb) (by exact esub) (Quiet.load rfl ag_35 (by (repeat' constructor)) (rfl))) rfl ?_
    refine G.q (Quiet.slen rfl Tryz.underlying35 rfl) rfl (G.q (Quiet.int rfl rfl rfl) rfl (G.nil (G.then_n ?_)))
    refine G.condD rfl (fun h41 => ?_) (fun h41 => ?_)
    ·have hi2 : i < subs.length := by omega
     refine G.rdShape (p := p) hrd (by (repeat' constructor)) (by omega) fun bs os e1 => ?_
     subst e1
     have hys := hx.each _ (List.getElem_mem hi2)
     refine G.skip (G.then_n (G.seq (G.block (G.seq (G.region (G.q (Quiet.fieldAddr rfl fo_37_0) rfl ?_))))))
     refine G.q (Quiet.load rfl ag_3 (by (repeat' constructor)) (rfl)) rfl ?_
     refine G.q (Quiet.as (v' := .bool true) (by exact congrArg Value.bool (decide_eq_true hk7)) (Quiet.int rfl rfl rfl)) rfl ?_
     refine G.q (Quiet.move rfl) rfl (G.gskip (t := 47) rfl rfl rfl rfl (G.gskip (t := 47) rfl rfl rfl rfl (G.gskip (t := 47) rfl rfl rfl rfl (G.gskip (t := 47) rfl rfl rfl rfl (G.gskip (t := 47) rfl rfl rfl rfl (G.gskip (t := 47) rfl rfl rfl rfl (G.gskip (t := 47) rfl rfl rfl rfl (G.q (Quiet.pickT rfl rfl) rfl (G.nil (G.then_n (G.condT rfl (G.seq ?_))))))))))))
     refine G.draw [8] [[0, 1, 2, 3, 4, 5, 6, 7, 8], [9]] mixed (by kernel_rfl) ?_
     refine Phases.go [] (by (repeat' constructor)) ?_
     refine D.qw [8] rfl (by kernel_rfl) (Quiet.move rfl) ?_
     refine D.qw [2, 4, 5, 8] rfl (by kernel_rfl) (Quiet.fieldAddr rfl fo_37_7) ?_
     refine D.qw [4, 5, 8] rfl (by kernel_rfl) (Quiet.as (v' := .slice (some ⟨bs, os, none⟩) subs.length csb) (by exact esub) (Quiet.load rfl ag_35 (by (repeat' constructor)) (rfl))) ?_
     refine D.qw [4, 5, 8] rfl (by kernel_rfl) (Quiet.move rfl) ?_
     refine D.qw [5, 8] rfl (by kernel_rfl) (Quiet.indexAddr rfl rfl el_35 (by omega)) ?_
     refine D.qw [8] rfl (by kernel_rfl) (Quiet.loadRdA (sz := 8) (j := i * 8) (k := 8) (p := p) (vs := ptC subs[i]) rfl ag_37 (by (repeat' constructor)) hrd (by simp) (by omega) (by omega) (flatMap_at (f := ptC) (sz := 8) (fun _ _ => rfl) (by omega))) ?_
     refine D.qw [7, 8] rfl (by kernel_rfl) (Quiet.fieldAddr rfl fo_39_0) ?_
     refine D.qw [8] rfl (by kernel_rfl) (Quiet.load rfl ag_3 (by (repeat' constructor)) (rfl)) ?_
     refine D.h rfl (by kernel_rfl) (OpSpec.call Tryz.func60 rfl rfl (vs := [_, _, _]) rfl (rpart_spec x (partsZ τ zx (subs.take i)).1 subs[i] zx p hys (N + subs.length) hok (by omega))) (by (repeat' constructor)) ?nx123
     rintro v L' ⟨a15, c15, rfl, rfl⟩
     refine D.ph ?_
     refine Phases.go [] (by (repeat' constructor)) ?_
     refine D.qw [] rfl (by kernel_rfl) (Quiet.assign rfl) ?_
     refine D.ph (Phases.fin (G.then_n (G.region (G.q (Quiet.move rfl) rfl (G.q (Quiet.move rfl) rfl ?_)))))
     refine G.op (OpSpec.append (n := (partsZ τ zx (subs.take i)).2.length) (m := (partZ (partsZ τ zx (subs.take i)).1 subs[i] zx).2.length) (ys := (partZ (partsZ τ zx (subs.take i)).1 subs[i] zx).2.flatMap evC) (p := slR 75 3 (.slice a15 (partZ (partsZ τ zx (subs.take i)).1 subs[i] zx).2.length c15) (partZ (partsZ τ zx (subs.take i)).1 subs[i] zx).2.length ((partZ (partsZ τ zx (subs.take i)).1 subs[i] zx).2.flatMap evC)) rfl rfl rfl el_30 (.inl ⟨_, Tryz.underlying30⟩) ze_75 rfl rfl ?hc126 ?hr127 ?hb128 (by decide)) (by (repeat' constructor)) rfl ?nx129
     case hc126 => exact evC_cells _
     case hr127 => exact fun h hp => slR_rd hp
     case hb128 => have := part_ev (partsZ τ zx (subs.take i)).1 subs[i] zx; omega
     rintro v L' ⟨⟨a16_2, c16_2, rfl⟩, rfl⟩
     refine G.q (Quiet.assign rfl) rfl (G.nil (G.blk_n (G.then_n (G.region (G.q (Quiet.move rfl) rfl ?_)))))
     refine G.q (Quiet.add rfl rfl (by omega)) rfl ?_
     refine G.q (Quiet.assign rfl) rfl (G.nil (G.then_n ?_))
     have hst := List.take_succ_eq_append_getElem hi2
     refine G.rfCast (x := x) (τ' := (partsZ τ zx (subs.take (i + 1))).1) (by (repeat' constructor)) (by rw [hst, parts_snoc]) ?_
     refine G.slCast (T := 75) (sz := 3) (m' := (partsZ τ zx (subs.take (i + 1))).2.length) (xs' := (partsZ τ zx (subs.take (i + 1))).2.flatMap evC) (by (repeat' constructor)) (by rw [hst, parts_snoc]; simp) (by rw [hst, parts_snoc]; simp) ?_
     exact G.roundK ((i + 1, .slice a16_2 ((partsZ τ zx (subs.take i)).2.length + (partZ (partsZ τ zx (subs.take i)).1 subs[i] zx).2.length) c16_2)) (⟨by dsimp only; omega, _, _, by rw [hst, parts_snoc, List.length_append]⟩) (by dsimp only; omega) ⟨rfl, rfl, rfl, rfl, rfl, rfl, rfl, rfl, trivial⟩ (by (repeat' constructor)) (by ((repeat (apply Have.cons; (repeat (first | exact Pick.here | apply Pick.there)))); apply Have.base; repeat' constructor))
    ·have hii : i = subs.length := by omega
     rw [hii, List.take_length]
     refine G.exit (G.then_e (G.then_e (G.blk_e (G.then_n (G.seq (G.region (G.q (Quiet.fieldAddr rfl fo_37_0) rfl ?_)))))))
     refine G.q (Quiet.load rfl ag_3 (by (repeat' constructor)) (rfl)) rfl ?_
     refine G.q (Quiet.as (v' := .bool false) (by exact congrArg Value.bool (decide_eq_false (by omega))) (Quiet.int rfl rfl rfl)) rfl ?_
     refine G.nil (G.then_n (G.condF rfl (G.skip (G.blk_n (G.then_n (G.seq ?_))))))
     have hz : (applyZ τ zx y subs) = (zxT ((partsZ τ zx subs).1) zx, ((partsZ τ zx subs).2, 0)) := by rw [apply_zx]; unfold applyZ0; rw [if_neg h20, if_neg hk6, if_pos hk7]
     refine G.rfOpen (x := x) (τ := ((partsZ τ zx subs).1)) (by (repeat' constructor)) fun an cn as1 cs l hl => ?_
     refine G.region (G.q (Quiet.move rfl) rfl (G.q (Quiet.fieldAddr rfl fo_39_0) rfl ?_))
     refine G.q (Quiet.load rfl ag_3 (by (repeat' constructor)) (rfl)) rfl ?_
     refine G.q (Quiet.nilp rfl) rfl (G.q (Quiet.fieldAddr rfl fo_101_2) rfl ?_)
     refine G.op (OpSpec.store rfl rfl rfl sz_3 ?c141 ?c142) (by (repeat' constructor)) rfl ?nx143
     case c141 => first | decide | (simp; omega) | simp
     case c142 => exact nfz0 _ _
     rintro v L' rfl
     refine G.nil ?_
     refine G.rfFold (x := x) (τ := (zxT ((partsZ τ zx subs).1) zx)) (l := l) hl (by (repeat' constructor)) rfl rfl rfl rfl rfl ?_
     refine G.then_n (G.seq (G.region (G.q (Quiet.move rfl) rfl (G.q (Quiet.move rfl) rfl (G.q (Quiet.assign rfl) rfl (G.q (Quiet.assign rfl) rfl (G.nil (G.then_n (G.ret ?_)))))))))
     refine G.rfCast (x := x) (τ' := (applyZ τ zx y subs).1) (by (repeat' constructor)) (by rw [hz]) ?_
     refine G.slCast (T := 75) (sz := 3) (m' := (applyZ τ zx y subs).2.1.length) (xs' := (applyZ τ zx y subs).2.1.flatMap evC) (by (repeat' constructor)) (by (rw [hz]; try rfl)) (by (rw [hz]; try rfl)) ?_
     exact G.done (l := [.tmp 4, .tmp 5]) rfl rfl ⟨_, _, rfl, by rw [hz], ⟨_, _, by (rw [hz]; try rfl)⟩, rfl⟩ (by (repeat' constructor)) (by (repeat' constructor))
   ·refine G.q (Quiet.as (v' := .bool false) (by exact congrArg Value.bool (decide_eq_false hk7)) (Quiet.int rfl rfl rfl)) rfl ?_
    refine G.q (Quiet.assign rfl) rfl (G.nil (G.then_n (G.condF rfl (G.seq (G.region (G.q (Quiet.int rfl rfl rfl) rfl (G.q (Quiet.assign rfl) rfl (G.nil (G.then_n ?_)))))))))
    refine G.condD rfl (fun h75 => ?_) (fun h75 => ?_)
    ·refine G.region (G.q (Quiet.fieldAddr rfl fo_37_6) rfl ?_)
     refine G.q (Quiet.load rfl ag_31 (by (repeat' constructor)) (rfl)) rfl ?_
     refine G.q (Quiet.assign rfl) rfl (G.nil (G.blk_n (G.then_n (G.seq (G.add (slR_nil 75 3) ?_)))))
     have hz : (applyZ τ zx y subs) = (zxT (τ) zx, ([], y.err)) := by rw [apply_zx]; unfold applyZ0; rw [if_neg h20, if_neg hk6, if_neg hk7, if_pos h75]
     refine G.rfOpen (x := x) (τ := (τ)) (by (repeat' constructor)) fun an cn as1 cs l hl => ?_
     refine G.region (G.q (Quiet.move rfl) rfl (G.q (Quiet.fieldAddr rfl fo_39_0) rfl ?_))
     refine G.q (Quiet.load rfl ag_3 (by (repeat' constructor)) (rfl)) rfl ?_
     refine G.q (Quiet.nilp rfl) rfl (G.q (Quiet.fieldAddr rfl fo_101_2) rfl ?_)
     refine G.op (OpSpec.store rfl rfl rfl sz_3 ?c155 ?c156) (by (repeat' constructor)) rfl ?nx157
     case c155 => first | decide | (simp; omega) | simp
     case c156 => exact nfz0 _ _
     rintro v L' rfl
     refine G.nil ?_
     refine G.rfFold (x := x) (τ := (zxT (τ) zx)) (l := l) hl (by (repeat' constructor)) rfl rfl rfl rfl rfl ?_
     refine G.then_n (G.seq (G.region (G.q (Quiet.move rfl) rfl (G.q (Quiet.move rfl) rfl (G.q (Quiet.assign rfl) rfl (G.q (Quiet.assign rfl) rfl (G.nil (G.then_n (G.ret ?_)))))))))
     refine G.rfCast (x := x) (τ' := (applyZ τ zx y subs).1) (by (repeat' constructor)) (by rw [hz]) ?_
     refine G.slCast (T := 75) (sz := 3) (m' := (applyZ τ zx y subs).2.1.length) (xs' := (applyZ τ zx y subs).2.1.flatMap evC) (by (repeat' constructor)) (by (rw [hz]; try rfl)) (by (rw [hz]; try rfl)) ?_
     exact G.done (l := [.tmp 4, .tmp 5]) rfl rfl ⟨_, _, rfl, by rw [hz], ⟨_, _, by (rw [hz]; try rfl)⟩, rfl⟩ (by (repeat' constructor)) (by (repeat' constructor))
    ·refine G.region (G.q (Quiet.move rfl) rfl ?_)
     refine G.q (Quiet.loadAs (vs := ptC y) rfl ag_37 (by (repeat' constructor)) (by simp [ptC]) rfl) rfl ?_
     refine G.q (Quiet.fieldAddr rfl fo_39_0) rfl ?_
     refine G.q (Quiet.load rfl ag_3 (by (repeat' constructor)) (rfl)) rfl ?_
     refine G.op (OpSpec.call Tryz.func60 rfl rfl (vs := [_, _, _]) rfl (rpart_spec x τ y zx p hx.own N ho (by omega))) (by (repeat' constructor)) rfl ?nx162
     rintro v L' ⟨a5, c5, rfl, rfl⟩
     refine G.q (Quiet.assign rfl) rfl (G.nil (G.blk_n (G.then_n (G.seq ?_))))
     have hz : (applyZ τ zx y subs) = (zxT ((partZ τ y zx).1) zx, ((partZ τ y zx).2, 0)) := by rw [apply_zx]; unfold applyZ0; rw [if_neg h20, if_neg hk6, if_neg hk7, if_neg h75]
     refine G.rfOpen (x := x) (τ := ((partZ τ y zx).1)) (by (repeat' constructor)) fun an cn as1 cs l hl => ?_
     refine G.region (G.q (Quiet.move rfl) rfl (G.q (Quiet.fieldAddr rfl fo_39_0) rfl ?_))
     refine G.q (Quiet.load rfl ag_3 (by (repeat' constructor)) (rfl)) rfl ?_
     refine G.q (Quiet.nilp rfl) rfl (G.q (Quiet.fieldAddr rfl fo_101_2) rfl ?_)
     refine G.op (OpSpec.store rfl rfl rfl sz_3 ?c169 ?c170) (by (repeat' constructor)) rfl ?nx171
     case c169 => first | decide | (simp; omega) | simp
     case c170 => exact nfz0 _ _
     rintro v L' rfl
     refine G.nil ?_
     refine G.rfFold (x := x) (τ := (zxT ((partZ τ y zx).1) zx)) (l := l) hl (by (repeat' constructor)) rfl rfl rfl rfl rfl ?_
     refine G.then_n (G.seq (G.region (G.q (Quiet.move rfl) rfl (G.q (Quiet.move rfl) rfl (G.q (Quiet.assign rfl) rfl (G.q (Quiet.assign rfl) rfl (G.nil (G.then_n (G.ret ?_)))))))))
     refine G.rfCast (x := x) (τ' := (applyZ τ zx y subs).1) (by (repeat' constructor)) (by rw [hz]) ?_
     refine G.slCast (T := 75) (sz := 3) (m' := (applyZ τ zx y subs).2.1.length) (xs' := (applyZ τ zx y subs).2.1.flatMap evC) (by (repeat' constructor)) (by (rw [hz]; try rfl)) (by (rw [hz]; try rfl)) ?_
     exact G.done (l := [.tmp 4, .tmp 5]) rfl rfl ⟨_, _, rfl, by rw [hz], ⟨_, _, by (rw [hz]; try rfl)⟩, rfl⟩ (by (repeat' constructor)) (by (repeat' constructor))

end Go.Proofs.YtnnbelmpbmfdnaaGreatDoor

/- Own work, by program: package tree: Acl, Sessions, Lay, LaySession: walked. -/
namespace Go.Proofs.YtnnbelmpbmfdnaaGreatDoor
open Go
def aclD (τ : Tr) (p : Bs) : List Ac := ((alook τ.nodes p).map (·.acl)).getD []
def idsZ (τ : Tr) : List Int := τ.sess.map (·.1)
theorem sortI_id {l : List Int} (h : l.Pairwise (· < ·)) : sortI l = l := by
  unfold sortI
  refine List.mergeSort_of_pairwise (h.imp fun hab => ?_)
  simp only [decide_eq_true_eq]; omega
theorem TrI.ids {τ : Tr} {m : NmM} {s : SsM} (h : TrI τ m s) {N : Nat} (ho : τ.Ok N) : sortI (s.map (·.1)) = idsZ τ := by
  have hp : (s.map (·.1)).Perm (idsZ τ) := (h.sperm ho).map _
  unfold sortI
  rw [mergeSort_of_perm_i hp]
  exact sortI_id ho.ssorted
def laidN (d : Bs) (acl : List Ac) (s : Stt) : Nd := ⟨d, acl, { s with len := 0, kids := 0 }⟩
def layZ (τ : Tr) (p d : Bs) (acl : List Ac) (s : Stt) : Tr := if checkZ p = 0 then { τ with nodes := sset τ.nodes p (laidN d acl s) } else τ
theorem check_able {p : Bs} (h : checkZ p = 0) : p = [47] ∨ ableZ p := by
  by_cases e : p = [47]
  · exact .inl e
  · exact .inr ⟨e, h⟩
theorem Tr.Ok.layZ {τ : Tr} {N : Nat} (h : τ.Ok N) (p d : Bs) {acl : List Ac} (s : Stt) (ha : acl.length ≤ 1048576) : (layZ τ p d acl s).Ok (N + 1) := by
  unfold Go.Proofs.YtnnbelmpbmfdnaaGreatDoor.layZ
  split
  · rename_i e; exact h.lay (check_able e) _ ha
  · exact h.more (by omega)
def layS (τ : Tr) (id n : Int) (s : Bs) : Tr := if 0 < id then openS τ id n s else τ
end Go.Proofs.YtnnbelmpbmfdnaaGreatDoor

/- Own work, by program: the document's tree: Stat, layings, Same: walked. -/

namespace Go.Proofs.YtnnbelmpbmfdnaaGreatDoor
open Go
theorem stat_some {τ : Tr} {p : Bs} {n : Nd} (h : alook τ.nodes p = some n) : statD τ p = { n.st with len := n.data.length, kids := (kidsZ τ p).length } := by
  unfold statD statZ; rw [h]; rfl
end Go.Proofs.YtnnbelmpbmfdnaaGreatDoor

/- Own work: what a sound history tells of one path, and what its states show of it: plain. -/

namespace Go.Proofs.YtnnbelmpbmfdnaaGreatDoor
open Go

abbrev Sp := Option (Int × Int × Int)
def stp (τ : Tr) (p : Bs) : Sp := (alook τ.nodes p).map fun n => (n.st.cz, n.st.mz, n.st.pz)
def kindsAt (p : Bs) (es : List Ev) : List Int := (es.filter fun e => decide (e.2.1 = p)).map (·.1)
theorem kindsAt_app (p : Bs) (a b : List Ev) : kindsAt p (a ++ b) = kindsAt p a ++ kindsAt p b := by unfold kindsAt; rw [List.filter_append, List.map_append]
/-- One sound part, seen from a path. -/
def Stp1 (z : Int) (s : Sp) (E : List Int) (s' : Sp) : Prop :=
  (E = [] ∧ s' = s) ∨ (E = [1] ∧ s = none ∧ s' = some (z, z, z)) ∨ (E = [4] ∧ ∃ c m q, s = some (c, m, q) ∧ s' = some (c, m, z)) ∨ (E = [2] ∧ (∃ c m q, s = some (c, m, q)) ∧ s' = none) ∨ (E = [3] ∧ ∃ c m q, s = some (c, m, q) ∧ s' = some (c, z, q))
theorem stp_some {τ : Tr} {p : Bs} (h : thereT τ p) : ∃ c m q, stp τ p = some (c, m, q) := by
  obtain ⟨n, hn⟩ := there_some.1 h
  exact ⟨n.st.cz, n.st.mz, n.st.pz, by unfold stp; rw [hn]; rfl⟩
theorem stp_none {τ : Tr} {p : Bs} (h : ¬ thereT τ p) : stp τ p = none := by
  unfold thereT at h; unfold stp
  cases e : alook τ.nodes p with
  | none => rfl
  | some n => rw [e] at h; exact absurd rfl h
theorem stp_there {τ : Tr} {p : Bs} : thereT τ p ↔ stp τ p ≠ none := by
  constructor
  · intro h e; obtain ⟨c, m, q, g⟩ := stp_some h; rw [e] at g; cases g
  · intro h; by_cases g : thereT τ p
    · exact g
    · exact absurd (stp_none g) h
theorem map_core {o : Option Nd} {f : Nd → Nd} (hf : ∀ n, ((f n).st.cz, (f n).st.mz, (f n).st.pz) = (n.st.cz, n.st.mz, n.st.pz)) : (o.map f).map (fun n => (n.st.cz, n.st.mz, n.st.pz)) = o.map fun n => (n.st.cz, n.st.mz, n.st.pz) := by
  cases o with
  | none => rfl
  | some n => exact congrArg some (hf n)
theorem part_stp {τ : Tr} (hc : Cl τ) {x : Pt} {z : Int} (h : findsZ τ x = true) (p : Bs) : Stp1 z (stp τ p) (kindsAt p (partZ τ x z).2) (stp (partZ τ x z).1 p) := by
  rcases finds_kind h with ⟨h1, ha, hn, hu⟩ | ⟨h2, hr, ht, hk⟩ | ⟨h3, ht⟩
  · have hne : parentZ x.path ≠ x.path := fun e => by have := parent_lt ha; rw [e] at this; exact linB.irr _ this
    have hev : (partZ τ x z).2 = [(1, (x.path, z)), (4, (parentZ x.path, z))] := by
      unfold partZ createZ; rw [if_pos h1, if_pos ⟨ha, hu⟩, if_neg hn]
    rw [hev]
    unfold stp
    rw [create_at h1 ha hu]
    by_cases e1 : p = parentZ x.path
    · subst e1
      rw [if_pos rfl, if_neg hne]
      obtain ⟨n, hn'⟩ := there_some.1 hu
      rw [hn']
      refine .inr (.inr (.inl ⟨?_, n.st.cz, n.st.mz, n.st.pz, rfl, rfl⟩))
      unfold kindsAt
      rw [List.filter_cons_of_neg (by simpa using fun e => hne e.symm), List.filter_cons_of_pos (by simp)]
      rfl
    · rw [if_neg e1]
      by_cases e2 : p = x.path
      · subst e2
        rw [if_pos rfl]
        refine .inr (.inl ⟨?_, stp_none hn, rfl⟩)
        unfold kindsAt
        rw [List.filter_cons_of_pos (by simp), List.filter_cons_of_neg (by simpa using hne)]
        rfl
      · rw [if_neg e2]
        refine .inl ⟨?_, rfl⟩
        unfold kindsAt
        rw [List.filter_cons_of_neg (by simpa using fun e => e2 e.symm), List.filter_cons_of_neg (by simpa using fun e => e1 e.symm)]
        rfl
  · have ha := hc.able _ ht hr
    have hne : parentZ x.path ≠ x.path := fun e => by have := parent_lt ha; rw [e] at this; exact linB.irr _ this
    have hu := hc.closed _ ht hr
    have hhit : ∀ q, thereT τ q → (hitT q x.path = true ↔ q = x.path) := fun q hq => ⟨no_below hc ha hk _ q (Nat.le_refl _) hq, fun e => by subst e; unfold hitT; rw [decide_eq_true rfl]; rfl⟩
    have hcu : thereT (cutT τ x.path) (parentZ x.path) := by
      obtain ⟨n, hn⟩ := there_some.1 hu
      refine there_some.2 ⟨n, ?_⟩
      unfold cutT
      dsimp only
      rw [al_filter (fun k => !hitT k x.path), if_pos (by cases e : hitT (parentZ x.path) x.path with
        | false => rfl
        | true => exact absurd ((hhit _ hu).1 e) hne), hn]
    have hev : (partZ τ x z).2 = [(2, (x.path, z)), (4, (parentZ x.path, z))] := by
      unfold partZ eraseZ; rw [if_neg (by omega), if_pos h2, if_pos ha, if_pos ht, if_pos hcu]
    rw [hev]
    unfold stp
    rw [erase_at h2 ha]
    by_cases e1 : p = parentZ x.path
    · subst e1
      rw [if_pos rfl]
      obtain ⟨n, hn'⟩ := there_some.1 hu
      rw [if_neg (fun e => hne ((hhit _ hu).1 e)), hn']
      refine .inr (.inr (.inl ⟨?_, n.st.cz, n.st.mz, n.st.pz, rfl, rfl⟩))
      unfold kindsAt
      rw [List.filter_cons_of_neg (by simpa using fun e => hne e.symm), List.filter_cons_of_pos (by simp)]
      rfl
    · rw [if_neg e1]
      by_cases e2 : p = x.path
      · subst e2
        rw [if_pos ((hhit _ ht).2 rfl)]
        refine .inr (.inr (.inr (.inl ⟨?_, stp_some ht, rfl⟩)))
        unfold kindsAt
        rw [List.filter_cons_of_pos (by simp), List.filter_cons_of_neg (by simpa using hne)]
        rfl
      · refine .inl ⟨?_, ?_⟩
        · unfold kindsAt
          rw [List.filter_cons_of_neg (by simpa using fun e => e2 e.symm), List.filter_cons_of_neg (by simpa using fun e => e1 e.symm)]
          rfl
        · by_cases g : thereT τ p
          · rw [if_neg (fun e => e2 ((hhit _ g).1 e))]
          · have hn0 : alook τ.nodes p = none := by cases e : alook τ.nodes p with
              | none => rfl
              | some n => exact absurd (there_some.2 ⟨n, e⟩) g
            rw [hn0]; split <;> rfl
  · have hcut : ∀ k : Int, kindsAt p [(k, (x.path, z))] = if p = x.path then [k] else [] := by
      intro k
      unfold kindsAt
      by_cases e : p = x.path
      · subst e; rw [if_pos rfl, List.filter_cons_of_pos (by simp)]; rfl
      · rw [if_neg e, List.filter_cons_of_neg (by simpa using fun g => e g.symm)]; rfl
    rcases h3 with h3 | h4
    · have hev : (partZ τ x z).2 = [(3, (x.path, z))] := by
        unfold partZ; rw [if_neg (by omega), if_neg (by omega), if_pos ⟨h3, ht⟩]
      rw [hev, hcut]
      unfold stp
      rw [set_at h3 ht]
      by_cases e : p = x.path
      · subst e
        rw [if_pos rfl, if_pos rfl]
        obtain ⟨n, hn'⟩ := there_some.1 ht
        rw [hn']
        exact .inr (.inr (.inr (.inr ⟨rfl, n.st.cz, n.st.mz, n.st.pz, rfl, rfl⟩)))
      · rw [if_neg e, if_neg e]; exact .inl ⟨rfl, rfl⟩
    · have hev : (partZ τ x z).2 = [] := by
        unfold partZ; rw [if_neg (by omega), if_neg (by omega), if_neg (by rintro ⟨g, -⟩; omega), if_pos ⟨h4, ht⟩]
      rw [hev]
      unfold stp
      rw [acl_at h4 ht]
      refine .inl ⟨rfl, ?_⟩
      split
      · exact map_core fun n => rfl
      · rfl
/-- Parts, one behind the other. -/
inductive StpR (z : Int) : Sp → List Int → Sp → Prop
  | nil {s : Sp} : StpR z s [] s
  | cons {s s' s'' : Sp} {E E' : List Int} (h : Stp1 z s E s') (h' : StpR z s' E' s'') : StpR z s (E ++ E') s''
def runE : Tr → List Pz → List Ev
  | _, [] => []
  | τ, x :: l => (partZ τ x.1 x.2).2 ++ runE (partZ τ x.1 x.2).1 l
theorem run_stp : ∀ {l : List Pz} {τ : Tr} {z : Int}, Cl τ → soundR τ l → (∀ x ∈ l, x.2 = z) → ∀ p, StpR z (stp τ p) (kindsAt p (runE τ l)) (stp (runP τ l) p)
  | [], _, _, _, _, _, _ => .nil
  | x :: l, τ, z, hc, hs, hz, p => by
    show StpR z _ (kindsAt p (_ ++ _)) _
    rw [kindsAt_app]
    have hx := hz x List.mem_cons_self
    have h1 := part_stp hc (z := x.2) hs.1 p
    rw [hx] at h1
    refine .cons ?_ (run_stp (hc.part hs.1) hs.2 (fun y hy => hz y (List.mem_cons_of_mem _ hy)) p)
    rw [hx]; exact h1
theorem runE_parts (τ : Tr) (z : Int) (l : List Pt) : (partsZ τ z l).2 = runE τ (l.map fun y => (y, z)) := by
  have : ∀ (l : List Pt) (r : Tr × List Ev), (l.foldl (fun r x => ((partZ r.1 x z).1, r.2 ++ (partZ r.1 x z).2)) r).2 = r.2 ++ runE r.1 (l.map fun y => (y, z)) := by
    intro l
    induction l with
    | nil => intro r; simp [runE]
    | cons x l ih => intro r; rw [List.foldl_cons, List.map_cons, ih]; simp [runE]
  have := this l (τ, [])
  unfold partsZ
  rw [this, List.nil_append]
theorem app_evs {τ : Tr} {K : Int} {e : En} (he : EntH τ e K) : (applyZ τ e.zx e.x e.subs).2.1 = runE τ (flatE e) := by
  unfold flatE
  rcases he.shape with ⟨hs, hp⟩ | ⟨hk, -⟩ | ⟨hk, hc, -⟩ | ⟨hk, -⟩ | ⟨hk, -⟩
  · have hkk := hp.kind
    rw [if_neg (by omega)]
    unfold applyZ; dsimp only
    rw [if_neg (by omega), if_neg (by omega), if_neg (by omega), if_neg (by omega), part_zx]
    dsimp only
    by_cases h0 : e.x.kind = 0
    · rw [if_neg (by omega)]
      unfold partZ
      rw [if_neg (by omega), if_neg (by omega), if_neg (by rintro ⟨g, -⟩; omega), if_neg (by rintro ⟨g, -⟩; omega)]
      rfl
    · rw [if_pos (by omega)]; simp [runE]
  · rw [if_neg (by omega), if_neg (by omega)]
    unfold applyZ; dsimp only; rw [if_pos hk]; rfl
  · rw [if_pos (.inl hk)]
    unfold applyZ; dsimp only
    rw [if_neg (by omega), if_pos hk, filter_del hc.kinds, parts_zx, runE_parts]
  · rw [if_pos (.inr hk)]
    unfold applyZ; dsimp only
    rw [if_neg (by omega), if_neg (by omega), if_pos hk, parts_zx, runE_parts]
  · rw [if_neg (by omega), if_neg (by omega)]
    unfold applyZ; dsimp only; rw [if_neg (by omega), if_neg (by omega), if_neg (by omega), if_pos hk]; rfl
theorem flat_zx (e : En) : ∀ x ∈ flatE e, x.2 = e.zx := by
  unfold flatE
  split
  · intro x hx; obtain ⟨y, -, rfl⟩ := List.mem_map.1 hx; rfl
  · split
    · intro x hx; rw [List.mem_singleton] at hx; subst hx; rfl
    · intro x hx; cases hx
/-- An entry of a sound history, seen from a path. -/
theorem ent_stp {τ : Tr} {K : Int} {e : En} (hi : HInv τ K) (he : EntH τ e K) (p : Bs) : StpR e.zx (stp τ p) (kindsAt p (applyZ τ e.zx e.x e.subs).2.1) (stp (appE τ e) p) := by
  rw [app_evs he]
  have h := run_stp (l := flatE e) (z := e.zx) hi.cl (flat_sound he) (flat_zx e) p
  have h2 : stp (appE τ e) p = stp (runP τ (flatE e)) p := by unfold stp; rw [app_flat he]
  rw [h2]; exact h
/-! ### Watches of one path -/
def hitsK (k : Int) (E : List Int) : Bool := E.any fun e => decide (k ∈ kindsZ e)
theorem hits_app (k : Int) (a b : List Int) : hitsK k (a ++ b) = (hitsK k a || hitsK k b) := by unfold hitsK; rw [List.any_append]
/-- The stamp that a kind of watch looks at. -/
def stampK (k : Int) (s : Int × Int × Int) : Int := if k = 3 then s.2.2 else s.2.1
/-- Something that such a watch is told of has happened behind A. -/
def goneK (k A : Int) : Sp → Prop
  | none => True
  | some s => A < s.1 ∨ A < stampK k s
def sameK (k : Int) (s s' : Sp) : Prop := ∃ a b, s = some a ∧ s' = some b ∧ b.1 = a.1 ∧ stampK k b = stampK k a
theorem one_gone {k A z : Int} (hk : k = 1 ∨ k = 3) (hz : A < z) {s s' : Sp} {E : List Int} (h : Stp1 z s E s') : (goneK k A s → goneK k A s') ∧ (hitsK k E = true → goneK k A s') ∧ (hitsK k E = false → s ≠ none → sameK k s s') := by
  rcases h with ⟨rfl, rfl⟩ | ⟨rfl, rfl, rfl⟩ | ⟨rfl, c, m, q, rfl, rfl⟩ | ⟨rfl, ⟨c, m, q, rfl⟩, rfl⟩ | ⟨rfl, c, m, q, rfl, rfl⟩
  · refine ⟨id, fun g => (by cases g), fun _ hs => ?_⟩
    cases s' with
    | none => exact absurd rfl hs
    | some a => exact ⟨a, a, rfl, rfl, rfl, rfl⟩
  · exact ⟨fun _ => .inl hz, fun _ => .inl hz, fun _ hs => absurd rfl hs⟩
  · rcases hk with rfl | rfl
    · refine ⟨fun g => g, fun g => absurd g (by decide), fun _ _ => ⟨_, _, rfl, rfl, rfl, rfl⟩⟩
    · exact ⟨fun _ => .inr hz, fun _ => .inr hz, fun g => absurd g (by decide)⟩
  · exact ⟨fun _ => trivial, fun _ => trivial, fun g => absurd g (by rcases hk with rfl | rfl <;> decide)⟩
  · rcases hk with rfl | rfl
    · exact ⟨fun _ => .inr hz, fun _ => .inr hz, fun g => absurd g (by decide)⟩
    · refine ⟨fun g => g, fun g => absurd g (by decide), fun _ _ => ⟨_, _, rfl, rfl, rfl, rfl⟩⟩
theorem sameK.trans {k : Int} {s t u : Sp} (h1 : sameK k s t) (h2 : sameK k t u) : sameK k s u := by
  obtain ⟨a, b, rfl, rfl, h3, h4⟩ := h1
  obtain ⟨c, d, h5, rfl, h6, h7⟩ := h2
  cases h5
  exact ⟨a, d, rfl, rfl, h6.trans h3, h7.trans h4⟩
theorem run_gone {k A z : Int} (hk : k = 1 ∨ k = 3) (hz : A < z) {s s' : Sp} {E : List Int} (h : StpR z s E s') : (goneK k A s → goneK k A s') ∧ (hitsK k E = true → goneK k A s') ∧ (hitsK k E = false → s ≠ none → sameK k s s') := by
  induction h with
  | @nil s =>
    refine ⟨id, fun g => (by cases g), fun _ hs => ?_⟩
    cases s with
    | none => exact absurd rfl hs
    | some a => exact ⟨a, a, rfl, rfl, rfl, rfl⟩
  | cons h1 _ ih =>
    obtain ⟨a1, a2, a3⟩ := one_gone hk hz h1
    obtain ⟨b1, b2, b3⟩ := ih
    refine ⟨fun g => b1 (a1 g), fun g => ?_, fun g hs => ?_⟩
    · rw [hits_app, Bool.or_eq_true] at g
      rcases g with g | g
      · exact b1 (a2 g)
      · exact b2 g
    · rw [hits_app, Bool.or_eq_false_iff] at g
      have q := a3 g.1 hs
      refine q.trans (b3 g.2 ?_)
      obtain ⟨a, b, -, e, -⟩ := q
      rw [e]; simp
theorem run_born {z : Int} {s s' : Sp} {E : List Int} (h : StpR z s E s') : s = none → s' ≠ none → hitsK 2 E = true := by
  induction h with
  | nil => intro h1 h2; exact absurd h1 h2
  | cons h1 _ ih =>
    intro g1 g2
    rw [hits_app, Bool.or_eq_true]
    rcases h1 with ⟨rfl, rfl⟩ | ⟨rfl, -, -⟩ | ⟨-, c, m, q, rfl, -⟩ | ⟨-, ⟨c, m, q, rfl⟩, -⟩ | ⟨-, c, m, q, rfl, -⟩
    · exact .inr (ih g1 g2)
    · exact .inl (by decide)
    · cases g1
    · cases g1
    · cases g1
def leK (A : Int) : Sp → Prop
  | none => True
  | some s => s.1 ≤ A ∧ s.2.1 ≤ A ∧ s.2.2 ≤ A
theorem leK.more {A B : Int} (h : A ≤ B) {s : Sp} (hs : leK A s) : leK B s := by
  cases s with
  | none => trivial
  | some a => obtain ⟨h1, h2, h3⟩ := hs; exact ⟨by omega, by omega, by omega⟩
theorem run_le {z : Int} {s s' : Sp} {E : List Int} (h : StpR z s E s') : leK z s → leK z s' := by
  induction h with
  | nil => exact id
  | cons h1 _ ih =>
    intro g
    refine ih ?_
    rcases h1 with ⟨-, rfl⟩ | ⟨-, -, rfl⟩ | ⟨-, c, m, q, rfl, rfl⟩ | ⟨-, -, rfl⟩ | ⟨-, c, m, q, rfl, rfl⟩
    · exact g
    · exact ⟨Int.le_refl _, Int.le_refl _, Int.le_refl _⟩
    · exact ⟨g.1, g.2.1, Int.le_refl _⟩
    · trivial
    · exact ⟨g.1, Int.le_refl _, g.2.2⟩
/-! ### One history -/
def tauI (l : List En) (i : Nat) : Tr := appL newT (l.take i)
def evsI (l : List En) (i : Nat) : List Ev := (applyZ (tauI l i) (l.getD i (enS 0 0 [] [] 0)).zx (l.getD i (enS 0 0 [] [] 0)).x (l.getD i (enS 0 0 [] [] 0)).subs).2.1
def hitI (l : List En) (p : Bs) (k : Int) (i : Nat) : Bool := hitsK k (kindsAt p (evsI l i))
def hitF (l : List En) (p : Bs) (k : Int) (a b : Nat) : Bool := (List.range b).any fun j => decide (a ≤ j) && hitI l p k j
theorem hitF_succ (l : List En) (p : Bs) (k : Int) {a b : Nat} (h : a ≤ b) : hitF l p k a (b + 1) = (hitF l p k a b || hitI l p k b) := by
  unfold hitF
  rw [List.range_succ, List.any_append]
  simp [h]
theorem hitF_self (l : List En) (p : Bs) (k : Int) (a : Nat) : hitF l p k a a = false := by
  unfold hitF
  rw [List.any_eq_false]
  intro j hj
  have := List.mem_range.1 hj
  simp; omega
theorem getD_in {l : List En} {i : Nat} (hi : i < l.length) {d : En} : l.getD i d = l[i] := by rw [List.getD_eq_getElem?_getD, List.getElem?_eq_getElem hi]; rfl
section
variable {z0 : Int} {l : List En} {τ : Tr}
theorem hist_stp (h : Hist z0 l τ) (p : Bs) {i : Nat} (hi : i < l.length) : StpR (z0 + i) (stp (tauI l i) p) (kindsAt p (evsI l i)) (stp (tauI l (i + 1)) p) := by
  obtain ⟨he, hz⟩ := h.at i hi
  have hinv := (h.take i (by omega)).inv
  rw [List.length_take, Nat.min_eq_left (by omega)] at hinv
  have q := ent_stp hinv he p
  unfold evsI tauI
  rw [getD_in hi, appL_step _ hi, ← hz]
  exact q
theorem hist_le (h : Hist z0 l τ) (hz : 0 < z0) (p : Bs) : ∀ i, i ≤ l.length → leK (z0 + i - 1) (stp (tauI l i) p)
  | 0, _ => by
    unfold tauI stp
    rw [List.take_zero]
    show leK _ ((alook [([47], (⟨[], _, st0⟩ : Nd))] p).map _)
    unfold alook
    split
    · refine ⟨?_, ?_, ?_⟩ <;> show (0 : Int) ≤ _ <;> simp <;> omega
    · trivial
  | i + 1, hi => by
    have q := run_le (hist_stp h p (i := i) (by omega)) ((hist_le h hz p i (by omega)).more (by omega))
    exact q.more (by omega)
theorem hist_gone (h : Hist z0 l τ) (p : Bs) {k : Int} (hk : k = 1 ∨ k = 3) {d : Nat} (hth : thereT (tauI l d) p) : ∀ n, d + n ≤ l.length → (hitF l p k d (d + n) = true → goneK k (z0 + d - 1) (stp (tauI l (d + n)) p)) ∧ (hitF l p k d (d + n) = false → sameK k (stp (tauI l d) p) (stp (tauI l (d + n)) p))
  | 0, _ => by
    refine ⟨fun g => (by rw [Nat.add_zero, hitF_self] at g; cases g), fun _ => ?_⟩
    obtain ⟨c, m, q, e⟩ := stp_some hth
    exact ⟨(c, m, q), (c, m, q), e, e, rfl, rfl⟩
  | n + 1, hn => by
    obtain ⟨i1, i2⟩ := hist_gone h p hk hth n (by omega)
    obtain ⟨g1, g2, g3⟩ := run_gone (k := k) (A := z0 + d - 1) hk (by omega) (hist_stp h p (i := d + n) (by omega))
    have e := hitF_succ l p k (a := d) (b := d + n) (by omega)
    refine ⟨fun g => ?_, fun g => ?_⟩
    · rw [show d + (n + 1) = d + n + 1 from rfl, e, Bool.or_eq_true] at g
      rcases g with g | g
      · exact g1 (i1 g)
      · exact g2 g
    · rw [show d + (n + 1) = d + n + 1 from rfl, e, Bool.or_eq_false_iff] at g
      have q := i2 g.1
      refine q.trans (g3 g.2 ?_)
      obtain ⟨a, b, -, e2, -⟩ := q
      rw [e2]; simp
theorem hist_born (h : Hist z0 l τ) (p : Bs) {d : Nat} (hth : ¬ thereT (tauI l d) p) : ∀ n, d + n ≤ l.length → thereT (tauI l (d + n)) p → hitF l p 2 d (d + n) = true
  | 0, _ => fun g => absurd g hth
  | n + 1, hn => fun g => by
    rw [show d + (n + 1) = d + n + 1 from rfl, hitF_succ l p 2 (by omega), Bool.or_eq_true]
    by_cases e : thereT (tauI l (d + n)) p
    · exact .inl (hist_born h p hth n (by omega) e)
    · exact .inr (run_born (hist_stp h p (i := d + n) (by omega)) (stp_none e) (stp_there.1 g))
end
/-! ### What has happened since -/
def sinceZ (τ : Tr) (a : Arm) : Ev × Bool :=
  if a.1 = 2 then ((1, (a.2.1, (statD τ a.2.1).cz)), decide (thereT τ a.2.1))
  else if ¬ thereT τ a.2.1 ∨ (statD τ a.2.1).cz ≠ a.2.2.1 then ((2, (a.2.1, τ.zx)), true)
  else if a.1 = 3 then ((4, (a.2.1, (statD τ a.2.1).pz)), decide ((statD τ a.2.1).pz ≠ a.2.2.2.2))
  else ((3, (a.2.1, (statD τ a.2.1).mz)), decide ((statD τ a.2.1).mz ≠ a.2.2.2.1))
def armI (l : List En) (d : Nat) (p : Bs) (k : Int) : Arm := (k, (p, ((statD (tauI l d) p).cz, ((statD (tauI l d) p).mz, (statD (tauI l d) p).pz))))
theorem stat_stp {τ : Tr} {p : Bs} {c m q : Int} (h : stp τ p = some (c, m, q)) : thereT τ p ∧ (statD τ p).cz = c ∧ (statD τ p).mz = m ∧ (statD τ p).pz = q := by
  have ht : thereT τ p := stp_there.2 (by rw [h]; simp)
  obtain ⟨n, hn⟩ := there_some.1 ht
  unfold stp at h
  rw [hn] at h
  rw [stat_some hn]
  simp at h
  exact ⟨ht, h.1, h.2.1, h.2.2⟩
theorem since_path (τ : Tr) (a : Arm) : (sinceZ τ a).1.2.1 = a.2.1 := by
  unfold sinceZ
  split
  · rfl
  · split
    · rfl
    · split <;> rfl
theorem since_home {z0 : Int} {l : List En} {τ : Tr} (h : Hist z0 l τ) (hz : 0 < z0) (p : Bs) {k : Int} (hk : k = 1 ∨ k = 3) {d m : Nat} (hdm : d ≤ m) (hm : m ≤ l.length) (hth : thereT (tauI l d) p) : (sinceZ (tauI l m) (armI l d p k)).2 = hitF l p k d m := by
  obtain ⟨n, rfl⟩ : ∃ n, m = d + n := ⟨m - d, by omega⟩
  obtain ⟨g1, g2⟩ := hist_gone h p hk hth n hm
  have hle := hist_le h hz p d (by omega)
  obtain ⟨c, mm, q, e⟩ := stp_some hth
  rw [e] at hle
  obtain ⟨l1, l2, l3⟩ := hle
  dsimp only at l1 l2 l3
  obtain ⟨-, s1, s2, s3⟩ := stat_stp e
  have hk2 : k ≠ 2 := by omega
  unfold sinceZ armI
  dsimp only
  rw [if_neg hk2, s1, s2, s3]
  cases hf : hitF l p k d (d + n) with
  | true =>
    have g := g1 hf
    by_cases ht : thereT (tauI l (d + n)) p
    · obtain ⟨c', m', q', e'⟩ := stp_some ht
      obtain ⟨-, t1, t2, t3⟩ := stat_stp e'
      rw [e'] at g
      rw [t1, t2, t3]
      split
      · rfl
      · rename_i hc
        have hcc : c' = c := Classical.byContradiction fun g => hc (.inr g)
        have hg : z0 + d - 1 < stampK k (c', m', q') := by
          rcases g with g | g
          · have g' : z0 + d - 1 < c' := g
            omega
          · exact g
        rcases hk with rfl | rfl
        · have hg' : z0 + d - 1 < m' := hg
          rw [if_neg (by decide)]; exact decide_eq_true (by omega)
        · have hg' : z0 + d - 1 < q' := hg
          rw [if_pos rfl]; exact decide_eq_true (by omega)
    · rw [if_pos (.inl ht)]
  | false =>
    obtain ⟨a, b, e1, e2, e3, e4⟩ := g2 hf
    rw [e] at e1
    cases e1
    obtain ⟨c', m', q'⟩ := b
    obtain ⟨ht, t1, t2, t3⟩ := stat_stp e2
    have e3' : c' = c := e3
    rw [if_neg (by rintro (g | g); exact g ht; exact g (by rw [t1]; exact e3'))]
    rcases hk with rfl | rfl
    · have e4' : m' = mm := e4
      rw [if_neg (by decide)]; exact decide_eq_false (by rw [t2]; exact fun g => g e4')
    · have e4' : q' = q := e4
      rw [if_pos rfl]; exact decide_eq_false (by rw [t3]; exact fun g => g e4')
theorem since_exist (τ : Tr) (l : List En) (d : Nat) (p : Bs) : (sinceZ τ (armI l d p 2)).2 = decide (thereT τ p) := by unfold sinceZ armI; dsimp only; rw [if_pos rfl]
/-- Watches that are armed, one by one. -/
def armS (τ : Tr) (s : Int) (r : List Wt × List Ev) (a : Arm) : List Wt × List Ev :=
  if ¬ isWt a.1 a.2.1 then r else if (sinceZ τ a).2 = false then ((addW r.1 s a.1 a.2.1).1, r.2) else if (sinceZ τ a).1 ∈ r.2 then r else (r.1, r.2 ++ [(sinceZ τ a).1])
def armL (τ : Tr) (s : Int) (ω : List Wt) (l : List Arm) : List Wt × List Ev := l.foldl (armS τ s) (ω, [])
theorem armL_step (τ : Tr) (s : Int) (ω : List Wt) {l : List Arm} {i : Nat} (hi : i < l.length) : armL τ s ω (l.take (i + 1)) = armS τ s (armL τ s ω (l.take i)) l[i] := by
  unfold armL; rw [List.take_succ_eq_append_getElem hi, List.foldl_append]; rfl
theorem armS_len (τ : Tr) (s : Int) (r : List Wt × List Ev) (a : Arm) : (armS τ s r a).2.length ≤ r.2.length + 1 := by
  unfold armS
  split
  · omega
  · split
    · show r.2.length ≤ _; omega
    · split
      · omega
      · simp
theorem armL_len (τ : Tr) (s : Int) (ω : List Wt) (l : List Arm) : ∀ i, i ≤ l.length → (armL τ s ω (l.take i)).2.length ≤ i
  | 0, _ => by rw [List.take_zero]; exact Nat.le_refl _
  | i + 1, hi => by
    rw [armL_step τ s ω (by omega)]
    have h1 := armS_len τ s (armL τ s ω (l.take i)) l[i]
    have h2 := armL_len τ s ω l i (by omega)
    omega
/-! ### A table with one watch, or none -/
theorem tell_nil (k : Int) (p : Bs) : tellW [] k p = [] ∧ leftW [] k p = [] := by
  refine ⟨?_, rfl⟩
  rcases tell_one (ω := []) (s := 1) (fun w hw => by cases hw) k p with ⟨h, -⟩ | ⟨-, w, hw, -⟩
  · exact h
  · cases hw
theorem fire_nil (es : List Ev) : fireL [] es = ([], []) := by
  unfold fireL
  have : ∀ i, fireTo [] es i = ([], []) := by
    intro i
    induction i with
    | zero => rfl
    | succ i ih =>
      unfold fireTo
      rw [ih]
      dsimp only
      rw [(tell_nil _ _).1, (tell_nil _ _).2]
      rfl
  exact this _
def oneW (k : Int) (p : Bs) : List Wt := [(1, (k, p))]
theorem one_fire (k : Int) (p : Bs) (es : List Ev) : (fireL (oneW k p) es).1 = (if hitsK k (kindsAt p es) = true then [] else oneW k p) ∧ (fireL (oneW k p) es).2.length = if hitsK k (kindsAt p es) = true then 1 else 0 := by
  have key : ∀ i, i ≤ es.length → (fireTo (oneW k p) es i).1 = (if hitsK k (kindsAt p (es.take i)) = true then [] else oneW k p) ∧ (fireTo (oneW k p) es i).2.length = if hitsK k (kindsAt p (es.take i)) = true then 1 else 0 := by
    intro i
    induction i with
    | zero => intro _; rw [List.take_zero]; exact ⟨rfl, rfl⟩
    | succ i ih =>
      intro hi
      obtain ⟨h1, h2⟩ := ih (by omega)
      have hg : es.getD i (0, ([], 0)) = es[i] := by rw [List.getD_eq_getElem?_getD, List.getElem?_eq_getElem (by omega)]; rfl
      rw [fire_succ hg, List.take_succ_eq_append_getElem (by omega), kindsAt_app, hits_app]
      dsimp only
      rw [List.length_append, List.length_map]
      by_cases g : hitsK k (kindsAt p (es.take i)) = true
      · rw [if_pos g] at h1 h2
        rw [h1, h2, (tell_nil _ _).1, (tell_nil _ _).2, g, Bool.true_or]
        exact ⟨rfl, rfl⟩
      · rw [if_neg g] at h1 h2
        rw [h1, h2, Bool.eq_false_iff.2 g, Bool.false_or]
        have hm : hitsK k (kindsAt p [es[i]]) = meetW es[i].1 es[i].2.1 (1, (k, p)) := by
          unfold hitsK kindsAt meetW
          by_cases e : es[i].2.1 = p
          · rw [List.filter_cons_of_pos (by simpa using e), decide_eq_true e.symm]; simp
          · rw [List.filter_cons_of_neg (by simpa using e), decide_eq_false (fun g => e g.symm)]; simp
        rw [hm]
        rcases tell_one (ω := oneW k p) (s := 1) (fun w hw => by rw [oneW, List.mem_singleton] at hw; rw [hw]) es[i].1 es[i].2.1 with ⟨t1, t2⟩ | ⟨t1, w, hw, t2⟩
        · rw [t1, t2]
          have hn : meetW es[i].1 es[i].2.1 (1, (k, p)) = false := by
            have q : (1, (k, p)) ∈ leftW (oneW k p) es[i].1 es[i].2.1 := by rw [t2]; simp [oneW]
            unfold leftW at q
            simpa using (List.mem_filter.1 q).2
          rw [hn]; exact ⟨rfl, rfl⟩
        · rw [oneW, List.mem_singleton] at hw
          subst hw
          rw [t1, t2]
          refine ⟨?_, rfl⟩
          unfold leftW oneW
          rw [List.filter_cons_of_neg (by simpa using t2)]
          rfl
  have := key es.length (Nat.le_refl _)
  rwa [List.take_length] at this
end Go.Proofs.YtnnbelmpbmfdnaaGreatDoor

/- Own work: a watch that is carried to another table: the state of the loop: plain. -/

namespace Go.Proofs.YtnnbelmpbmfdnaaGreatDoor
open Go

noncomputable section
def effK (l : List En) (d : Nat) (p : Bs) (k0 : Int) : Int := if thereT (tauI l d) p then (if k0 = 2 then 1 else k0) else 2
structure MvS (l : List En) (d m : Nat) (p : Bs) (k0 : Int) (on ar : Bool) (i : Nat) (ω ω2 : List Wt) (got thn told th : Bool) (k : Int) (a : Arm) : Prop where
  hω : ω = if (on && !hitF l p (effK l d p k0) d i) = true then oneW (effK l d p k0) p else []
  hgot : got = (on && hitF l p (effK l d p k0) d i)
  hω2 : ω2 = if (ar && !((sinceZ (tauI l m) (armI l d p (effK l d p k0))).2 || hitF l p (effK l d p k0) m i)) = true then oneW (effK l d p k0) p else []
  hthn : thn = (ar && (sinceZ (tauI l m) (armI l d p (effK l d p k0))).2)
  htold : told = (ar && (!(sinceZ (tauI l m) (armI l d p (effK l d p k0))).2 && hitF l p (effK l d p k0) m i))
  hth : th = (on && decide (thereT (tauI l d) p))
  hk : k = if on = true then effK l d p k0 else k0
  ha : on = true → a = armI l d p (effK l d p k0)
  hwt : on = true → isWt (effK l d p k0) p
end
section
variable {l : List En} {d m : Nat} {p : Bs} {k0 : Int}
theorem MvS.init (a : Arm) : MvS l d m p k0 (decide (d < 0)) (decide (m < 0)) 0 [] [] false false false false k0 a := by
  have h1 : decide (d < 0) = false := decide_eq_false (by omega)
  have h2 : decide (m < 0) = false := decide_eq_false (by omega)
  rw [h1, h2]
  exact ⟨rfl, rfl, rfl, rfl, rfl, rfl, rfl, fun h => (by cases h), fun h => (by cases h)⟩
theorem MvS.skip {ar : Bool} {i : Nat} {ω ω2 : List Wt} {got thn told th : Bool} {k : Int} {a : Arm} (h : MvS l d m p k0 (decide (d < i)) ar i ω ω2 got thn told th k a) (hi : i ≠ d) : MvS l d m p k0 (decide (d ≤ i)) ar i ω ω2 got thn told th k a := by
  have : decide (d ≤ i) = decide (d < i) := decide_eq_decide.2 (by omega)
  rw [this]; exact h
theorem MvS.skip2 {on : Bool} {i : Nat} {ω ω2 : List Wt} {got thn told th : Bool} {k : Int} {a : Arm} (h : MvS l d m p k0 on (decide (m < i)) i ω ω2 got thn told th k a) (hi : i ≠ m) : MvS l d m p k0 on (decide (m ≤ i)) i ω ω2 got thn told th k a := by
  have : decide (m ≤ i) = decide (m < i) := decide_eq_decide.2 (by omega)
  rw [this]; exact h
/-- Ahead of the laying. -/
theorem MvS.at_lay {ω ω2 : List Wt} {got thn told th : Bool} {k : Int} {a : Arm} {i : Nat} (h : MvS l d m p k0 (decide (d < i)) (decide (m < i)) i ω ω2 got thn told th k a) (hi : i = d) : ω = [] ∧ k = k0 := by
  subst hi
  have h1 : decide (i < i) = false := decide_eq_false (by omega)
  obtain ⟨h2, -, -, -, -, -, h3, -, -⟩ := h
  rw [h1] at h2 h3
  exact ⟨h2, h3⟩
theorem MvS.lay {ω2 : List Wt} {ω : List Wt} {got thn told th : Bool} {k : Int} {a : Arm} {i : Nat} (h : MvS l d m p k0 (decide (d < i)) (decide (m < i)) i ω ω2 got thn told th k a) (hi : i = d) (hw : isWt (effK l d p k0) p) :
    MvS l d m p k0 (decide (d ≤ i)) (decide (m < i)) i (oneW (effK l d p k0) p) ω2 got thn told (decide (thereT (tauI l d) p)) (effK l d p k0) (armI l d p (effK l d p k0)) := by
  subst hi
  have h1 : decide (i < i) = false := decide_eq_false (by omega)
  have h2 : decide (i ≤ i) = true := decide_eq_true (by omega)
  obtain ⟨g1, g2, g3, g4, g5, g6, g7, g8, g9⟩ := h
  rw [h1] at g2
  rw [h2]
  refine ⟨?_, ?_, g3, g4, g5, rfl, rfl, fun _ => rfl, fun _ => hw⟩
  · rw [hitF_self]; rfl
  · rw [g2, hitF_self]; rfl
theorem addW_err {s k : Int} (h1 : ¬ isWt k p) : addW [] s k p = ([], 1) := by unfold addW; rw [if_pos (.inr h1)]
theorem addW_one {k : Int} (h1 : isWt k p) : addW [] 1 k p = (oneW k p, 0) := by
  unfold addW
  rw [if_neg (by rintro (g | g); omega; exact g h1), if_neg (by simp), if_neg (by decide)]
  rfl
/-- The arming elsewhere. -/
theorem armL_one {τ : Tr} {a : Arm} (h1 : isWt a.1 a.2.1) : armL τ 1 [] [a] = if (sinceZ τ a).2 = true then ([], [(sinceZ τ a).1]) else (oneW a.1 a.2.1, []) := by
  show armS τ 1 ([], []) a = _
  unfold armS
  rw [if_neg (fun g => g h1)]
  cases e : (sinceZ τ a).2 with
  | true => rw [if_neg (by decide), if_neg (by simp), if_pos rfl]; rfl
  | false => rw [if_pos rfl, if_neg (by decide), addW_one h1]
theorem MvS.on_at {ar : Bool} {i : Nat} {ω ω2 : List Wt} {got thn told th : Bool} {k : Int} {a : Arm} (h : MvS l d m p k0 (decide (d ≤ i)) ar i ω ω2 got thn told th k a) (hi : d ≤ i) : a = armI l d p (effK l d p k0) ∧ isWt (effK l d p k0) p ∧ got = hitF l p (effK l d p k0) d i ∧ th = decide (thereT (tauI l d) p) := by
  have h2 : decide (d ≤ i) = true := decide_eq_true hi
  obtain ⟨-, g2, -, -, -, g6, -, g8, g9⟩ := h
  rw [h2] at g2 g6 g8 g9
  exact ⟨g8 rfl, g9 rfl, by rw [g2, Bool.true_and], by rw [g6, Bool.true_and]⟩
theorem MvS.away_nil {on : Bool} {i : Nat} {ω ω2 : List Wt} {got thn told th : Bool} {k : Int} {a : Arm} (h : MvS l d m p k0 on (decide (m < i)) i ω ω2 got thn told th k a) (hi : i = m) : ω2 = [] := by
  subst hi
  have h1 : decide (i < i) = false := decide_eq_false (by omega)
  have h3 := h.hω2
  rw [h1] at h3
  exact h3
theorem MvS.arm {on : Bool} {i : Nat} {ω ω2 : List Wt} {got thn told th : Bool} {k : Int} {a : Arm} (h : MvS l d m p k0 on (decide (m < i)) i ω ω2 got thn told th k a) (hi : i = m) :
    MvS l d m p k0 on (decide (m ≤ i)) i ω (if (sinceZ (tauI l m) (armI l d p (effK l d p k0))).2 = true then [] else oneW (effK l d p k0) p) got (sinceZ (tauI l m) (armI l d p (effK l d p k0))).2 told th k a := by
  subst hi
  have h1 : decide (i < i) = false := decide_eq_false (by omega)
  have h2 : decide (i ≤ i) = true := decide_eq_true (by omega)
  obtain ⟨g1, g2, g3, g4, g5, g6, g7, g8, g9⟩ := h
  rw [h1] at g5
  rw [h2]
  refine ⟨g1, g2, ?_, by rw [Bool.true_and], ?_, g6, g7, g8, g9⟩
  · rw [hitF_self, Bool.or_false, Bool.true_and]
    cases (sinceZ (tauI l i) (armI l d p (effK l d p k0))).2 <;> rfl
  · rw [g5, hitF_self, Bool.and_false]; rfl
/-- What is told at the arming is what was told at home, but of a node that came and went. -/
theorem arm_law {z0 : Int} {τ : Tr} (hh : Hist z0 l τ) (hz : 0 < z0) (hk : 1 ≤ k0 ∧ k0 ≤ 3) (hdm : d ≤ m) (hm : m ≤ l.length) : (sinceZ (tauI l m) (armI l d p (effK l d p k0))).2 = hitF l p (effK l d p k0) d m ∨ (hitF l p (effK l d p k0) d m = true ∧ ¬ thereT (tauI l d) p ∧ ¬ thereT (tauI l m) p) := by
  by_cases ht : thereT (tauI l d) p
  · refine .inl ?_
    have he : effK l d p k0 = 1 ∨ effK l d p k0 = 3 := by
      unfold effK; rw [if_pos ht]; split
      · exact .inl rfl
      · omega
    exact since_home hh hz p he hdm hm ht
  · have he : effK l d p k0 = 2 := by unfold effK; rw [if_neg ht]
    rw [he, since_exist]
    by_cases ht2 : thereT (tauI l m) p
    · have q := hist_born hh p ht (m - d) (by omega) (by rw [show d + (m - d) = m by omega]; exact ht2)
      rw [show d + (m - d) = m by omega] at q
      exact .inl (by rw [decide_eq_true ht2, q])
    · cases e : hitF l p 2 d m with
      | true => exact .inr ⟨rfl, ht, ht2⟩
      | false => exact .inl (decide_eq_false ht2)
/-- An entry. -/
theorem MvS.next {i : Nat} {ω ω2 : List Wt} {got thn told th : Bool} {k : Int} {a : Arm} (h : MvS l d m p k0 (decide (d ≤ i)) (decide (m ≤ i)) i ω ω2 got thn told th k a) {b : Bool} (hb : b = (told || decide (0 < (fireL ω2 (evsI l i)).2.length))) :
    MvS l d m p k0 (decide (d < i + 1)) (decide (m < i + 1)) (i + 1) (fireL ω (evsI l i)).1 (fireL ω2 (evsI l i)).1 (got || decide (0 < (fireL ω (evsI l i)).2.length)) thn b th k a := by
  have h1 : decide (d < i + 1) = decide (d ≤ i) := decide_eq_decide.2 (by omega)
  have h2 : decide (m < i + 1) = decide (m ≤ i) := decide_eq_decide.2 (by omega)
  obtain ⟨g1, g2, g3, g4, g5, g6, g7, g8, g9⟩ := h
  rw [h1, h2]
  have hf := one_fire (effK l d p k0) p (evsI l i)
  have hE : hitsK (effK l d p k0) (kindsAt p (evsI l i)) = hitI l p (effK l d p k0) i := rfl
  rw [hE] at hf
  refine ⟨?_, ?_, ?_, g4, ?_, g6, g7, g8, g9⟩
  · by_cases hd : d ≤ i
    · rw [hitF_succ l p _ hd, g1, decide_eq_true hd]
      cases hitF l p (effK l d p k0) d i
      · simp only [Bool.true_and, Bool.false_or, Bool.not_false, if_true]
        rw [hf.1]
        cases hitI l p (effK l d p k0) i <;> simp
      · simp [fire_nil]
    · rw [g1, decide_eq_false hd]
      simp [fire_nil]
  · by_cases hd : d ≤ i
    · rw [hitF_succ l p _ hd, g2, g1, decide_eq_true hd]
      cases hitF l p (effK l d p k0) d i
      · simp only [Bool.true_and, Bool.false_or, Bool.not_false, if_true]
        rw [hf.2]
        cases hitI l p (effK l d p k0) i <;> simp
      · simp
    · rw [g2, g1, decide_eq_false hd]
      simp [fire_nil]
  · by_cases hd : m ≤ i
    · rw [hitF_succ l p _ hd, g3, decide_eq_true hd]
      cases (sinceZ (tauI l m) (armI l d p (effK l d p k0))).2
      · cases hitF l p (effK l d p k0) m i
        · simp only [Bool.true_and, Bool.false_or, Bool.not_false, if_true]
          rw [hf.1]
          cases hitI l p (effK l d p k0) i <;> simp
        · simp [fire_nil]
      · simp [fire_nil]
    · rw [g3, decide_eq_false hd]
      simp [fire_nil]
  · subst hb
    by_cases hd : m ≤ i
    · rw [hitF_succ l p _ hd, g5, g3, decide_eq_true hd]
      cases (sinceZ (tauI l m) (armI l d p (effK l d p k0))).2
      · cases hitF l p (effK l d p k0) m i
        · simp only [Bool.true_and, Bool.false_or, Bool.not_false, if_true]
          rw [hf.2]
          cases hitI l p (effK l d p k0) i <;> simp
        · simp [fire_nil]
      · simp [fire_nil]
    · rw [g5, g3, decide_eq_false hd]
      simp [fire_nil]
/-- What is asked at each entry. -/
theorem MvS.ask {i : Nat} {ω ω2 : List Wt} {got thn told th : Bool} {k : Int} {a : Arm} (h : MvS l d m p k0 (decide (d ≤ i)) (decide (m ≤ i)) i ω ω2 got thn told th k a) (hdm : d ≤ m) :
    (m ≤ i → thn = false → got = false → (fireL ω (evsI l i)).2.length = (fireL ω2 (evsI l i)).2.length) ∧ (i < m → (fireL ω2 (evsI l i)).2.length = 0) ∧ (0 < (fireL ω2 (evsI l i)).2.length → thn = false ∧ told = false) := by
  obtain ⟨g1, g2, g3, g4, g5, -, -, -, -⟩ := h
  refine ⟨fun hm h1 h2 => ?_, fun hm => ?_, fun hp => ?_⟩
  · rw [decide_eq_true (show d ≤ i by omega), Bool.true_and] at g1 g2
    rw [decide_eq_true hm, Bool.true_and] at g3 g4
    rw [g2] at h2
    rw [g4] at h1
    have hF : hitF l p (effK l d p k0) m i = false := by
      cases e : hitF l p (effK l d p k0) m i with
      | false => rfl
      | true =>
        exfalso
        unfold hitF at e h2
        rw [List.any_eq_true] at e
        rw [List.any_eq_false] at h2
        obtain ⟨j, hj, hj2⟩ := e
        simp only [Bool.and_eq_true, decide_eq_true_eq] at hj2
        exact h2 j hj (by simp only [Bool.and_eq_true, decide_eq_true_eq]; exact ⟨by omega, hj2.2⟩)
    rw [g1, g3, h2, h1, hF]
    rfl
  · rw [decide_eq_false (show ¬ m ≤ i by omega), Bool.false_and] at g3
    rw [g3]; simp [fire_nil]
  · by_cases hd : m ≤ i
    · rw [decide_eq_true hd, Bool.true_and] at g3 g4 g5
      by_cases e : ((sinceZ (tauI l m) (armI l d p (effK l d p k0))).2 || hitF l p (effK l d p k0) m i) = true
      · rw [e] at g3
        rw [g3] at hp
        simp [fire_nil] at hp
      · rw [Bool.not_eq_true, Bool.or_eq_false_iff] at e
        rw [g4, g5, e.1, e.2]; exact ⟨rfl, rfl⟩
    · rw [decide_eq_false hd, Bool.false_and] at g3
      rw [g3] at hp
      simp [fire_nil] at hp
theorem MvS.few {on ar : Bool} {i : Nat} {ω ω2 : List Wt} {got thn told th : Bool} {k : Int} {a : Arm} (h : MvS l d m p k0 on ar i ω ω2 got thn told th k a) : ω.length ≤ 1 ∧ ω2.length ≤ 1 := by
  rw [h.hω, h.hω2]
  constructor <;> (split <;> simp [oneW])
end
end Go.Proofs.YtnnbelmpbmfdnaaGreatDoor

/- Own work, by program: law 11: Told, awake, WatchGone, WatchApart, WatchOnce: walked. -/

namespace Go.Proofs.YtnnbelmpbmfdnaaGreatDoor
open Go
set_option maxRecDepth 100000 in
theorem told_spec (xs ys : List Tld) (va vb : Value) (h1 : xs.length ≤ 4611686018427387904) : Fn Tryz.prog 78 #[va, vb] [slR 147 4 va xs.length (xs.flatMap tldC), slR 147 4 vb ys.length (ys.flatMap tldC)] fun v L => v = .bool (decide (xs = ys)) ∧ L = [slR 147 4 va xs.length (xs.flatMap tldC), slR 147 4 vb ys.length (ys.flatMap tldC)] := by
 refine Fn.intro (vs := [va, vb]) Tryz.func78 rfl rfl ?_
 intro F W
 refine G.slAny (v := va) (by (repeat' constructor)) fun aa ca e0 _ => ?_
 subst e0
 refine G.slAny (v := vb) (by (repeat' constructor)) fun ab cb e0 _ => ?_
 subst e0
 refine G.seq (G.region (G.q (Quiet.assign rfl) rfl (G.nil (G.then_n (G.seq (G.seq (G.region (G.q (Quiet.move rfl) rfl (G.q (Quiet.slen rfl Tryz.underlying76 rfl) rfl (G.q (Quiet.move rfl) rfl (G.q (Quiet.slen rfl Tryz.underlying76 rfl) rfl (G.q (Quiet.int rfl rfl rfl) rfl (G.nil (G.then_n ?_))))))))))))))
 refine G.condN rfl (fun h10 => ?_) (fun h10 => ?_)
 ·refine G.seq (G.region (G.q (Quiet.assign rfl) rfl (G.nil (G.then_n (G.ret (G.then_r ?_))))))
  exact G.done (l := [.tmp 4]) rfl rfl ⟨by rw [decide_eq_false (fun e => h10 (by rw [e]))], rfl⟩ (by (repeat' constructor)) (by (repeat' constructor))
 ·have hlen : xs.length = ys.length := by omega
  refine G.skip (G.then_n (G.seq (G.seq (G.region (G.q (Quiet.assign rfl) rfl (G.nil (G.then_n (G.block ?_))))))))
  refine G.loopK (ι := Nat) (fun q E => (5, vint q) :: E) (fun q => []) (fun q => q ≤ xs.length ∧ xs.take q = ys.take q) (fun q => xs.length - q) (0) (ts := [0, 1]) (.cons rfl (.cons rfl (.nil))) (⟨Nat.zero_le _, rfl⟩) ⟨rfl, rfl, rfl, trivial⟩ (by (repeat' constructor)) ?_
  rintro i ⟨hi, hpre⟩
  refine G.seq (G.seq (G.region (G.q (Quiet.move rfl) rfl (G.q (Quiet.move rfl) rfl (G.q (Quiet.slen rfl Tryz.underlying76 rfl) rfl (G.q (Quiet.int rfl rfl rfl) rfl (G.nil (G.then_n ?_))))))))
  refine G.condD rfl (fun h14 => ?_) (fun h14 => ?_)
  ·have hi2 : i < xs.length := by omega
   have hi3 : i < ys.length := by omega
   refine G.slShape (v := .slice aa _ ca) (by (repeat' constructor)) (by omega) fun ba ba' e0 mba _ => ?_
   simp only [Value.slice.injEq, true_and] at e0
   obtain ⟨rfl, rfl⟩ := e0
   refine G.slShape (v := .slice ab _ cb) (by (repeat' constructor)) (by omega) fun bb bb' e0 mbb _ => ?_
   simp only [Value.slice.injEq, true_and] at e0
   obtain ⟨rfl, rfl⟩ := e0
   refine G.skip (G.then_n (G.seq (G.block (G.seq ?_))))
   refine G.draw [] [[0, 1, 2, 3, 4, 5, 6, 7, 8]] mixed (by kernel_rfl) ?_
   refine Phases.go [] (by (repeat' constructor)) ?_
   refine D.qw [2, 3, 8] rfl (by kernel_rfl) (Quiet.move rfl) ?_
   refine D.qw [2, 3, 8] rfl (by kernel_rfl) (Quiet.move rfl) ?_
   refine D.qw [3, 8] rfl (by kernel_rfl) (Quiet.indexAddr rfl rfl el_76 (by omega)) ?_
   refine D.qw [8] rfl (by kernel_rfl) (Quiet.loadRdA (sz := 4) (j := i * 4) (k := 4) (p := slR 147 4 _ xs.length (xs.flatMap tldC)) (vs := tldC xs[i]) rfl ag_147 (by (repeat' constructor)) (fun h hp => slR_rd hp) (by simp) (by omega) (by omega) (flatMap_at (f := tldC) (sz := 4) (fun _ _ => rfl) (by omega))) ?_
   refine D.qw [6, 7, 8] rfl (by kernel_rfl) (Quiet.move rfl) ?_
   refine D.qw [6, 7, 8] rfl (by kernel_rfl) (Quiet.move rfl) ?_
   refine D.qw [7, 8] rfl (by kernel_rfl) (Quiet.indexAddr rfl rfl el_76 (by omega)) ?_
   refine D.qw [8] rfl (by kernel_rfl) (Quiet.loadRdA (sz := 4) (j := i * 4) (k := 4) (p := slR 147 4 _ ys.length (ys.flatMap tldC)) (vs := tldC ys[i]) rfl ag_147 (by (repeat' constructor)) (fun h hp => slR_rd hp) (by simp) (by omega) (by omega) (flatMap_at (f := tldC) (sz := 4) (fun _ _ => rfl) (by omega))) ?_
   refine D.qw [] rfl (by kernel_rfl) (Quiet.structNe (r := decide (xs[i] = ys[i])) rfl rfl (by kernel_rfl) (tld_eq 9997 _ _)) ?_
   refine D.ph (Phases.fin (G.then_n ?_))
   refine G.condN rfl (fun h25 => ?_) (fun h25 => ?_)
   ·refine G.seq (G.region (G.q (Quiet.assign rfl) rfl (G.nil (G.then_n (G.ret (G.blk_r (G.then_r (G.then_r (G.blk_r (G.then_r ?_))))))))))
    exact G.done (l := [.tmp 4]) rfl rfl ⟨by rw [decide_eq_false (fun e => h25 (by simp only [e]))], rfl⟩ (by (repeat' constructor)) (by (repeat' constructor))
   ·refine G.skip (G.blk_n (G.then_n (G.region (G.q (Quiet.move rfl) rfl ?_))))
    refine G.q (Quiet.add rfl rfl (by omega)) rfl ?_
    refine G.q (Quiet.assign rfl) rfl (G.nil (G.then_n ?_))
    exact G.roundK (i + 1) (⟨by omega, by rw [List.take_succ_eq_append_getElem hi2, List.take_succ_eq_append_getElem hi3, hpre, h25]⟩) (by omega) ⟨rfl, rfl, rfl, trivial⟩ (by (repeat' constructor)) (by ((repeat (apply Have.cons; (repeat (first | exact Pick.here | apply Pick.there)))); apply Have.base; repeat' constructor))
  ·refine G.exit (G.then_e (G.then_e (G.blk_e (G.then_n (G.seq (G.region (G.q (Quiet.assign rfl) rfl (G.nil (G.then_n (G.ret ?_))))))))))
   exact G.done (l := [.tmp 4]) rfl rfl ⟨by rw [decide_eq_true (by have hii : i = xs.length := (by omega); rw [hii, List.take_length] at hpre; rw [hlen, List.take_length] at hpre; exact hpre)], rfl⟩ (by (repeat' constructor)) (by (repeat' constructor))

set_option maxRecDepth 100000 in
theorem awake11_spec : Fn Tryz.prog 31 #[] [] fun v L => v = .bool true ∧ L = [] := by
 refine Fn.intro (vs := []) Tryz.func31 rfl rfl ?_
 intro F W
 refine G.seq (G.region (G.q (Quiet.assign rfl) rfl (G.nil (G.then_n (G.seq (G.region ?_))))))
 refine G.op (OpSpec.call Tryz.func32 rfl rfl (vs := []) rfl (wnew_spec)) (by (repeat' constructor)) rfl ?nx2
 rintro v L' ⟨t, rfl, rfl⟩
 refine G.q (Quiet.assign rfl) rfl (G.nil (G.then_n (G.seq (G.seq (G.region (G.q (Quiet.move rfl) rfl ?_))))))
 refine G.q (Quiet.as (v' := .bool false) (by rfl) (Quiet.ptreq rfl rfl Tryz.underlying67)) rfl ?_
 refine G.nil (G.then_n (G.condF rfl (G.skip (G.then_n (G.seq (G.region (G.q (Quiet.move rfl) rfl ?_)))))))
 refine G.op (OpSpec.call Tryz.func34 rfl rfl (vs := [_, _, _, _]) rfl (wadd_spec t [] 1 1 wA (by decide) (by decide))) (by (repeat' constructor)) rfl ?nx5
 rintro v L' ⟨rfl, rfl⟩; rw [awake_1]; dsimp only
 refine G.q (Quiet.assign rfl) rfl (G.nil (G.then_n (G.seq (G.region (G.q (Quiet.move rfl) rfl ?_)))))
 refine G.op (OpSpec.call Tryz.func34 rfl rfl (vs := [_, _, _, _]) rfl (wadd_spec t aw1 1 3 wA (by decide) (by decide))) (by (repeat' constructor)) rfl ?nx7
 rintro v L' ⟨rfl, rfl⟩; rw [awake_2]; dsimp only
 refine G.q (Quiet.assign rfl) rfl (G.nil (G.then_n (G.seq (G.region (G.q (Quiet.move rfl) rfl ?_)))))
 refine G.op (OpSpec.call Tryz.func34 rfl rfl (vs := [_, _, _, _]) rfl (wadd_spec t aw2 2 1 wA (by decide) (by decide))) (by (repeat' constructor)) rfl ?nx9
 rintro v L' ⟨rfl, rfl⟩; rw [awake_3]; dsimp only
 refine G.q (Quiet.assign rfl) rfl (G.nil (G.then_n (G.seq (G.region (G.q (Quiet.move rfl) rfl ?_)))))
 refine G.op (OpSpec.call Tryz.func34 rfl rfl (vs := [_, _, _, _]) rfl (wadd_spec t aw3 2 2 wB (by decide) (by decide))) (by (repeat' constructor)) rfl ?nx11
 rintro v L' ⟨rfl, rfl⟩; rw [awake_4]; dsimp only
 refine G.q (Quiet.assign rfl) rfl (G.nil (G.then_n (G.seq (G.region ?_))))
 refine G.q (Quiet.build (us := [(0, _), (1, _), (2, _)]) fl_75 ze_75 rfl rfl (by simp [isCell])) rfl ?_
 refine G.op (OpSpec.allocA ze_75) (by (repeat' constructor)) rfl ?nx14
 rintro v L' ⟨be, rfl, rfl⟩
 refine G.op (OpSpec.storeA rfl rfl ?c16 sz_75 ?c19 ?c17 ?c18) (by (repeat' constructor)) rfl ?nx20
 case c16 => (first | (simp [isCell]; done) | (simp [isCell, setAll, Value.cells]; done))
 case c19 => (first | (simp; done) | (simp [setAll, spl, Value.cells]; done))
 case c17 => (first | (simp; done) | (simp [setAll, spl, Value.cells]; done))
 case c18 => exact nfz0 _ _
 rintro v L' rfl
 refine G.nil ?_
 refine G.ptCast (b := be) (l' := [vint 3, vstr wA, vint 4]) (by (repeat' constructor)) rfl ?_
 refine G.then_n (G.seq (G.region (G.q (Quiet.move rfl) rfl ?_)))
 refine G.q (Quiet.loadAs (vs := [vint 3, vstr wA, vint 4]) rfl ag_75 (by (repeat' constructor)) (by simp) rfl) rfl ?_
 refine G.op (OpSpec.buildSlice (vs := [_]) el_30 ze_75 rfl rfl rfl rfl (by first | (simp [Value.cells]; done) | (intro v hv; simp only [List.mem_cons, List.not_mem_nil, or_false] at hv; (repeat (first | (subst hv; rfl) | (rcases hv with hv | hv; (subst hv; rfl)))))) (by decide)) (by (repeat' constructor)) rfl ?nx22
 rintro v L' ⟨bl, rfl, rfl⟩
 refine G.slMakeN 3 1 (b := bl) (xs := ([(3, (wA, 4))] : List Ev).flatMap evC) (by (repeat' constructor)) (by simp [evC, Value.cells]) rfl ?_
 refine G.op (OpSpec.call Tryz.func37 rfl rfl (vs := [_, _]) rfl (wfire_spec t aw4 _ [(3, (wA, 4))] (slR 75 3 (.slice (some ⟨bl, 0, none⟩) 1 1) 1 (([(3, (wA, 4))] : List Ev).flatMap evC)) (fun h hp => slR_rd hp) (by decide) (by decide))) (by (repeat' constructor)) rfl ?nx24
 rintro v L' ⟨al, cl, rfl, rfl⟩; rw [awake_5]; dsimp only
 refine G.q (Quiet.assign rfl) rfl (G.nil (G.then_n (G.seq (G.region (G.q (Quiet.move rfl) rfl ?_)))))
 refine G.op (OpSpec.call Tryz.func35 rfl rfl (vs := [_, _]) rfl (wcount_spec t aw5 1)) (by (repeat' constructor)) rfl ?nx26
 rintro v L' ⟨rfl, rfl⟩; rw [awake_6.1]
 refine G.q (Quiet.assign rfl) rfl (G.nil (G.then_n (G.seq (G.region (G.q (Quiet.move rfl) rfl ?_)))))
 refine G.q (Quiet.loadAs (vs := [vint 3, vstr wA, vint 4]) rfl ag_75 (by (repeat' constructor)) (by simp) rfl) rfl ?_
 refine G.q (Quiet.buildN (pl := [(0, 1), (1, 3)]) (us := [(0, vint 1), (1, .agg ([vint 3, vstr wA, vint 4] : List Value).toArray)]) (cells := [vint 1, vint 3, vstr wA, vint 4]) Tryz.underlying147 (by kernel_rfl) ze_147 rfl rfl) rfl ?_
 refine G.q (Quiet.loadAs (vs := [vint 3, vstr wA, vint 4]) rfl ag_75 (by (repeat' constructor)) (by simp) rfl) rfl ?_
 refine G.q (Quiet.buildN (pl := [(0, 1), (1, 3)]) (us := [(0, vint 2), (1, .agg ([vint 3, vstr wA, vint 4] : List Value).toArray)]) (cells := [vint 2, vint 3, vstr wA, vint 4]) Tryz.underlying147 (by kernel_rfl) ze_147 rfl rfl) rfl ?_
 refine G.op (OpSpec.buildSlice (vs := [_, _]) el_76 ze_147 rfl rfl rfl rfl (by first | (simp [Value.cells]; done) | (intro v hv; simp only [List.mem_cons, List.not_mem_nil, or_false] at hv; (repeat (first | (subst hv; rfl) | (rcases hv with hv | hv; (subst hv; rfl)))))) (by decide)) (by (repeat' constructor)) rfl ?nx32
 rintro v L' ⟨bt, rfl, rfl⟩
 refine G.slMakeN 4 2 (b := bt) (xs := ([(1, (3, (wA, 4))), (2, (3, (wA, 4)))] : List Tld).flatMap tldC) (by (repeat' constructor)) (by simp [tldC, Value.cells]) rfl ?_
 refine G.op (OpSpec.call Tryz.func78 rfl rfl (vs := [_, _]) rfl (told_spec ([(1, (3, (wA, 4))), (2, (3, (wA, 4)))] : List Tld) ([(1, (3, (wA, 4))), (2, (3, (wA, 4)))] : List Tld) _ _ (by decide))) (by (repeat' constructor)) rfl ?nx34
 rintro v L' ⟨rfl, rfl⟩; rw [decide_eq_true rfl]
 refine G.q (Quiet.assign rfl) rfl (G.nil (G.then_n (G.seq (G.region (G.q (Quiet.move rfl) rfl ?_)))))
 refine G.q (Quiet.as (v' := .bool true) (by rfl) (Quiet.int rfl rfl rfl)) rfl ?_
 refine G.q (Quiet.move rfl) rfl (G.grun (t := 37) rfl rfl rfl (G.q (Quiet.move rfl) rfl (G.grun (t := 37) rfl rfl rfl ?_)))
 refine G.q (Quiet.as (v' := .bool true) (by rfl) (Quiet.int rfl rfl rfl)) rfl ?_
 refine G.q (Quiet.pickT rfl rfl) rfl (G.q (Quiet.move rfl) rfl (G.grun (t := 41) rfl rfl rfl (G.q (Quiet.move rfl) rfl (G.grun (t := 41) rfl rfl rfl ?_))))
 refine G.q (Quiet.as (v' := .bool true) (by rfl) (Quiet.int rfl rfl rfl)) rfl ?_
 refine G.q (Quiet.pickT rfl rfl) rfl (G.q (Quiet.move rfl) rfl (G.grun (t := 45) rfl rfl rfl (G.q (Quiet.move rfl) rfl (G.grun (t := 45) rfl rfl rfl ?_))))
 refine G.q (Quiet.as (v' := .bool true) (by rfl) (Quiet.int rfl rfl rfl)) rfl ?_
 refine G.q (Quiet.pickT rfl rfl) rfl (G.q (Quiet.move rfl) rfl (G.grun (t := 49) rfl rfl rfl (G.q (Quiet.move rfl) rfl (G.q (Quiet.pickT rfl rfl) rfl (G.q (Quiet.move rfl) rfl (G.grun (t := 52) rfl rfl rfl (G.q (Quiet.move rfl) rfl (G.grun (t := 52) rfl rfl rfl ?_))))))))
 refine G.q (Quiet.as (v' := .bool true) (by rfl) (Quiet.int rfl rfl rfl)) rfl ?_
 refine G.q (Quiet.pickT rfl rfl) rfl (G.q (Quiet.move rfl) rfl (G.grun (t := 56) rfl rfl rfl (G.q (Quiet.move rfl) rfl (G.grun (t := 56) rfl rfl rfl ?_))))
 refine G.op (OpSpec.call Tryz.func35 rfl rfl (vs := [_, _]) rfl (wcount_spec t aw5 2)) (by (repeat' constructor)) rfl ?nx41
 rintro v L' ⟨rfl, rfl⟩; rw [awake_6.2]
 refine G.grun (t := 56) rfl rfl rfl ?_
 refine G.q (Quiet.as (v' := .bool true) (by rfl) (Quiet.int rfl rfl rfl)) rfl ?_
 refine G.q (Quiet.pickT rfl rfl) rfl (G.q (Quiet.assign rfl) rfl (G.nil (G.then_n (G.ret ?_))))
 exact G.done (l := [.tmp 0]) rfl rfl ⟨rfl, rfl⟩ (by (repeat' constructor)) (by (repeat' constructor))

end Go.Proofs.YtnnbelmpbmfdnaaGreatDoor

/- Own work, by program: law 07: pick, Events, awake, texts, numbers: walked. -/

namespace Go.Proofs.YtnnbelmpbmfdnaaGreatDoor
open Go
set_option maxRecDepth 100000 in
theorem pick7_spec  (c n : Int) (hc : -9223372036854775808 ≤ c ∧ c ≤ 9223372036854775807) (hn : 0 < n) : Fn Tryz.prog 21 #[vint c, vint n] [] fun v L => v = vint (pickZ c n) ∧ L = [] := by
 refine Fn.intro (vs := [vint c, vint n]) Tryz.func21 rfl rfl ?_
 intro F W
 refine G.seq (G.region (G.q (Quiet.assign rfl) rfl (G.nil (G.then_n (G.seq (G.seq (G.region (G.q (Quiet.move rfl) rfl (G.q (Quiet.int rfl rfl rfl) rfl (G.nil (G.then_n ?_)))))))))))
 refine G.condD rfl (fun h6 => ?_) (fun h6 => ?_)
 ·refine G.region (G.q (Quiet.move rfl) rfl ?_)
  refine G.q (Quiet.add rfl rfl (by omega)) rfl ?_
  refine G.q (Quiet.neg rfl (by omega)) rfl ?_
  refine G.q (Quiet.assign rfl) rfl (G.nil (G.then_n (G.seq (G.region (G.q (Quiet.move rfl) rfl (G.q (Quiet.move rfl) rfl ?_))))))
  refine G.q (Quiet.remE rfl rfl (by omega) (by omega)) rfl ?_
  refine G.q (Quiet.assign rfl) rfl (G.nil (G.then_n (G.ret ?_)))
  have e : pickZ c n = (-(c + 1)) % n := by unfold pickZ; rw [if_pos h6]
  rw [e]
  exact G.done (l := [.tmp 4]) rfl rfl ⟨rfl, rfl⟩ (by (repeat' constructor)) (by (repeat' constructor))
 ·refine G.skip (G.then_n (G.seq (G.region (G.q (Quiet.move rfl) rfl (G.q (Quiet.move rfl) rfl ?_)))))
  refine G.q (Quiet.remE rfl rfl (by omega) (by omega)) rfl ?_
  refine G.q (Quiet.assign rfl) rfl (G.nil (G.then_n (G.ret ?_)))
  have e : pickZ c n = (c) % n := by unfold pickZ; rw [if_neg h6]
  rw [e]
  exact G.done (l := [.tmp 4]) rfl rfl ⟨rfl, rfl⟩ (by (repeat' constructor)) (by (repeat' constructor))

theorem fill_entry (zx : Int) (s0 s1 s2 s3 s4 s5 s6 s7 : Value) : Instr.fill (fun i => [(0, 1), (1, 1), (2, 1), (3, 8)].toArray[i]?) ([.int .i64 0, .int .i64 0, .int .i64 0, .int .i64 0, .string (bs []), .string (bs []), .slice none 0 0, .int .i64 0, .int .i64 0, .int .i64 0, .slice none 0 0] : List Value).toArray [(0, vint zx), (3, .agg ([s0, s1, s2, s3, s4, s5, s6, s7] : List Value).toArray)] = some (([vint zx, vint 0, vint 0] ++ [s0, s1, s2, s3, s4, s5, s6, s7] : List Value).toArray) := by kernel_rfl
def nilA : HP := fun _ => True
theorem nilA_ok (h : Hp) : nilA h := trivial
theorem pick7_is (c n : Int) {k : Int} (e : pickZ c n = k) (hc : -9223372036854775808 ≤ c ∧ c ≤ 9223372036854775807) (hn : 0 < n) : Fn Tryz.prog 21 #[vint c, vint n] [] fun v L => v = vint k ∧ L = [] := e ▸ pick7_spec c n hc hn
theorem strs_at {xs : List Bs} {i : Nat} (hi : i < xs.length) : (strs xs)[i * 1]? = some (vstr xs[i]) := by
  unfold strs; rw [Nat.mul_one, List.getElem?_map, List.getElem?_eq_getElem hi]; rfl
end Go.Proofs.YtnnbelmpbmfdnaaGreatDoor

/- Own work, by program: the document's tree: soundness: walked. -/

namespace Go.Proofs.YtnnbelmpbmfdnaaGreatDoor
open Go
set_option maxRecDepth 100000 in
theorem rfinds_spec (x : Nat) (τ : Tr) (y : Pt) (hpl : y.path.length ≤ 1048576) (N : Nat) (ho : τ.Ok N) (hN : N ≤ 1073741824) : Fn Tryz.prog 93 #[vptr x, .agg (ptC y).toArray] [refR x τ] fun v L => v = .bool (findsZ τ y) ∧ L = [refR x τ] := by
 refine Fn.intro (vs := [vptr x, .agg (ptC y).toArray]) Tryz.func93 rfl rfl ?_
 intro F W
 have hof := ho.few
 have hpar := parent_len y.path
 refine G.seq (G.region ?_)
 refine G.op (OpSpec.box rfl) (by (repeat' constructor)) rfl ?nx1
 rintro v L' ⟨bx, rfl, rfl⟩
 refine G.q (Quiet.assign rfl) rfl (G.nil ?_)
 refine G.ptCast (b := bx) (l' := ptC y) (by (repeat' constructor)) rfl ?_
 refine G.then_n (G.seq (G.region (G.q (Quiet.move rfl) rfl (G.q (Quiet.fieldAddr rfl fo_37_1) rfl ?_))))
 refine G.q (Quiet.load rfl ag_9 (by (repeat' constructor)) (rfl)) rfl ?_
 refine G.op (OpSpec.call Tryz.func69 rfl rfl (vs := [_, _]) rfl (rplace_spec x τ y.path (by omega))) (by (repeat' constructor)) rfl ?nx7
 rintro v L' ⟨rfl, rfl⟩
 refine G.q (Quiet.int rfl rfl rfl) rfl (G.q (Quiet.assign rfl) rfl (G.nil (G.then_n (G.seq (G.seq (G.region (G.q (Quiet.fieldAddr rfl fo_37_0) rfl ?_)))))))
 refine G.q (Quiet.load rfl ag_3 (by (repeat' constructor)) (rfl)) rfl ?_
 refine G.nil (G.then_n (G.block (G.seq (G.region (G.q (Quiet.int rfl rfl rfl) rfl (G.q (Quiet.assign rfl) rfl (G.nil (G.then_n ?_))))))))
 refine G.condD rfl (fun h14 => ?_) (fun h14 => ?_)
 ·refine G.seq (G.region (G.q (Quiet.fieldAddr rfl fo_37_1) rfl ?_))
  refine G.q (Quiet.load rfl ag_9 (by (repeat' constructor)) (rfl)) rfl ?_
  refine G.op (OpSpec.call Tryz.func118 rfl rfl (vs := [_]) rfl (rable_spec _ ?hs15)) (by (repeat' constructor)) rfl ?nx16
  case hs15 => first | assumption | omega
  rintro v L' ⟨rfl, rfl⟩
  refine G.q (Quiet.assign rfl) rfl (G.nil (G.then_n (G.seq (G.region (G.q (Quiet.move rfl) rfl (G.q (Quiet.move rfl) rfl ?_))))))
  refine G.dec (t := 20) rfl (fun h5_20 => ?_) (fun h5_20 => ?_)
  ·refine G.kDT (t := 18) rfl h5_20 (G.kDT (t := 6) rfl h5_20 (G.kDT (t := 19) rfl h5_20 (G.grun (t := 20) rfl rfl rfl (G.q (Quiet.move rfl) rfl (G.grun (t := 20) rfl rfl rfl (G.q (Quiet.not rfl) rfl (G.q (Quiet.pickT rfl rfl) rfl (G.q (Quiet.move rfl) rfl ?_))))))))
   refine G.ndec (t := 24) rfl (fun h5_24 => ?_) (fun h5_24 => ?_)
   ·refine G.kNT (t := 22) rfl h5_24 (G.kNT (t := 23) rfl h5_24 (G.grun (t := 24) rfl rfl rfl (G.q (Quiet.move rfl) rfl (G.grun (t := 24) rfl rfl rfl (G.q (Quiet.fieldAddr rfl fo_37_1) rfl (G.grun (t := 24) rfl rfl rfl ?_))))))
    refine G.q (Quiet.load rfl ag_9 (by (repeat' constructor)) (rfl)) rfl ?_
    refine G.grun (t := 24) rfl rfl rfl ?_
    refine G.op (OpSpec.call Tryz.func51 rfl rfl (vs := [_]) rfl (rparent_spec _ ?hs22)) (by (repeat' constructor)) rfl ?nx23
    case hs22 => first | assumption | omega
    rintro v L' ⟨rfl, rfl⟩
    refine G.grun (t := 24) rfl rfl rfl ?_
    refine G.op (OpSpec.call Tryz.func69 rfl rfl (vs := [_, _]) rfl (rplace_spec x τ (parentZ y.path) (by omega))) (by (repeat' constructor)) rfl ?nx25
    rintro v L' ⟨rfl, rfl⟩
    refine G.grun (t := 24) rfl rfl rfl (G.q (Quiet.int rfl rfl rfl) rfl (G.q (Quiet.pickT rfl rfl) rfl (G.q (Quiet.assign rfl) rfl (G.nil (G.then_n (G.ret (G.blk_r (G.then_r ?_))))))))
    have hz : findsZ τ y = decide (ableZ y.path ∧ ¬ thereT τ y.path ∧ thereT τ (parentZ y.path)) := by unfold findsZ; rw [if_pos h14]
    exact G.done (l := [.tmp 4]) rfl rfl ⟨congrArg Value.bool (by rw [hz]; exact decide_eq_decide.2 ⟨fun e => ⟨h5_20, fun g => h5_24 (show 0 ≤ placeTo τ.nodes y.path from (place_iff (l := τ.nodes) (p := y.path)).2 g), (place_iff (l := τ.nodes)).1 e⟩, fun e => (place_iff (l := τ.nodes)).2 e.2.2⟩), rfl⟩ (by (repeat' constructor)) (by (repeat' constructor))
   ·refine G.kNF (t := 22) rfl h5_24 (G.kNF (t := 23) rfl h5_24 (G.gskip (t := 24) rfl rfl rfl rfl (G.gskip (t := 24) rfl rfl rfl rfl (G.gskip (t := 24) rfl rfl rfl rfl (G.gskip (t := 24) rfl rfl rfl rfl (G.gskip (t := 24) rfl rfl rfl rfl (G.gskip (t := 24) rfl rfl rfl rfl (G.q (Quiet.pickF rfl rfl) rfl (G.q (Quiet.assign rfl) rfl (G.nil (G.then_n (G.ret (G.blk_r (G.then_r ?_))))))))))))))
    have hz : findsZ τ y = decide (ableZ y.path ∧ ¬ thereT τ y.path ∧ thereT τ (parentZ y.path)) := by unfold findsZ; rw [if_pos h14]
    exact G.done (l := [.tmp 4]) rfl rfl ⟨congrArg Value.bool (by rw [hz, decide_eq_false (fun g => g.2.1 ((place_iff (l := τ.nodes) (p := y.path)).1 h5_24))]), rfl⟩ (by (repeat' constructor)) (by (repeat' constructor))
  ·refine G.kDF (t := 18) rfl h5_20 (G.kDF (t := 6) rfl h5_20 (G.kDF (t := 19) rfl h5_20 (G.gskip (t := 20) rfl rfl rfl rfl (G.gskip (t := 20) rfl rfl rfl rfl (G.q (Quiet.pickF rfl rfl) rfl (G.q (Quiet.move rfl) rfl (G.gskip (t := 24) rfl rfl rfl rfl (G.gskip (t := 24) rfl rfl rfl rfl (G.gskip (t := 24) rfl rfl rfl rfl (G.gskip (t := 24) rfl rfl rfl rfl (G.gskip (t := 24) rfl rfl rfl rfl (G.gskip (t := 24) rfl rfl rfl rfl (G.q (Quiet.pickF rfl rfl) rfl (G.q (Quiet.assign rfl) rfl (G.nil (G.then_n (G.ret (G.blk_r (G.then_r ?_)))))))))))))))))))
   have hz : findsZ τ y = decide (ableZ y.path ∧ ¬ thereT τ y.path ∧ thereT τ (parentZ y.path)) := by unfold findsZ; rw [if_pos h14]
   exact G.done (l := [.tmp 4]) rfl rfl ⟨congrArg Value.bool (by rw [hz, decide_eq_false (fun g => h5_20 g.1)]), rfl⟩ (by (repeat' constructor)) (by (repeat' constructor))
 ·refine G.seq (G.region (G.q (Quiet.int rfl rfl rfl) rfl (G.q (Quiet.assign rfl) rfl (G.nil (G.then_n ?_)))))
  refine G.condD rfl (fun h32 => ?_) (fun h32 => ?_)
  ·refine G.seq (G.region (G.q (Quiet.fieldAddr rfl fo_37_1) rfl ?_))
   refine G.q (Quiet.load rfl ag_9 (by (repeat' constructor)) (rfl)) rfl ?_
   refine G.q (Quiet.strne rfl rfl) rfl (G.q (Quiet.move rfl) rfl ?_)
   refine G.ndec (t := 37) rfl (fun h7_37 => ?_) (fun h7_37 => ?_)
   ·refine G.kNT (t := 36) rfl h7_37 (G.grun (t := 37) rfl rfl rfl (G.q (Quiet.move rfl) rfl (G.q (Quiet.pickT rfl rfl) rfl (G.q (Quiet.move rfl) rfl ?_))))
    refine G.dec (t := 40) rfl (fun h7_40 => ?_) (fun h7_40 => ?_)
    ·refine G.kDT (t := 11) rfl h7_40 (G.kDT (t := 5) rfl h7_40 (G.kDT (t := 38) rfl h7_40 (G.kDT (t := 39) rfl h7_40 (G.grun (t := 40) rfl rfl rfl (G.q (Quiet.move rfl) rfl (G.grun (t := 40) rfl rfl rfl (G.q (Quiet.fieldAddr rfl fo_37_1) rfl (G.grun (t := 40) rfl rfl rfl ?_))))))))
     refine G.q (Quiet.load rfl ag_9 (by (repeat' constructor)) (rfl)) rfl ?_
     refine G.grun (t := 40) rfl rfl rfl ?_
     refine G.op (OpSpec.call Tryz.func65 rfl rfl (vs := [_, _]) rfl (rkids_spec x τ y.path N ho (by omega))) (by (repeat' constructor)) rfl ?nx38
     rintro v L' ⟨⟨a7, c7, rfl⟩, rfl⟩
     refine G.grun (t := 40) rfl rfl rfl (G.q (Quiet.slen rfl Tryz.underlying40 rfl) rfl (G.grun (t := 40) rfl rfl rfl (G.q (Quiet.int rfl rfl rfl) rfl (G.q (Quiet.pickT rfl rfl) rfl (G.q (Quiet.assign rfl) rfl (G.nil (G.then_n (G.ret (G.blk_r (G.then_r ?_))))))))))
     have hz : findsZ τ y = decide (y.path ≠ [47] ∧ thereT τ y.path ∧ (kidsZ τ y.path).length = 0) := by unfold findsZ; rw [if_neg h14, if_pos h32]
     exact G.done (l := [.tmp 4]) rfl rfl ⟨congrArg Value.bool (by rw [hz]; exact decide_eq_decide.2 ⟨fun e => ⟨h7_37, (place_iff (l := τ.nodes) (p := y.path)).1 h7_40, by omega⟩, fun e => by have := e.2.2; omega⟩), rfl⟩ (by (repeat' constructor)) (by (repeat' constructor))
    ·refine G.kDF (t := 11) rfl h7_40 (G.kDF (t := 5) rfl h7_40 (G.kDF (t := 38) rfl h7_40 (G.kDF (t := 39) rfl h7_40 (G.gskip (t := 40) rfl rfl rfl rfl (G.gskip (t := 40) rfl rfl rfl rfl (G.gskip (t := 40) rfl rfl rfl rfl (G.gskip (t := 40) rfl rfl rfl rfl (G.gskip (t := 40) rfl rfl rfl rfl (G.gskip (t := 40) rfl rfl rfl rfl (G.q (Quiet.pickF rfl rfl) rfl (G.q (Quiet.assign rfl) rfl (G.nil (G.then_n (G.ret (G.blk_r (G.then_r ?_))))))))))))))))
     have hz : findsZ τ y = decide (y.path ≠ [47] ∧ thereT τ y.path ∧ (kidsZ τ y.path).length = 0) := by unfold findsZ; rw [if_neg h14, if_pos h32]
     exact G.done (l := [.tmp 4]) rfl rfl ⟨congrArg Value.bool (by rw [hz, decide_eq_false (fun g => h7_40 ((place_iff (l := τ.nodes) (p := y.path)).2 g.2.1))]), rfl⟩ (by (repeat' constructor)) (by (repeat' constructor))
   ·refine G.kNF (t := 36) rfl h7_37 (G.gskip (t := 37) rfl rfl rfl rfl (G.q (Quiet.pickF rfl rfl) rfl (G.q (Quiet.move rfl) rfl (G.gskip (t := 40) rfl rfl rfl rfl (G.gskip (t := 40) rfl rfl rfl rfl (G.gskip (t := 40) rfl rfl rfl rfl (G.gskip (t := 40) rfl rfl rfl rfl (G.gskip (t := 40) rfl rfl rfl rfl (G.gskip (t := 40) rfl rfl rfl rfl (G.q (Quiet.pickF rfl rfl) rfl (G.q (Quiet.assign rfl) rfl (G.nil (G.then_n (G.ret (G.blk_r (G.then_r ?_))))))))))))))))
    have hz : findsZ τ y = decide (y.path ≠ [47] ∧ thereT τ y.path ∧ (kidsZ τ y.path).length = 0) := by unfold findsZ; rw [if_neg h14, if_pos h32]
    exact G.done (l := [.tmp 4]) rfl rfl ⟨congrArg Value.bool (by rw [hz, decide_eq_false (fun g => g.1 h7_37)]), rfl⟩ (by (repeat' constructor)) (by (repeat' constructor))
  ·refine G.seq (G.seq (G.region (G.q (Quiet.int rfl rfl rfl) rfl (G.q (Quiet.assign rfl) rfl (G.nil (G.then_n ?_))))))
   refine G.dec (t := 48) rfl (fun h48 => ?_) (fun h48 => ?_)
   ·refine G.condT rfl (G.skip (G.then_n (G.condT rfl (G.seq (G.region (G.q (Quiet.move rfl) rfl (G.q (Quiet.assign rfl) rfl (G.nil (G.then_n (G.ret (G.blk_r (G.then_r ?_))))))))))))
    have hz : findsZ τ y = decide (thereT τ y.path) := by unfold findsZ; rw [if_neg h14, if_neg h32, if_pos (by omega)]
    exact G.done (l := [.tmp 4]) rfl rfl ⟨congrArg Value.bool (by rw [hz]; exact decide_eq_decide.2 (place_iff (l := τ.nodes) (p := y.path))), rfl⟩ (by (repeat' constructor)) (by (repeat' constructor))
   ·refine G.condF rfl (G.region (G.q (Quiet.int rfl rfl rfl) rfl (G.q (Quiet.assign rfl) rfl (G.nil (G.then_n ?_)))))
    refine G.dec (t := 48) rfl (fun h48 => ?_) (fun h48 => ?_)
    ·refine G.condT rfl (G.seq (G.region (G.q (Quiet.move rfl) rfl (G.q (Quiet.assign rfl) rfl (G.nil (G.then_n (G.ret (G.blk_r (G.then_r ?_)))))))))
     have hz : findsZ τ y = decide (thereT τ y.path) := by unfold findsZ; rw [if_neg h14, if_neg h32, if_pos (by omega)]
     exact G.done (l := [.tmp 4]) rfl rfl ⟨congrArg Value.bool (by rw [hz]; exact decide_eq_decide.2 (place_iff (l := τ.nodes) (p := y.path))), rfl⟩ (by (repeat' constructor)) (by (repeat' constructor))
    ·refine G.condF rfl (G.skip (G.blk_n (G.then_n (G.seq (G.region (G.q (Quiet.assign rfl) rfl (G.nil (G.then_n (G.ret ?_)))))))))
     have hz : findsZ τ y = false := by unfold findsZ; rw [if_neg h14, if_neg h32, if_neg (by omega)]
     exact G.done (l := [.tmp 4]) rfl rfl ⟨by rw [hz], rfl⟩ (by (repeat' constructor)) (by (repeat' constructor))

set_option maxRecDepth 100000 in
theorem rsound_spec (x : Nat) (τ : Tr) (zx ses xid : Int) (y : Pt) (subs : List Pt) (p : HP) (hx : TxA p y subs) (N : Nat) (ho : τ.Ok N) (hN : N + subs.length + 1 ≤ 1073741824) : Fn Tryz.prog 45 #[vptr x, .agg ([vint zx, vint ses, vint xid] ++ ptC y).toArray] [refR x τ, p] fun v L => v = .bool (soundZ τ zx y subs) ∧ L = [refR x τ, p] := by
 refine Fn.intro (vs := [vptr x, .agg ([vint zx, vint ses, vint xid] ++ ptC y).toArray]) Tryz.func45 rfl rfl ?_
 intro F W
 refine G.rdAny (p := p) hx.rd (by (repeat' constructor)) fun asb csb esub _ => ?_
 have hrd := hx.rd
 rw [esub] at hrd
 have hfs := hx.few
 have hosf := ho.sfew
 have hpl := hx.own.plen
 refine G.seq (G.region ?_)
 refine G.op (OpSpec.box rfl) (by (repeat' constructor)) rfl ?nx1
 rintro v L' ⟨be, rfl, rfl⟩
 refine G.q (Quiet.assign rfl) rfl (G.nil ?_)
 refine G.ptCast (b := be) (l' := ([vint zx, vint ses, vint xid] ++ ptC y)) (by (repeat' constructor)) rfl ?_
 refine G.then_n (G.seq (G.region (G.q (Quiet.move rfl) rfl ?_)))
 refine G.op (OpSpec.call Tryz.func91 rfl rfl (vs := [_]) rfl (rclone_spec x τ N ho (by omega))) (by (repeat' constructor)) rfl ?nx5
 rintro v L' ⟨u, rfl, rfl⟩
 refine G.q (Quiet.assign rfl) rfl (G.nil (G.then_n (G.seq (G.region (G.q (Quiet.fieldAddr rfl fo_39_3) rfl ?_)))))
 refine G.q (Quiet.loadAs (vs := ptC y) rfl ag_37 (by (repeat' constructor)) (by simp [ptC]) rfl) rfl ?_
 refine G.op (OpSpec.allocA ze_37) (by (repeat' constructor)) rfl ?nx9
 rintro v L' ⟨bx, rfl, rfl⟩
 refine G.op (OpSpec.storeA rfl rfl ?c11 sz_37 ?c14 ?c12 ?c13) (by (repeat' constructor)) rfl ?nx15
 case c11 => exact hx.own.all
 case c14 => rfl
 case c12 => simp [ptC]
 case c13 => exact nfz0 _ _
 rintro v L' rfl
 refine G.nil ?_
 refine G.ptCast (b := bx) (l' := ptC y) (by (repeat' constructor)) rfl ?_
 refine G.then_n (G.seq (G.seq (G.region (G.q (Quiet.fieldAddr rfl fo_37_0) rfl ?_))))
 refine G.q (Quiet.load rfl ag_3 (by (repeat' constructor)) (rfl)) rfl ?_
 refine G.nil (G.then_n (G.block (G.seq (G.seq (G.region (G.q (Quiet.int rfl rfl rfl) rfl (G.q (Quiet.assign rfl) rfl (G.nil (G.then_n ?_)))))))))
 refine G.dec (t := 15) rfl (fun h15 => ?_) (fun h15 => ?_)
 ·refine G.condT rfl (G.skip (G.then_n (G.condT rfl (G.seq (G.region (G.q (Quiet.move rfl) rfl ?_))))))
  refine G.q (Quiet.loadAs (vs := ptC y) rfl ag_37 (by (repeat' constructor)) (by simp [ptC]) rfl) rfl ?_
  refine G.op (OpSpec.call Tryz.func93 rfl rfl (vs := [_, _]) rfl (rfinds_spec u τ y hpl N ho (by omega))) (by (repeat' constructor)) rfl ?nx20
  rintro v L' ⟨rfl, rfl⟩
  refine G.q (Quiet.assign rfl) rfl (G.nil (G.then_n (G.ret (G.blk_r (G.then_r ?_)))))
  have hz : soundZ τ zx y subs = findsZ τ y := by unfold soundZ; rw [if_pos (by omega)]
  exact G.done (l := [.tmp 4]) rfl rfl ⟨by rw [hz], rfl⟩ (by (repeat' constructor)) (by (repeat' constructor))
 ·refine G.condF rfl (G.seq (G.region (G.q (Quiet.int rfl rfl rfl) rfl (G.q (Quiet.assign rfl) rfl (G.nil (G.then_n ?_))))))
  refine G.dec (t := 15) rfl (fun h15 => ?_) (fun h15 => ?_)
  ·refine G.condT rfl (G.skip (G.then_n (G.condT rfl (G.seq (G.region (G.q (Quiet.move rfl) rfl ?_))))))
   refine G.q (Quiet.loadAs (vs := ptC y) rfl ag_37 (by (repeat' constructor)) (by simp [ptC]) rfl) rfl ?_
   refine G.op (OpSpec.call Tryz.func93 rfl rfl (vs := [_, _]) rfl (rfinds_spec u τ y hpl N ho (by omega))) (by (repeat' constructor)) rfl ?nx24
   rintro v L' ⟨rfl, rfl⟩
   refine G.q (Quiet.assign rfl) rfl (G.nil (G.then_n (G.ret (G.blk_r (G.then_r ?_)))))
   have hz : soundZ τ zx y subs = findsZ τ y := by unfold soundZ; rw [if_pos (by omega)]
   exact G.done (l := [.tmp 4]) rfl rfl ⟨by rw [hz], rfl⟩ (by (repeat' constructor)) (by (repeat' constructor))
  ·refine G.condF rfl (G.seq (G.region (G.q (Quiet.int rfl rfl rfl) rfl (G.q (Quiet.assign rfl) rfl (G.nil (G.then_n ?_))))))
   refine G.dec (t := 15) rfl (fun h15 => ?_) (fun h15 => ?_)
   ·refine G.condT rfl (G.skip (G.then_n (G.condT rfl (G.seq (G.region (G.q (Quiet.move rfl) rfl ?_))))))
    refine G.q (Quiet.loadAs (vs := ptC y) rfl ag_37 (by (repeat' constructor)) (by simp [ptC]) rfl) rfl ?_
    refine G.op (OpSpec.call Tryz.func93 rfl rfl (vs := [_, _]) rfl (rfinds_spec u τ y hpl N ho (by omega))) (by (repeat' constructor)) rfl ?nx28
    rintro v L' ⟨rfl, rfl⟩
    refine G.q (Quiet.assign rfl) rfl (G.nil (G.then_n (G.ret (G.blk_r (G.then_r ?_)))))
    have hz : soundZ τ zx y subs = findsZ τ y := by unfold soundZ; rw [if_pos (by omega)]
    exact G.done (l := [.tmp 4]) rfl rfl ⟨by rw [hz], rfl⟩ (by (repeat' constructor)) (by (repeat' constructor))
   ·refine G.condF rfl (G.region (G.q (Quiet.int rfl rfl rfl) rfl (G.q (Quiet.assign rfl) rfl (G.nil (G.then_n ?_)))))
    refine G.dec (t := 15) rfl (fun h15 => ?_) (fun h15 => ?_)
    ·refine G.condT rfl (G.seq (G.region (G.q (Quiet.move rfl) rfl ?_)))
     refine G.q (Quiet.loadAs (vs := ptC y) rfl ag_37 (by (repeat' constructor)) (by simp [ptC]) rfl) rfl ?_
     refine G.op (OpSpec.call Tryz.func93 rfl rfl (vs := [_, _]) rfl (rfinds_spec u τ y hpl N ho (by omega))) (by (repeat' constructor)) rfl ?nx32
     rintro v L' ⟨rfl, rfl⟩
     refine G.q (Quiet.assign rfl) rfl (G.nil (G.then_n (G.ret (G.blk_r (G.then_r ?_)))))
     have hz : soundZ τ zx y subs = findsZ τ y := by unfold soundZ; rw [if_pos (by omega)]
     exact G.done (l := [.tmp 4]) rfl rfl ⟨by rw [hz], rfl⟩ (by (repeat' constructor)) (by (repeat' constructor))
    ·refine G.condF rfl (G.seq (G.seq (G.region (G.q (Quiet.int rfl rfl rfl) rfl (G.q (Quiet.assign rfl) rfl (G.nil (G.then_n ?_)))))))
     refine G.dec (t := 23) rfl (fun h23 => ?_) (fun h23 => ?_)
     ·refine G.condT rfl (G.skip (G.then_n (G.condT rfl (G.seq (G.region (G.q (Quiet.assign rfl) rfl (G.nil (G.then_n (G.block ?_)))))))))
      have hsz : soundZ τ zx y subs = soundL τ zx (decide (y.kind = 6)) subs := by unfold soundZ; rw [if_neg (by omega), if_pos (by omega)]
      refine G.rfCast (x := u) (τ' := (partsZ τ zx (subs.take 0)).1) (by (repeat' constructor)) (by rw [List.take_zero]; rfl) ?_
      refine G.loopK (ι := Nat) (fun q E => (7, vint q) :: E) (fun q => [refR u (partsZ τ zx (subs.take q)).1]) (fun q => q ≤ subs.length ∧ soundL τ zx (decide (y.kind = 6)) subs = soundL (partsZ τ zx (subs.take q)).1 zx (decide (y.kind = 6)) (subs.drop q)) (fun q => subs.length - q) (0) (ts := [3, 5, 6]) (.cons rfl (.cons rfl (.cons rfl (.nil)))) (⟨Nat.zero_le _, by rw [List.take_zero]; rfl⟩) ⟨rfl, rfl, rfl, rfl, trivial⟩ (by (repeat' constructor)) ?_
      rintro i ⟨hi, hsnd⟩
      have hok : (partsZ τ zx (subs.take i)).1.Ok (N + subs.length) := (ho.parts zx _ (fun w hw => (hx.each w (List.mem_of_mem_take hw)).few)).more (by rw [List.length_take]; omega)
      refine G.seq (G.seq (G.region (G.q (Quiet.move rfl) rfl (G.q (Quiet.fieldAddr rfl fo_37_7) rfl ?_))))
      refine G.q (Quiet.as (v' := .slice asb subs.length csb) (by exact esub) (Quiet.load rfl ag_35 (by (repeat' constructor)) (rfl))) rfl ?_
      refine G.q (Quiet.slen rfl Tryz.underlying35 rfl) rfl (G.q (Quiet.int rfl rfl rfl) rfl (G.nil (G.then_n ?_)))
      refine G.condD rfl (fun h30 => ?_) (fun h30 => ?_)
      ·have hi2 : i < subs.length := by omega
       refine G.rdShape (p := p) hrd (by (repeat' constructor)) (by omega) fun bs os e1 => ?_
       subst e1
       have hys := hx.each _ (List.getElem_mem hi2)
       refine G.skip (G.then_n (G.seq (G.block (G.seq (G.region (G.q (Quiet.move rfl) rfl (G.q (Quiet.fieldAddr rfl fo_37_7) rfl ?_)))))))
       refine G.q (Quiet.as (v' := .slice (some ⟨bs, os, none⟩) subs.length csb) (by exact esub) (Quiet.load rfl ag_35 (by (repeat' constructor)) (rfl))) rfl ?_
       refine G.q (Quiet.move rfl) rfl ?_
       refine G.q (Quiet.indexAddr rfl rfl el_35 (by omega)) rfl ?_
       refine G.q (Quiet.loadRdA (sz := 8) (j := i * 8) (k := 8) (p := p) (vs := ptC subs[i]) rfl ag_37 (by (repeat' constructor)) hrd (by simp) (by omega) (by omega) (flatMap_at (f := ptC) (sz := 8) (fun _ _ => rfl) (by omega))) rfl ?_
       refine G.op (OpSpec.call Tryz.func93 rfl rfl (vs := [_, _]) rfl (rfinds_spec u (partsZ τ zx (subs.take i)).1 subs[i] hys.plen (N + subs.length) hok (by omega))) (by (repeat' constructor)) rfl ?nx47
       rintro v L' ⟨rfl, rfl⟩
       refine G.q (Quiet.assign rfl) rfl (G.nil (G.then_n (G.seq (G.seq (G.region (G.q (Quiet.move rfl) rfl (G.q (Quiet.not rfl) rfl (G.q (Quiet.move rfl) rfl ?_))))))))
       refine G.bool (t := 42) rfl (fun h15_42 => ?_) (fun h15_42 => ?_)
       ·refine G.kB (t := 41) rfl h15_42 (G.gskip (t := 42) rfl rfl rfl rfl (G.gskip (t := 42) rfl rfl rfl rfl (G.gskip (t := 42) rfl rfl rfl rfl (G.gskip (t := 42) rfl rfl rfl rfl (G.gskipU (t := 46) rfl rfl rfl (G.gskipU (t := 46) rfl rfl rfl (G.gskipU (t := 46) rfl rfl rfl (G.gskipU (t := 46) rfl rfl rfl (G.gskipU (t := 46) rfl rfl rfl (G.gskipU (t := 46) rfl rfl rfl (G.gskipU (t := 46) rfl rfl rfl (G.gskip (t := 42) rfl rfl rfl rfl (G.q (Quiet.pickT rfl rfl) rfl (G.nil (G.then_n (G.condT rfl (G.seq (G.region (G.q (Quiet.assign rfl) rfl (G.nil (G.then_n (G.ret (G.then_r (G.blk_r (G.then_r (G.then_r (G.blk_r (G.blk_r (G.then_r ?_)))))))))))))))))))))))))))))
        have hz : soundZ τ zx y subs = false := by rw [hsz, hsnd, sound_step hi2]; simp only [Bool.not_eq_true'] at h15_42; rw [h15_42]; rfl
        exact G.done (l := [.tmp 4]) rfl rfl ⟨by rw [hz], rfl⟩ (by (repeat' constructor)) (by (repeat' constructor))
       ·refine G.kB (t := 41) rfl h15_42 (G.grun (t := 42) rfl rfl rfl (G.q (Quiet.fieldAddr rfl fo_37_0) rfl (G.grun (t := 42) rfl rfl rfl ?_)))
        refine G.q (Quiet.load rfl ag_3 (by (repeat' constructor)) (rfl)) rfl ?_
        refine G.grun (t := 42) rfl rfl rfl (G.q (Quiet.int rfl rfl rfl) rfl (G.grun (t := 42) rfl rfl rfl (G.q (Quiet.move rfl) rfl ?_)))
        refine G.dec (t := 46) rfl (fun h15_46 => ?_) (fun h15_46 => ?_)
        ·refine G.kDT (t := 45) rfl h15_46 (G.grun (t := 46) rfl rfl rfl (G.q (Quiet.fieldAddr rfl fo_37_7) rfl (G.grun (t := 46) rfl rfl rfl ?_)))
         refine G.q (Quiet.as (v' := .slice (some ⟨bs, os, none⟩) subs.length csb) (by exact esub) (Quiet.load rfl ag_35 (by (repeat' constructor)) (rfl))) rfl ?_
         refine G.grun (t := 46) rfl rfl rfl (G.q (Quiet.move rfl) rfl (G.grun (t := 46) rfl rfl rfl ?_))
         refine G.q (Quiet.indexAddr rfl rfl el_35 (by omega)) rfl ?_
         refine G.grun (t := 46) rfl rfl rfl (G.q (Quiet.fieldAddr rfl fo_37_0) rfl (G.grun (t := 46) rfl rfl rfl ?_))
         refine G.q (Quiet.loadRd (sz := 8) (j := i * 8 + 0) (p := p) rfl ag_3 (by (repeat' constructor)) hrd (by omega) ((flatMap_cell (f := ptC) (sz := 8) (l := subs) (i := i) (k := 0) (fun _ _ => rfl) (by omega) (by decide)).trans rfl)) rfl ?_
         refine G.grun (t := 46) rfl rfl rfl (G.q (Quiet.int rfl rfl rfl) rfl (G.grun (t := 42) rfl rfl rfl (G.q (Quiet.pickT rfl rfl) rfl (G.q (Quiet.pickF rfl rfl) rfl (G.nil (G.then_n ?_))))))
         refine G.condN rfl (fun h55 => ?_) (fun h55 => ?_)
         ·refine G.seq (G.region (G.q (Quiet.assign rfl) rfl (G.nil (G.then_n (G.ret (G.then_r (G.blk_r (G.then_r (G.then_r (G.blk_r (G.blk_r (G.then_r ?_))))))))))))
          have hz : soundZ τ zx y subs = false := by rw [hsz, hsnd, sound_step hi2]; rw [decide_eq_true h15_46, decide_eq_false h55]; simp
          exact G.done (l := [.tmp 4]) rfl rfl ⟨by rw [hz], rfl⟩ (by (repeat' constructor)) (by (repeat' constructor))
         ·refine G.skip (G.then_n ?_)
          refine G.draw [8] [[0, 1, 2, 3, 4, 5, 6, 7, 8]] mixed (by kernel_rfl) ?_
          refine Phases.go [] (by (repeat' constructor)) ?_
          refine D.qw [8] rfl (by kernel_rfl) (Quiet.move rfl) ?_
          refine D.qw [2, 4, 5, 8] rfl (by kernel_rfl) (Quiet.fieldAddr rfl fo_37_7) ?_
          refine D.qw [4, 5, 8] rfl (by kernel_rfl) (Quiet.as (v' := .slice (some ⟨bs, os, none⟩) subs.length csb) (by exact esub) (Quiet.load rfl ag_35 (by (repeat' constructor)) (rfl))) ?_
          refine D.qw [4, 5, 8] rfl (by kernel_rfl) (Quiet.move rfl) ?_
          refine D.qw [5, 8] rfl (by kernel_rfl) (Quiet.indexAddr rfl rfl el_35 (by omega)) ?_
          refine D.qw [8] rfl (by kernel_rfl) (Quiet.loadRdA (sz := 8) (j := i * 8) (k := 8) (p := p) (vs := ptC subs[i]) rfl ag_37 (by (repeat' constructor)) hrd (by simp) (by omega) (by omega) (flatMap_at (f := ptC) (sz := 8) (fun _ _ => rfl) (by omega))) ?_
          refine D.qw [7, 8] rfl (by kernel_rfl) (Quiet.fieldAddr rfl fo_39_0) ?_
          refine D.qw [8] rfl (by kernel_rfl) (Quiet.load rfl ag_3 (by (repeat' constructor)) (rfl)) ?_
          refine D.h rfl (by kernel_rfl) (OpSpec.call Tryz.func60 rfl rfl (vs := [_, _, _]) rfl (rpart_spec u (partsZ τ zx (subs.take i)).1 subs[i] zx p hys (N + subs.length) hok (by omega))) (by (repeat' constructor)) ?nx71
          rintro v L' ⟨a15, c15, rfl, rfl⟩
          refine D.ph (Phases.fin (G.blk_n (G.then_n (G.region (G.q (Quiet.move rfl) rfl ?_)))))
          refine G.q (Quiet.add rfl rfl (by omega)) rfl ?_
          refine G.q (Quiet.assign rfl) rfl (G.nil (G.then_n ?_))
          have htru : (findsZ (partsZ τ zx (subs.take i)).1 subs[i] && (!(decide (y.kind = 6)) || decide (subs[i].kind = 2))) = true := by have h1 : findsZ (partsZ τ zx (subs.take i)).1 subs[i] = true := (by simpa using h15_42); rw [h1, decide_eq_true (p := subs[i].kind = 2) h55]; simp
          refine G.rfCast (x := u) (τ' := (partsZ τ zx (subs.take (i + 1))).1) (by (repeat' constructor)) (by rw [List.take_succ_eq_append_getElem hi2, parts_snoc]) ?_
          exact G.roundK (i + 1) (⟨by omega, by rw [hsnd, sound_step hi2, htru, Bool.true_and]⟩) (by omega) ⟨rfl, rfl, rfl, rfl, trivial⟩ (by (repeat' constructor)) (by ((repeat (apply Have.cons; (repeat (first | exact Pick.here | apply Pick.there)))); apply Have.base; repeat' constructor))
        ·refine G.kDF (t := 45) rfl h15_46 (G.gskip (t := 46) rfl rfl rfl rfl (G.gskip (t := 46) rfl rfl rfl rfl (G.gskip (t := 46) rfl rfl rfl rfl (G.gskip (t := 46) rfl rfl rfl rfl (G.gskip (t := 46) rfl rfl rfl rfl (G.gskip (t := 46) rfl rfl rfl rfl (G.gskip (t := 46) rfl rfl rfl rfl (G.grun (t := 42) rfl rfl rfl (G.q (Quiet.pickF rfl rfl) rfl (G.q (Quiet.pickF rfl rfl) rfl (G.nil (G.then_n (G.condF rfl (G.skip (G.then_n ?_)))))))))))))))
         refine G.draw [8] [[0, 1, 2, 3, 4, 5, 6, 7, 8]] mixed (by kernel_rfl) ?_
         refine Phases.go [] (by (repeat' constructor)) ?_
         refine D.qw [8] rfl (by kernel_rfl) (Quiet.move rfl) ?_
         refine D.qw [2, 4, 5, 8] rfl (by kernel_rfl) (Quiet.fieldAddr rfl fo_37_7) ?_
         refine D.qw [4, 5, 8] rfl (by kernel_rfl) (Quiet.as (v' := .slice (some ⟨bs, os, none⟩) subs.length csb) (by exact esub) (Quiet.load rfl ag_35 (by (repeat' constructor)) (rfl))) ?_
         refine D.qw [4, 5, 8] rfl (by kernel_rfl) (Quiet.move rfl) ?_
         refine D.qw [5, 8] rfl (by kernel_rfl) (Quiet.indexAddr rfl rfl el_35 (by omega)) ?_
         refine D.qw [8] rfl (by kernel_rfl) (Quiet.loadRdA (sz := 8) (j := i * 8) (k := 8) (p := p) (vs := ptC subs[i]) rfl ag_37 (by (repeat' constructor)) hrd (by simp) (by omega) (by omega) (flatMap_at (f := ptC) (sz := 8) (fun _ _ => rfl) (by omega))) ?_
         refine D.qw [7, 8] rfl (by kernel_rfl) (Quiet.fieldAddr rfl fo_39_0) ?_
         refine D.qw [8] rfl (by kernel_rfl) (Quiet.load rfl ag_3 (by (repeat' constructor)) (rfl)) ?_
         refine D.h rfl (by kernel_rfl) (OpSpec.call Tryz.func60 rfl rfl (vs := [_, _, _]) rfl (rpart_spec u (partsZ τ zx (subs.take i)).1 subs[i] zx p hys (N + subs.length) hok (by omega))) (by (repeat' constructor)) ?nx84
         rintro v L' ⟨a15, c15, rfl, rfl⟩
         refine D.ph (Phases.fin (G.blk_n (G.then_n (G.region (G.q (Quiet.move rfl) rfl ?_)))))
         refine G.q (Quiet.add rfl rfl (by omega)) rfl ?_
         refine G.q (Quiet.assign rfl) rfl (G.nil (G.then_n ?_))
         have htru : (findsZ (partsZ τ zx (subs.take i)).1 subs[i] && (!(decide (y.kind = 6)) || decide (subs[i].kind = 2))) = true := by have h1 : findsZ (partsZ τ zx (subs.take i)).1 subs[i] = true := (by simpa using h15_42); rw [h1, decide_eq_false h15_46]; simp
         refine G.rfCast (x := u) (τ' := (partsZ τ zx (subs.take (i + 1))).1) (by (repeat' constructor)) (by rw [List.take_succ_eq_append_getElem hi2, parts_snoc]) ?_
         exact G.roundK (i + 1) (⟨by omega, by rw [hsnd, sound_step hi2, htru, Bool.true_and]⟩) (by omega) ⟨rfl, rfl, rfl, rfl, trivial⟩ (by (repeat' constructor)) (by ((repeat (apply Have.cons; (repeat (first | exact Pick.here | apply Pick.there)))); apply Have.base; repeat' constructor))
      ·have hii : i = subs.length := by omega
       refine G.exit (G.then_e (G.then_e (G.blk_e (G.blk_n (G.then_n (G.seq (G.region (G.q (Quiet.assign rfl) rfl (G.nil (G.then_n (G.ret ?_)))))))))))
       have hz : soundZ τ zx y subs = true := by rw [hsz, hsnd, hii, List.drop_length]; rfl
       exact G.done (l := [.tmp 4]) rfl rfl ⟨by rw [hz], rfl⟩ (by (repeat' constructor)) (by (repeat' constructor))
     ·refine G.condF rfl (G.region (G.q (Quiet.int rfl rfl rfl) rfl (G.q (Quiet.assign rfl) rfl (G.nil (G.then_n ?_)))))
      refine G.dec (t := 23) rfl (fun h23 => ?_) (fun h23 => ?_)
      ·refine G.condT rfl (G.seq (G.region (G.q (Quiet.assign rfl) rfl (G.nil (G.then_n (G.block ?_))))))
       have hsz : soundZ τ zx y subs = soundL τ zx (decide (y.kind = 6)) subs := by unfold soundZ; rw [if_neg (by omega), if_pos (by omega)]
       refine G.rfCast (x := u) (τ' := (partsZ τ zx (subs.take 0)).1) (by (repeat' constructor)) (by rw [List.take_zero]; rfl) ?_
       refine G.loopK (ι := Nat) (fun q E => (7, vint q) :: E) (fun q => [refR u (partsZ τ zx (subs.take q)).1]) (fun q => q ≤ subs.length ∧ soundL τ zx (decide (y.kind = 6)) subs = soundL (partsZ τ zx (subs.take q)).1 zx (decide (y.kind = 6)) (subs.drop q)) (fun q => subs.length - q) (0) (ts := [3, 5, 6]) (.cons rfl (.cons rfl (.cons rfl (.nil)))) (⟨Nat.zero_le _, by rw [List.take_zero]; rfl⟩) ⟨rfl, rfl, rfl, rfl, trivial⟩ (by (repeat' constructor)) ?_
       rintro i ⟨hi, hsnd⟩
       have hok : (partsZ τ zx (subs.take i)).1.Ok (N + subs.length) := (ho.parts zx _ (fun w hw => (hx.each w (List.mem_of_mem_take hw)).few)).more (by rw [List.length_take]; omega)
       refine G.seq (G.seq (G.region (G.q (Quiet.move rfl) rfl (G.q (Quiet.fieldAddr rfl fo_37_7) rfl ?_))))
       refine G.q (Quiet.as (v' := .slice asb subs.length csb) (by exact esub) (Quiet.load rfl ag_35 (by (repeat' constructor)) (rfl))) rfl ?_
       refine G.q (Quiet.slen rfl Tryz.underlying35 rfl) rfl (G.q (Quiet.int rfl rfl rfl) rfl (G.nil (G.then_n ?_)))
       refine G.condD rfl (fun h30 => ?_) (fun h30 => ?_)
       ·have hi2 : i < subs.length := by omega
        refine G.rdShape (p := p) hrd (by (repeat' constructor)) (by omega) fun bs os e1 => ?_
        subst e1
        have hys := hx.each _ (List.getElem_mem hi2)
        refine G.skip (G.then_n (G.seq (G.block (G.seq (G.region (G.q (Quiet.move rfl) rfl (G.q (Quiet.fieldAddr rfl fo_37_7) rfl ?_)))))))
        refine G.q (Quiet.as (v' := .slice (some ⟨bs, os, none⟩) subs.length csb) (by exact esub) (Quiet.load rfl ag_35 (by (repeat' constructor)) (rfl))) rfl ?_
        refine G.q (Quiet.move rfl) rfl ?_
        refine G.q (Quiet.indexAddr rfl rfl el_35 (by omega)) rfl ?_
        refine G.q (Quiet.loadRdA (sz := 8) (j := i * 8) (k := 8) (p := p) (vs := ptC subs[i]) rfl ag_37 (by (repeat' constructor)) hrd (by simp) (by omega) (by omega) (flatMap_at (f := ptC) (sz := 8) (fun _ _ => rfl) (by omega))) rfl ?_
        refine G.op (OpSpec.call Tryz.func93 rfl rfl (vs := [_, _]) rfl (rfinds_spec u (partsZ τ zx (subs.take i)).1 subs[i] hys.plen (N + subs.length) hok (by omega))) (by (repeat' constructor)) rfl ?nx102
        rintro v L' ⟨rfl, rfl⟩
        refine G.q (Quiet.assign rfl) rfl (G.nil (G.then_n (G.seq (G.seq (G.region (G.q (Quiet.move rfl) rfl (G.q (Quiet.not rfl) rfl (G.q (Quiet.move rfl) rfl ?_))))))))
        refine G.bool (t := 42) rfl (fun h15_42 => ?_) (fun h15_42 => ?_)
        ·refine G.kB (t := 41) rfl h15_42 (G.gskip (t := 42) rfl rfl rfl rfl (G.gskip (t := 42) rfl rfl rfl rfl (G.gskip (t := 42) rfl rfl rfl rfl (G.gskip (t := 42) rfl rfl rfl rfl (G.gskipU (t := 46) rfl rfl rfl (G.gskipU (t := 46) rfl rfl rfl (G.gskipU (t := 46) rfl rfl rfl (G.gskipU (t := 46) rfl rfl rfl (G.gskipU (t := 46) rfl rfl rfl (G.gskipU (t := 46) rfl rfl rfl (G.gskipU (t := 46) rfl rfl rfl (G.gskip (t := 42) rfl rfl rfl rfl (G.q (Quiet.pickT rfl rfl) rfl (G.nil (G.then_n (G.condT rfl (G.seq (G.region (G.q (Quiet.assign rfl) rfl (G.nil (G.then_n (G.ret (G.then_r (G.blk_r (G.then_r (G.then_r (G.blk_r (G.blk_r (G.then_r ?_)))))))))))))))))))))))))))))
         have hz : soundZ τ zx y subs = false := by rw [hsz, hsnd, sound_step hi2]; simp only [Bool.not_eq_true'] at h15_42; rw [h15_42]; rfl
         exact G.done (l := [.tmp 4]) rfl rfl ⟨by rw [hz], rfl⟩ (by (repeat' constructor)) (by (repeat' constructor))
        ·refine G.kB (t := 41) rfl h15_42 (G.grun (t := 42) rfl rfl rfl (G.q (Quiet.fieldAddr rfl fo_37_0) rfl (G.grun (t := 42) rfl rfl rfl ?_)))
         refine G.q (Quiet.load rfl ag_3 (by (repeat' constructor)) (rfl)) rfl ?_
         refine G.grun (t := 42) rfl rfl rfl (G.q (Quiet.int rfl rfl rfl) rfl (G.grun (t := 42) rfl rfl rfl (G.q (Quiet.move rfl) rfl ?_)))
         refine G.dec (t := 46) rfl (fun h15_46 => ?_) (fun h15_46 => ?_)
         ·refine G.kDT (t := 45) rfl h15_46 (G.grun (t := 46) rfl rfl rfl (G.q (Quiet.fieldAddr rfl fo_37_7) rfl (G.grun (t := 46) rfl rfl rfl ?_)))
          refine G.q (Quiet.as (v' := .slice (some ⟨bs, os, none⟩) subs.length csb) (by exact esub) (Quiet.load rfl ag_35 (by (repeat' constructor)) (rfl))) rfl ?_
          refine G.grun (t := 46) rfl rfl rfl (G.q (Quiet.move rfl) rfl (G.grun (t := 46) rfl rfl rfl ?_))
          refine G.q (Quiet.indexAddr rfl rfl el_35 (by omega)) rfl ?_
          refine G.grun (t := 46) rfl rfl rfl (G.q (Quiet.fieldAddr rfl fo_37_0) rfl (G.grun (t := 46) rfl rfl rfl ?_))
          refine G.q (Quiet.loadRd (sz := 8) (j := i * 8 + 0) (p := p) rfl ag_3 (by (repeat' constructor)) hrd (by omega) ((flatMap_cell (f := ptC) (sz := 8) (l := subs) (i := i) (k := 0) (fun _ _ => rfl) (by omega) (by decide)).trans rfl)) rfl ?_
          refine G.grun (t := 46) rfl rfl rfl (G.q (Quiet.int rfl rfl rfl) rfl (G.grun (t := 42) rfl rfl rfl (G.q (Quiet.pickT rfl rfl) rfl (G.q (Quiet.pickF rfl rfl) rfl (G.nil (G.then_n ?_))))))
          refine G.condN rfl (fun h55 => ?_) (fun h55 => ?_)
          ·refine G.seq (G.region (G.q (Quiet.assign rfl) rfl (G.nil (G.then_n (G.ret (G.then_r (G.blk_r (G.then_r (G.then_r (G.blk_r (G.blk_r (G.then_r ?_))))))))))))
           have hz : soundZ τ zx y subs = false := by rw [hsz, hsnd, sound_step hi2]; rw [decide_eq_true h15_46, decide_eq_false h55]; simp
           exact G.done (l := [.tmp 4]) rfl rfl ⟨by rw [hz], rfl⟩ (by (repeat' constructor)) (by (repeat' constructor))
          ·refine G.skip (G.then_n ?_)
           refine G.draw [8] [[0, 1, 2, 3, 4, 5, 6, 7, 8]] mixed (by kernel_rfl) ?_
           refine Phases.go [] (by (repeat' constructor)) ?_
           refine D.qw [8] rfl (by kernel_rfl) (Quiet.move rfl) ?_
           refine D.qw [2, 4, 5, 8] rfl (by kernel_rfl) (Quiet.fieldAddr rfl fo_37_7) ?_
           refine D.qw [4, 5, 8] rfl (by kernel_rfl) (Quiet.as (v' := .slice (some ⟨bs, os, none⟩) subs.length csb) (by exact esub) (Quiet.load rfl ag_35 (by (repeat' constructor)) (rfl))) ?_
           refine D.qw [4, 5, 8] rfl (by kernel_rfl) (Quiet.move rfl) ?_
           refine D.qw [5, 8] rfl (by kernel_rfl) (Quiet.indexAddr rfl rfl el_35 (by omega)) ?_
           refine D.qw [8] rfl (by kernel_rfl) (Quiet.loadRdA (sz := 8) (j := i * 8) (k := 8) (p := p) (vs := ptC subs[i]) rfl ag_37 (by (repeat' constructor)) hrd (by simp) (by omega) (by omega) (flatMap_at (f := ptC) (sz := 8) (fun _ _ => rfl) (by omega))) ?_
           refine D.qw [7, 8] rfl (by kernel_rfl) (Quiet.fieldAddr rfl fo_39_0) ?_
           refine D.qw [8] rfl (by kernel_rfl) (Quiet.load rfl ag_3 (by (repeat' constructor)) (rfl)) ?_
           refine D.h rfl (by kernel_rfl) (OpSpec.call Tryz.func60 rfl rfl (vs := [_, _, _]) rfl (rpart_spec u (partsZ τ zx (subs.take i)).1 subs[i] zx p hys (N + subs.length) hok (by omega))) (by (repeat' constructor)) ?nx126
           rintro v L' ⟨a15, c15, rfl, rfl⟩
           refine D.ph (Phases.fin (G.blk_n (G.then_n (G.region (G.q (Quiet.move rfl) rfl ?_)))))
           refine G.q (Quiet.add rfl rfl (by omega)) rfl ?_
           refine G.q (Quiet.assign rfl) rfl (G.nil (G.then_n ?_))
           have htru : (findsZ (partsZ τ zx (subs.take i)).1 subs[i] && (!(decide (y.kind = 6)) || decide (subs[i].kind = 2))) = true := by have h1 : findsZ (partsZ τ zx (subs.take i)).1 subs[i] = true := (by simpa using h15_42); rw [h1, decide_eq_true (p := subs[i].kind = 2) h55]; simp
           refine G.rfCast (x := u) (τ' := (partsZ τ zx (subs.take (i + 1))).1) (by (repeat' constructor)) (by rw [List.take_succ_eq_append_getElem hi2, parts_snoc]) ?_
           exact G.roundK (i + 1) (⟨by omega, by rw [hsnd, sound_step hi2, htru, Bool.true_and]⟩) (by omega) ⟨rfl, rfl, rfl, rfl, trivial⟩ (by (repeat' constructor)) (by ((repeat (apply Have.cons; (repeat (first | exact Pick.here | apply Pick.there)))); apply Have.base; repeat' constructor))
         ·refine G.kDF (t := 45) rfl h15_46 (G.gskip (t := 46) rfl rfl rfl rfl (G.gskip (t := 46) rfl rfl rfl rfl (G.gskip (t := 46) rfl rfl rfl rfl (G.gskip (t := 46) rfl rfl rfl rfl (G.gskip (t := 46) rfl rfl rfl rfl (G.gskip (t := 46) rfl rfl rfl rfl (G.gskip (t := 46) rfl rfl rfl rfl (G.grun (t := 42) rfl rfl rfl (G.q (Quiet.pickF rfl rfl) rfl (G.q (Quiet.pickF rfl rfl) rfl (G.nil (G.then_n (G.condF rfl (G.skip (G.then_n ?_)))))))))))))))
          refine G.draw [8] [[0, 1, 2, 3, 4, 5, 6, 7, 8]] mixed (by kernel_rfl) ?_
          refine Phases.go [] (by (repeat' constructor)) ?_
          refine D.qw [8] rfl (by kernel_rfl) (Quiet.move rfl) ?_
          refine D.qw [2, 4, 5, 8] rfl (by kernel_rfl) (Quiet.fieldAddr rfl fo_37_7) ?_
          refine D.qw [4, 5, 8] rfl (by kernel_rfl) (Quiet.as (v' := .slice (some ⟨bs, os, none⟩) subs.length csb) (by exact esub) (Quiet.load rfl ag_35 (by (repeat' constructor)) (rfl))) ?_
          refine D.qw [4, 5, 8] rfl (by kernel_rfl) (Quiet.move rfl) ?_
          refine D.qw [5, 8] rfl (by kernel_rfl) (Quiet.indexAddr rfl rfl el_35 (by omega)) ?_
          refine D.qw [8] rfl (by kernel_rfl) (Quiet.loadRdA (sz := 8) (j := i * 8) (k := 8) (p := p) (vs := ptC subs[i]) rfl ag_37 (by (repeat' constructor)) hrd (by simp) (by omega) (by omega) (flatMap_at (f := ptC) (sz := 8) (fun _ _ => rfl) (by omega))) ?_
          refine D.qw [7, 8] rfl (by kernel_rfl) (Quiet.fieldAddr rfl fo_39_0) ?_
          refine D.qw [8] rfl (by kernel_rfl) (Quiet.load rfl ag_3 (by (repeat' constructor)) (rfl)) ?_
          refine D.h rfl (by kernel_rfl) (OpSpec.call Tryz.func60 rfl rfl (vs := [_, _, _]) rfl (rpart_spec u (partsZ τ zx (subs.take i)).1 subs[i] zx p hys (N + subs.length) hok (by omega))) (by (repeat' constructor)) ?nx139
          rintro v L' ⟨a15, c15, rfl, rfl⟩
          refine D.ph (Phases.fin (G.blk_n (G.then_n (G.region (G.q (Quiet.move rfl) rfl ?_)))))
          refine G.q (Quiet.add rfl rfl (by omega)) rfl ?_
          refine G.q (Quiet.assign rfl) rfl (G.nil (G.then_n ?_))
          have htru : (findsZ (partsZ τ zx (subs.take i)).1 subs[i] && (!(decide (y.kind = 6)) || decide (subs[i].kind = 2))) = true := by have h1 : findsZ (partsZ τ zx (subs.take i)).1 subs[i] = true := (by simpa using h15_42); rw [h1, decide_eq_false h15_46]; simp
          refine G.rfCast (x := u) (τ' := (partsZ τ zx (subs.take (i + 1))).1) (by (repeat' constructor)) (by rw [List.take_succ_eq_append_getElem hi2, parts_snoc]) ?_
          exact G.roundK (i + 1) (⟨by omega, by rw [hsnd, sound_step hi2, htru, Bool.true_and]⟩) (by omega) ⟨rfl, rfl, rfl, rfl, trivial⟩ (by (repeat' constructor)) (by ((repeat (apply Have.cons; (repeat (first | exact Pick.here | apply Pick.there)))); apply Have.base; repeat' constructor))
       ·have hii : i = subs.length := by omega
        refine G.exit (G.then_e (G.then_e (G.blk_e (G.blk_n (G.then_n (G.seq (G.region (G.q (Quiet.assign rfl) rfl (G.nil (G.then_n (G.ret ?_)))))))))))
        have hz : soundZ τ zx y subs = true := by rw [hsz, hsnd, hii, List.drop_length]; rfl
        exact G.done (l := [.tmp 4]) rfl rfl ⟨by rw [hz], rfl⟩ (by (repeat' constructor)) (by (repeat' constructor))
      ·refine G.condF rfl (G.skip (G.blk_n (G.then_n (G.seq (G.region (G.q (Quiet.assign rfl) rfl (G.nil (G.then_n (G.ret ?_)))))))))
       have hz : soundZ τ zx y subs = true := by unfold soundZ; rw [if_neg (by omega), if_neg (by omega)]
       exact G.done (l := [.tmp 4]) rfl rfl ⟨by rw [hz], rfl⟩ (by (repeat' constructor)) (by (repeat' constructor))

end Go.Proofs.YtnnbelmpbmfdnaaGreatDoor

/- Own work, by program: law 07: a part of a sound history: walked. -/

namespace Go.Proofs.YtnnbelmpbmfdnaaGreatDoor
open Go
def names6 : List Bs := [[97], [98], [99], [120], [121], [122]]
def nm6 (k : Int) : Bs := names6.getD k.toNat []
theorem nm6_at {k : Int} (h0 : 0 ≤ k) (h6 : k < 6) : (names6.map vstr)[0 + k.toNat * 1]? = some (vstr (nm6 k)) := by
  have : 0 + k.toNat * 1 < names6.length := by show _ < 6; omega
  rw [List.getElem?_map, List.getElem?_eq_getElem this]
  unfold nm6
  rw [List.getD_eq_getElem?_getD, List.getElem?_eq_getElem (by show _ < 6; omega)]
  simp
theorem nm6_len (k : Int) : (nm6 k).length ≤ 1 := by
  unfold nm6 names6
  rcases Nat.lt_or_ge k.toNat 6 with h | h
  · rw [List.getD_eq_getElem?_getD]
    match k.toNat, h with
    | 0, _ => decide
    | 1, _ => decide
    | 2, _ => decide
    | 3, _ => decide
    | 4, _ => decide
    | 5, _ => decide
  · rw [List.getD_eq_getElem?_getD, List.getElem?_eq_none (by simpa using h)]; decide
structure IntsOk (a : Ac0) : Prop where
  h1 : -9223372036854775808 ≤ a.1 ∧ a.1 ≤ 9223372036854775807
  h2 : -9223372036854775808 ≤ a.2.1 ∧ a.2.1 ≤ 9223372036854775807
  h3 : -9223372036854775808 ≤ a.2.2.1 ∧ a.2.2.1 ≤ 9223372036854775807
/-- What a part is, whether it may be or not. -/
structure PtB (y : Pt) : Prop where
  cell : isCell y.aclV = true
  subs : y.subsV = .slice none 0 0
  acl : y.acl.length ≤ 1
  path : y.path.length ≤ 62
theorem pt_cells {y : Pt} (h1 : isCell y.aclV = true) (h2 : isCell y.subsV = true) : ∀ v ∈ ptC y, isCell v = true := by
  intro v hv
  simp only [ptC, List.mem_cons, List.not_mem_nil, or_false] at hv
  rcases hv with rfl | rfl | rfl | rfl | rfl | rfl | rfl | rfl
  case inr.inr.inr.inl => exact h1
  case inr.inr.inr.inr.inr.inr.inr => exact h2
  all_goals rfl
theorem al_get {β : Type} {l : List (Bs × β)} (hn : (l.map (·.1)).Nodup) {i : Nat} (hi : i < l.length) : alook l l[i].1 = some l[i].2 := al_of_mem hn (List.getElem_mem hi)
set_option maxHeartbeats 1000000 in
set_option maxRecDepth 100000 in
theorem part7_spec (x : Nat) (τ : Tr) (a : Ac0) (K : Int) (hinv : HInv τ K) (hK : K ≤ 1099511627776) (ha : IntsOk a) (hd : a.2.2.2.1.length ≤ 100) : Fn Tryz.prog 92 #[vptr x, .agg (ac0C a).toArray, .bool true] [refR x τ] fun v L => ∃ (y : Pt) (b : Bool), v = .tuple #[.agg (ptC y).toArray, .bool b] ∧ (b = true → PartH τ y K) ∧ PtB y ∧ L = [refR x τ, rdO 2 y.aclV y.acl.length (y.acl.flatMap acC)] := by
 refine Fn.intro (vs := [vptr x, .agg (ac0C a).toArray, .bool true]) Tryz.func92 rfl rfl ?_
 intro F W
 have hnd := hinv.ok.sorted.nodup linB
 have hfew := hinv.ok.few
 have hsf := hinv.ok.sfew
 have hpos := hinv.pos
 have hnl := nm6_len (pickZ a.2.2.1 6)
 have hp6 := pickZ_range a.2.2.1 (n := 6) (by decide)
 have hp31 := pickZ_range a.2.2.1 (n := 31) (by decide)
 have hpw := pickZ_range a.1 (n := 6) (by decide)
 obtain ⟨i, hi⟩ : ∃ i : Nat, pickZ a.2.1 (τ.nodes.length : Int) = i := ⟨(pickZ a.2.1 τ.nodes.length).toNat, by have := pickZ_range a.2.1 (n := (τ.nodes.length : Int)) (by omega); omega⟩
 have hi2 : i < τ.nodes.length := by have := pickZ_range a.2.1 (n := (τ.nodes.length : Int)) (by omega); omega
 refine G.rfOpen (x := x) (τ := τ) (by (repeat' constructor)) fun an cn as1 cs l hl => ?_
 have hll := nds_len hl
 have hin : i < l.length := by omega
 have hli : alook τ.nodes l[i].1 = some l[i].2.2 := by have g := nds_get hl (i := i) (by omega); have g2 := al_get hnd (i := i) (by omega); rw [g] at g2; exact g2
 have hvi := hinv.ver _ _ hli
 refine G.slShape (T := 131) (sz := 12) (v := .slice an l.length cn) (xs := l.flatMap rnC) (by (repeat' constructor)) (by omega) fun bn bn' e0 mbn _ => ?_
 simp only [Value.slice.injEq, true_and] at e0
 obtain ⟨rfl, rfl⟩ := e0
 have hpli : l[i].1.length ≤ 60 := able_len (by have h2 := hinv.ok.able _ (al_mem hli); exact h2)
 have hkl := kid_len l[i].1 (nm6 (pickZ a.2.2.1 6))
 have hpl62 : (kidZ l[i].1 (nm6 (pickZ a.2.2.1 6))).length ≤ 62 := by omega
 refine G.seq (G.region ?_)
 refine G.op (OpSpec.box rfl) (by (repeat' constructor)) rfl ?nx1
 rintro v L' ⟨ba, rfl, rfl⟩
 refine G.op (OpSpec.allocA ze_37) (by (repeat' constructor)) rfl ?nx3
 rintro v L' ⟨b0, rfl, rfl⟩
 refine G.q (Quiet.assign rfl) rfl (G.nil ?_)
 refine G.ptCast (b := ba) (l' := ac0C a) (by (repeat' constructor)) rfl ?_
 refine G.then_n (G.seq ?_)
 refine G.aclShape (l := l) (i := i) (by omega) (by (repeat' constructor)) fun hcl => ?_
 refine G.draw [14, 15] [[0, 1, 2, 3, 4, 5, 6, 7, 8, 9, 10, 11, 12, 13, 14], [15]] mixed (by kernel_rfl) ?_
 refine Phases.go [rnR _ _, ptc x _ _, ptc ba _ _] (by (repeat' constructor)) ?_
 refine D.q rfl (by kernel_rfl) (Quiet.move rfl) ?_
 refine D.q rfl (by kernel_rfl) (Quiet.nilp rfl) ?_
 refine D.q rfl (by kernel_rfl) (Quiet.fieldAddr rfl fo_101_0) ?_
 refine D.q rfl (by kernel_rfl) (Quiet.load rfl ag_98 (by (repeat' constructor)) (rfl)) ?_
 refine D.q rfl (by kernel_rfl) (Quiet.fieldAddr rfl fo_94_1) ?_
 refine D.q rfl (by kernel_rfl) (Quiet.load rfl ag_3 (by (repeat' constructor)) (rfl)) ?_
 refine D.q rfl (by kernel_rfl) (Quiet.move rfl) ?_
 refine D.q rfl (by kernel_rfl) (Quiet.nilp rfl) ?_
 refine D.q rfl (by kernel_rfl) (Quiet.fieldAddr rfl fo_101_0) ?_
 refine D.q rfl (by kernel_rfl) (Quiet.load rfl ag_98 (by (repeat' constructor)) (rfl)) ?_
 refine D.q rfl (by kernel_rfl) (Quiet.slen rfl Tryz.underlying98 rfl) ?_
 refine D.m rfl (by kernel_rfl) (OpSpec.call Tryz.func21 rfl rfl (vs := [_, _]) rfl (pick7_is _ _ (k := (i : Int)) (by rw [hll]; exact hi) ha.h2 (by first | decide | omega))) (by (repeat' constructor)) ?nx17
 refine D.q rfl (by kernel_rfl) (Quiet.indexAddr rfl rfl el_98 (by omega)) ?_
 refine D.q rfl (by kernel_rfl) (Quiet.loadRdA (sz := 12) (j := i * 12) (k := 12) (p := rnR _ l) (vs := rnC l[i]) rfl ag_131 (by (repeat' constructor)) (fun h hp => slR_rd hp) (by omega) (by omega) (by omega) (flatMap_at (f := rnC) (sz := 12) (fun _ _ => rfl) (by omega))) ?_
 refine D.h rfl (by kernel_rfl) (OpSpec.allocA ze_131) (by (repeat' constructor)) ?nx21
 rintro v L' ⟨bN, rfl, rfl⟩
 refine D.ph ?_
 refine Phases.go [] (by (repeat' constructor)) ?_
 refine D.h rfl (by kernel_rfl) (OpSpec.storeA rfl rfl ?c23 sz_131 ?c26 ?c24 ?c25) (by (repeat' constructor)) ?nx27
 case c23 => exact rn_cells hcl
 case c26 => rfl
 case c24 => simp [rnC]
 case c25 => exact nfz0 _ _
 rintro v L' rfl
 refine D.ph (Phases.fin ?_)
 refine G.ptCast (b := bN) (l' := rnC l[i]) (by (repeat' constructor)) rfl ?_
 refine G.rfFold (x := x) (τ := τ) (l := l) hl (by (repeat' constructor)) rfl rfl rfl rfl rfl ?_
 generalize l[i] = z at hli hvi hpli hkl hpl62 hcl ⊢
 refine G.then_n (G.seq (G.region (G.q (Quiet.move rfl) rfl (G.q (Quiet.fieldAddr rfl fo_131_0) rfl ?_))))
 refine G.q (Quiet.load rfl ag_9 (by (repeat' constructor)) (rfl)) rfl ?_
 refine G.op (OpSpec.call Tryz.func51 rfl rfl (vs := [_]) rfl (rparent_spec _ ?hs31)) (by (repeat' constructor)) rfl ?nx32
 case hs31 => first | assumption | omega
 rintro v L' ⟨rfl, rfl⟩
 refine G.op (OpSpec.call Tryz.func69 rfl rfl (vs := [_, _]) rfl (rplace_spec x τ (parentZ z.1) (by omega))) (by (repeat' constructor)) rfl ?nx34
 rintro v L' ⟨rfl, rfl⟩
 refine G.q (Quiet.assign rfl) rfl (G.nil ?_)
 refine G.rfOpen (x := x) (τ := τ) (by (repeat' constructor)) fun am cm as2 cs2 m hm => ?_
 have hml := nds_len hm
 refine G.then_n (G.seq (G.seq (G.region (G.q (Quiet.fieldAddr rfl fo_94_0) rfl ?_))))
 refine G.q (Quiet.load rfl ag_3 (by (repeat' constructor)) (rfl)) rfl ?_
 refine G.op (OpSpec.call Tryz.func21 rfl rfl (vs := [_, _]) rfl (pick7_spec _ _ ha.h1 (by decide))) (by (repeat' constructor)) rfl ?nx38
 rintro v L' ⟨rfl, rfl⟩
 refine G.nil (G.then_n (G.block (G.seq ?_)))
 refine G.joinK (ι := Bool) (fun q E => (35, .bool q) :: E) (fun q => []) (fun q => True) (pre := []) (ts := [0, 2, 4, 6, 7, 8, 9, 34]) (.cons rfl (.cons rfl (.cons rfl (.cons rfl (.cons rfl (.cons rfl (.cons rfl (.cons rfl (.nil))))))))) (by (repeat' constructor)) ?_ ?_
 ·refine G.seq (G.region (G.q (Quiet.int rfl rfl rfl) rfl (G.q (Quiet.assign rfl) rfl (G.nil (G.then_n ?_)))))
  refine G.condD rfl (fun h35 => ?_) (fun h35 => ?_)
  ·refine G.skip (G.then_n ?_)
   exact G.meetK (decide (pickZ a.1 6 = 0)) (trivial) ⟨rfl, rfl, rfl, rfl, rfl, rfl, rfl, rfl, rfl, trivial⟩ (by (repeat' constructor)) (by ((repeat (apply Have.cons; (repeat (first | exact Pick.here | apply Pick.there)))); apply Have.base; repeat' constructor))
  ·refine G.seq (G.region (G.q (Quiet.int rfl rfl rfl) rfl (G.q (Quiet.assign rfl) rfl (G.nil (G.then_n ?_)))))
   refine G.condD rfl (fun h35 => ?_) (fun h35 => ?_)
   ·refine G.skip (G.then_n ?_)
    exact G.meetK (decide (pickZ a.1 6 = 1)) (trivial) ⟨rfl, rfl, rfl, rfl, rfl, rfl, rfl, rfl, rfl, trivial⟩ (by (repeat' constructor)) (by ((repeat (apply Have.cons; (repeat (first | exact Pick.here | apply Pick.there)))); apply Have.base; repeat' constructor))
   ·refine G.region (G.q (Quiet.int rfl rfl rfl) rfl (G.q (Quiet.assign rfl) rfl (G.nil (G.then_n ?_))))
    exact G.meetK (decide (pickZ a.1 6 = 2)) (trivial) ⟨rfl, rfl, rfl, rfl, rfl, rfl, rfl, rfl, rfl, trivial⟩ (by (repeat' constructor)) (by ((repeat (apply Have.cons; (repeat (first | exact Pick.here | apply Pick.there)))); apply Have.base; repeat' constructor))
 ·rintro bq _
  refine G.condB rfl (fun h35 => ?_) (fun h35 => ?_)
  ·refine G.seq (G.region ?_)
   refine G.op (OpSpec.buildSlice1 (vs := [_, _, _, _, _, _]) el_40 ze_9 rfl rfl rfl rfl rfl (by decide)) (by (repeat' constructor)) rfl ?nx43
   rintro v L' ⟨bs, rfl, rfl⟩
   refine G.q (Quiet.assign rfl) rfl (G.nil ?_)
   refine G.ptCast (b := bs) (l' := names6.map vstr) (by (repeat' constructor)) rfl ?_
   refine G.then_n (G.seq ?_)
   refine G.draw [] [[0, 1, 2, 3, 4, 5, 6, 7, 8, 9]] mixed (by kernel_rfl) ?_
   refine Phases.go [ptc bs _ _, ptc ba _ _, ptc bN _ _] (by (repeat' constructor)) ?_
   refine D.qw [1, 8, 9] rfl (by kernel_rfl) (Quiet.fieldAddr rfl fo_131_0) ?_
   refine D.qw [8, 9] rfl (by kernel_rfl) (Quiet.load rfl ag_9 (by (repeat' constructor)) (rfl)) ?_
   refine D.qw [6, 7, 8, 9] rfl (by kernel_rfl) (Quiet.move rfl) ?_
   refine D.qw [4, 5, 6, 7, 8, 9] rfl (by kernel_rfl) (Quiet.fieldAddr rfl fo_94_2) ?_
   refine D.qw [5, 6, 7, 8, 9] rfl (by kernel_rfl) (Quiet.load rfl ag_3 (by (repeat' constructor)) (rfl)) ?_
   refine D.m rfl (by kernel_rfl) (OpSpec.call Tryz.func21 rfl rfl (vs := [_, _]) rfl (pick7_spec _ _ ha.h3 (by decide))) (by (repeat' constructor)) ?nx49
   refine D.qw [7, 8, 9] rfl (by kernel_rfl) (Quiet.indexAddr rfl rfl el_40 (by simp; omega)) ?_
   refine D.qw [8, 9] rfl (by kernel_rfl) (Quiet.load rfl ag_9 (by (repeat' constructor)) (nm6_at hp6.1 hp6.2)) ?_
   refine D.m rfl (by kernel_rfl) (OpSpec.call Tryz.func52 rfl rfl (vs := [_, _]) rfl (rkid_spec _ _ ?hs53 ?hn54)) (by (repeat' constructor)) ?nx55
   case hs53 => first | assumption | omega
   case hn54 => first | assumption | omega | simp
   refine D.qw [] rfl (by kernel_rfl) (Quiet.assign rfl) ?_
   refine D.ph (Phases.fin (G.then_n (G.seq (G.region (G.q (Quiet.assign rfl) rfl (G.nil (G.then_n (G.seq (G.seq (G.region (G.q (Quiet.move rfl) rfl ?_)))))))))))
   refine G.q (Quiet.as (v' := .bool true) (by rfl) (Quiet.move rfl)) rfl ?_
   refine G.grun (t := 50) rfl rfl rfl (G.q (Quiet.move rfl) rfl (G.grun (t := 50) rfl rfl rfl (G.q (Quiet.nilp rfl) rfl (G.grun (t := 50) rfl rfl rfl (G.q (Quiet.fieldAddr rfl fo_101_1) rfl (G.grun (t := 50) rfl rfl rfl ?_))))))
   refine G.q (Quiet.load rfl ag_99 (by (repeat' constructor)) (rfl)) rfl ?_
   refine G.grun (t := 50) rfl rfl rfl (G.q (Quiet.slen rfl Tryz.underlying99 rfl) rfl (G.grun (t := 50) rfl rfl rfl (G.q (Quiet.int rfl rfl rfl) rfl (G.q (Quiet.pickT rfl rfl) rfl (G.q (Quiet.move rfl) rfl ?_)))))
   refine G.dec (t := 58) rfl (fun h10_58 => ?_) (fun h10_58 => ?_)
   ·refine G.kDT (t := 56) rfl h10_58 (G.kDT (t := 57) rfl h10_58 (G.grun (t := 58) rfl rfl rfl (G.q (Quiet.fieldAddr rfl fo_94_2) rfl (G.grun (t := 58) rfl rfl rfl ?_))))
    refine G.q (Quiet.load rfl ag_3 (by (repeat' constructor)) (rfl)) rfl ?_
    refine G.grun (t := 58) rfl rfl rfl ?_
    refine G.op (OpSpec.call Tryz.func21 rfl rfl (vs := [_, _]) rfl (pick7_spec _ _ ha.h3 (by decide))) (by (repeat' constructor)) rfl ?nx67
    rintro v L' ⟨rfl, rfl⟩
    refine G.grun (t := 58) rfl rfl rfl (G.q (Quiet.int rfl rfl rfl) rfl (G.q (Quiet.pickT rfl rfl) rfl (G.nil (G.then_n ?_))))
    refine G.condD rfl (fun h63 => ?_) (fun h63 => ?_)
    ·obtain ⟨j, hjp⟩ : ∃ j : Nat, pickZ a.2.1 (τ.sess.length : Int) = j := ⟨(pickZ a.2.1 τ.sess.length).toNat, by have := pickZ_range a.2.1 (n := (τ.sess.length : Int)) (by omega); omega⟩
     have hj : j < τ.sess.length := by have := pickZ_range a.2.1 (n := (τ.sess.length : Int)) (by omega); omega
     refine G.slShape (T := 134) (sz := 3) (v := .slice as2 τ.sess.length cs2) (xs := τ.sess.flatMap rsC) (by (repeat' constructor)) (by omega) fun bs bs' e0 mbs _ => ?_
     simp only [Value.slice.injEq, true_and] at e0
     obtain ⟨rfl, rfl⟩ := e0
     refine G.draw [] [[0, 1, 2, 3, 4, 5, 6, 7, 8, 9, 10, 11, 12, 13, 14, 15]] mixed (by kernel_rfl) ?_
     refine Phases.go [rsR _ _, ptc x _ _, ptc ba _ _] (by (repeat' constructor)) ?_
     refine D.qw [1, 2, 3, 12, 13, 14, 15] rfl (by kernel_rfl) (Quiet.move rfl) ?_
     refine D.qw [2, 3, 12, 13, 14, 15] rfl (by kernel_rfl) (Quiet.nilp rfl) ?_
     refine D.qw [3, 12, 13, 14, 15] rfl (by kernel_rfl) (Quiet.fieldAddr rfl fo_101_1) ?_
     refine D.qw [12, 13, 14, 15] rfl (by kernel_rfl) (Quiet.load rfl ag_99 (by (repeat' constructor)) (rfl)) ?_
     refine D.qw [5, 11, 12, 13, 14, 15] rfl (by kernel_rfl) (Quiet.fieldAddr rfl fo_94_1) ?_
     refine D.qw [11, 12, 13, 14, 15] rfl (by kernel_rfl) (Quiet.load rfl ag_3 (by (repeat' constructor)) (rfl)) ?_
     refine D.qw [7, 8, 9, 10, 11, 12, 13, 14, 15] rfl (by kernel_rfl) (Quiet.move rfl) ?_
     refine D.qw [8, 9, 10, 11, 12, 13, 14, 15] rfl (by kernel_rfl) (Quiet.nilp rfl) ?_
     refine D.qw [9, 10, 11, 12, 13, 14, 15] rfl (by kernel_rfl) (Quiet.fieldAddr rfl fo_101_1) ?_
     refine D.qw [10, 11, 12, 13, 14, 15] rfl (by kernel_rfl) (Quiet.load rfl ag_99 (by (repeat' constructor)) (rfl)) ?_
     refine D.qw [11, 12, 13, 14, 15] rfl (by kernel_rfl) (Quiet.slen rfl Tryz.underlying99 rfl) ?_
     refine D.m rfl (by kernel_rfl) (OpSpec.call Tryz.func21 rfl rfl (vs := [_, _]) rfl (pick7_is _ _ (k := (j : Int)) hjp ha.h2 (by first | decide | omega))) (by (repeat' constructor)) ?nx81
     refine D.qw [13, 14, 15] rfl (by kernel_rfl) (Quiet.indexAddr rfl rfl el_99 (by omega)) ?_
     refine D.qw [14, 15] rfl (by kernel_rfl) (Quiet.fieldAddr rfl fo_134_0) ?_
     refine D.qw [15] rfl (by kernel_rfl) (Quiet.loadRd (sz := 3) (j := j * 3 + 0) (p := rsR _ τ.sess) rfl ag_3 (by (repeat' constructor)) (fun h hp => slR_rd hp) (by omega) ((rs_cell (l := τ.sess) (i := j) (k := 0) (by omega) (by decide)).trans rfl)) ?_
     refine D.qw [] rfl (by kernel_rfl) (Quiet.assign rfl) ?_
     refine D.ph (Phases.fin (G.then_n (G.seq ?_)))
     refine G.draw [8, 32] [[0, 1, 2, 3, 4, 5, 6, 7, 9, 10, 11, 12, 13, 15, 16, 17, 18, 19, 20, 21, 22, 23, 24, 25, 26, 27, 28, 29, 30, 31, 8, 14, 32], [33]] mixed (by kernel_rfl) ?_
     refine Phases.go [ptc ba _ _, ptc bN _ _, ptc x _ _] (by (repeat' constructor)) ?_
     refine D.q rfl (by kernel_rfl) (Quiet.move rfl) ?_
     refine D.q rfl (by kernel_rfl) (Quiet.fieldAddr rfl fo_94_3) ?_
     refine D.q rfl (by kernel_rfl) (Quiet.load rfl ag_9 (by (repeat' constructor)) (rfl)) ?_
     refine D.qw [4, 5, 6, 7, 19, 20, 21, 22, 23, 24, 25, 26, 27, 28, 29, 30, 31, 8, 14, 32] rfl (by kernel_rfl) (Quiet.fieldAddr rfl fo_94_2) ?_
     refine D.qw [5, 6, 7, 19, 20, 21, 22, 23, 24, 25, 26, 27, 28, 29, 30, 31, 8, 14, 32] rfl (by kernel_rfl) (Quiet.load rfl ag_3 (by (repeat' constructor)) (rfl)) ?_
     refine D.m rfl (by kernel_rfl) (OpSpec.call Tryz.func21 rfl rfl (vs := [_, _]) rfl (pick7_spec _ _ ha.h3 (by decide))) (by (repeat' constructor)) ?nx90
     refine D.qw [7, 8, 14, 32] rfl (by kernel_rfl) (Quiet.add rfl rfl (by omega)) ?_
     refine D.qw [8, 14, 32] rfl (by kernel_rfl) (Quiet.to (v' := .agg (acC (1 + pickZ a.2.2.1 31, wldZ)).toArray) (Quiet.build (us := [(0, _), (1, _)]) fl_104 ze_104 rfl rfl (by simp [isCell])) rfl) ?_
     refine D.q rfl (by kernel_rfl) (Quiet.move rfl) ?_
     refine D.q rfl (by kernel_rfl) (Quiet.fieldAddr rfl fo_131_3) ?_
     refine D.q rfl (by kernel_rfl) (Quiet.fieldAddr rfl fo_43_4) ?_
     refine D.q rfl (by kernel_rfl) (Quiet.load rfl ag_3 (by (repeat' constructor)) (rfl)) ?_
     refine D.q rfl (by kernel_rfl) (Quiet.add rfl rfl (by omega)) ?_
     refine D.q rfl (by kernel_rfl) (Quiet.fieldAddr rfl fo_131_3) ?_
     refine D.q rfl (by kernel_rfl) (Quiet.fieldAddr rfl fo_43_6) ?_
     refine D.q rfl (by kernel_rfl) (Quiet.load rfl ag_3 (by (repeat' constructor)) (rfl)) ?_
     refine D.q rfl (by kernel_rfl) (Quiet.int rfl rfl rfl) ?_
     refine D.q rfl (by kernel_rfl) (Quiet.move rfl) ?_
     refine D.dec (t := 98) rfl (fun h12_98 => ?_) (fun h12_98 => ?_)
     ·refine D.kDT (t := 97) rfl h12_98 ?_
      refine D.gq (t := 98) rfl rfl rfl (by kernel_rfl) (Quiet.move rfl) ?_
      refine D.gq (t := 98) rfl rfl rfl (by kernel_rfl) (Quiet.nilp rfl) ?_
      refine D.gq (t := 98) rfl rfl rfl (by kernel_rfl) (Quiet.fieldAddr rfl fo_101_0) ?_
      refine D.gq (t := 98) rfl rfl rfl (by kernel_rfl) (Quiet.load rfl ag_98 (by (repeat' constructor)) (rfl)) ?_
      refine D.gq (t := 98) rfl rfl rfl (by kernel_rfl) (Quiet.slen rfl Tryz.underlying98 rfl) ?_
      refine D.gq (t := 98) rfl rfl rfl (by kernel_rfl) (Quiet.int rfl rfl rfl) ?_
      refine D.q rfl (by kernel_rfl) (Quiet.pickT rfl rfl) ?_
      refine D.q rfl (by kernel_rfl) (Quiet.move rfl) ?_
      refine D.dec (t := 106) rfl (fun h12_106 => ?_) (fun h12_106 => ?_)
      ·refine D.kDT (t := 104) rfl h12_106 (D.kDT (t := 105) rfl h12_106 ?_)
       refine D.gq (t := 106) rfl rfl rfl (by kernel_rfl) (Quiet.move rfl) ?_
       refine D.gm (t := 106) rfl rfl rfl (by kernel_rfl) (OpSpec.call Tryz.func111 rfl rfl (vs := [_]) rfl (rcheck_spec _ ?hs108)) (by (repeat' constructor)) ?nx109
       case hs108 => first | assumption | omega
       refine D.gq (t := 106) rfl rfl rfl (by kernel_rfl) (Quiet.int rfl rfl rfl) ?_
       refine D.q rfl (by kernel_rfl) (Quiet.pickT rfl rfl) ?_
       refine D.h rfl (by kernel_rfl) (OpSpec.buildSlice (vs := [_]) el_34 ze_104 rfl rfl rfl rfl (by first | (simp [Value.cells]; done) | (intro v hv; simp only [List.mem_cons, List.not_mem_nil, or_false] at hv; (repeat (first | (subst hv; rfl) | (rcases hv with hv | hv; (subst hv; rfl)))))) (by decide)) (by (repeat' constructor)) ?nx112
       rintro v L' ⟨b12, rfl, rfl⟩
       refine D.qw [32] rfl (by kernel_rfl) (Quiet.to (v' := .agg (ptC (⟨1, (kidZ z.1 (nm6 (pickZ a.2.2.1 6))), a.2.2.2.1, (.slice (some ⟨b12, 0, none⟩) 1 1), [(1 + pickZ a.2.2.1 31, wldZ)], (τ.sess[j].1), z.2.2.st.cver + 1, 0, .slice none 0 0⟩ : Pt)).toArray) (Quiet.build (us := [(0, _), (1, _), (2, _), (3, _), (4, _), (5, _)]) fl_37 ze_37 rfl rfl (by simp [isCell])) rfl) ?_
       refine D.h rfl (by kernel_rfl) (OpSpec.storeA rfl rfl ?c115 sz_37 ?c118 ?c116 ?c117) (by (repeat' constructor)) ?nx119
       case c115 => exact pt_cells rfl rfl
       case c118 => rfl
       case c116 => simp [ptC]
       case c117 => exact nfz0 _ _
       rintro v L' rfl
       refine D.ph ?_
       refine Phases.go [] (by (repeat' constructor)) ?_
       refine D.qw [] rfl (by kernel_rfl) (Quiet.assign rfl) ?_
       refine D.ph (Phases.fin (G.then_n (G.ret (G.blk_r (G.then_r ?_)))))
       refine G.slMakeN 2 1 (b := b12) (xs := ([(1 + pickZ a.2.2.1 31, wldZ)] : List Ac).flatMap acC) (by (repeat' constructor)) rfl rfl ?_
       refine G.toRd (m := 1) (by (repeat' constructor)) ?_
       refine G.ptCast (b := b0) (l' := ptC (⟨1, (kidZ z.1 (nm6 (pickZ a.2.2.1 6))), a.2.2.2.1, (.slice (some ⟨b12, 0, none⟩) 1 1), [(1 + pickZ a.2.2.1 31, wldZ)], (τ.sess[j].1), z.2.2.st.cver + 1, 0, .slice none 0 0⟩ : Pt)) (by (repeat' constructor)) rfl ?_
       refine G.rfFold (x := x) (τ := τ) (l := m) hm (by (repeat' constructor)) rfl rfl rfl rfl rfl ?_
       exact G.done2 rfl (.cellA rfl ag_37 (by (repeat' constructor)) (by simp [ptC]) rfl) (.tmp rfl) ⟨(⟨1, (kidZ z.1 (nm6 (pickZ a.2.2.1 6))), a.2.2.2.1, (.slice (some ⟨b12, 0, none⟩) 1 1), [(1 + pickZ a.2.2.1 31, wldZ)], (τ.sess[j].1), z.2.2.st.cver + 1, 0, .slice none 0 0⟩ : Pt), _, rfl, fun _ => ⟨⟨by show (0 : Int) ≤ 1; decide, by show (1 : Int) ≤ 4; decide⟩, hpl62, hd, .inr ⟨_, by omega, by omega, rfl⟩, .inr ⟨τ.sess[j].2, al_of_mem (hinv.ok.ssorted.nodup linI) (List.getElem_mem hj)⟩, ⟨by show 0 ≤ z.2.2.st.cver + 1; omega, by show z.2.2.st.cver + 1 ≤ K + 1; omega⟩, rfl, fun _ => by omega⟩, ⟨rfl, rfl, by simp, by first | exact hpl62 | (simp; done) | (show z.1.length ≤ 62; omega)⟩, rfl⟩ (by (repeat' constructor)) (by (repeat' constructor))
      ·refine D.kDF (t := 104) rfl h12_106 (D.kDF (t := 105) rfl h12_106 ?_)
       refine D.gs (t := 106) rfl rfl rfl rfl (by kernel_rfl) ?_
       refine D.gs (t := 106) rfl rfl rfl rfl (by kernel_rfl) ?_
       refine D.gs (t := 106) rfl rfl rfl rfl (by kernel_rfl) ?_
       refine D.q rfl (by kernel_rfl) (Quiet.pickF rfl rfl) ?_
       refine D.h rfl (by kernel_rfl) (OpSpec.buildSlice (vs := [_]) el_34 ze_104 rfl rfl rfl rfl (by first | (simp [Value.cells]; done) | (intro v hv; simp only [List.mem_cons, List.not_mem_nil, or_false] at hv; (repeat (first | (subst hv; rfl) | (rcases hv with hv | hv; (subst hv; rfl)))))) (by decide)) (by (repeat' constructor)) ?nx121
       rintro v L' ⟨b12, rfl, rfl⟩
       refine D.qw [32] rfl (by kernel_rfl) (Quiet.to (v' := .agg (ptC (⟨1, (kidZ z.1 (nm6 (pickZ a.2.2.1 6))), a.2.2.2.1, (.slice (some ⟨b12, 0, none⟩) 1 1), [(1 + pickZ a.2.2.1 31, wldZ)], (τ.sess[j].1), z.2.2.st.cver + 1, 0, .slice none 0 0⟩ : Pt)).toArray) (Quiet.build (us := [(0, _), (1, _), (2, _), (3, _), (4, _), (5, _)]) fl_37 ze_37 rfl rfl (by simp [isCell])) rfl) ?_
       refine D.h rfl (by kernel_rfl) (OpSpec.storeA rfl rfl ?c124 sz_37 ?c127 ?c125 ?c126) (by (repeat' constructor)) ?nx128
       case c124 => exact pt_cells rfl rfl
       case c127 => rfl
       case c125 => simp [ptC]
       case c126 => exact nfz0 _ _
       rintro v L' rfl
       refine D.ph ?_
       refine Phases.go [] (by (repeat' constructor)) ?_
       refine D.qw [] rfl (by kernel_rfl) (Quiet.assign rfl) ?_
       refine D.ph (Phases.fin (G.then_n (G.ret (G.blk_r (G.then_r ?_)))))
       refine G.slMakeN 2 1 (b := b12) (xs := ([(1 + pickZ a.2.2.1 31, wldZ)] : List Ac).flatMap acC) (by (repeat' constructor)) rfl rfl ?_
       refine G.toRd (m := 1) (by (repeat' constructor)) ?_
       refine G.ptCast (b := b0) (l' := ptC (⟨1, (kidZ z.1 (nm6 (pickZ a.2.2.1 6))), a.2.2.2.1, (.slice (some ⟨b12, 0, none⟩) 1 1), [(1 + pickZ a.2.2.1 31, wldZ)], (τ.sess[j].1), z.2.2.st.cver + 1, 0, .slice none 0 0⟩ : Pt)) (by (repeat' constructor)) rfl ?_
       refine G.rfFold (x := x) (τ := τ) (l := m) hm (by (repeat' constructor)) rfl rfl rfl rfl rfl ?_
       exact G.done2 rfl (.cellA rfl ag_37 (by (repeat' constructor)) (by simp [ptC]) rfl) (.tmp rfl) ⟨(⟨1, (kidZ z.1 (nm6 (pickZ a.2.2.1 6))), a.2.2.2.1, (.slice (some ⟨b12, 0, none⟩) 1 1), [(1 + pickZ a.2.2.1 31, wldZ)], (τ.sess[j].1), z.2.2.st.cver + 1, 0, .slice none 0 0⟩ : Pt), false, rfl, (fun e => by cases e), ⟨rfl, rfl, by simp, by first | exact hpl62 | (simp; done) | (show z.1.length ≤ 62; omega)⟩, rfl⟩ (by (repeat' constructor)) (by (repeat' constructor))
     ·refine D.kDF (t := 97) rfl h12_98 ?_
      refine D.gs (t := 98) rfl rfl rfl rfl (by kernel_rfl) ?_
      refine D.gs (t := 98) rfl rfl rfl rfl (by kernel_rfl) ?_
      refine D.gs (t := 98) rfl rfl rfl rfl (by kernel_rfl) ?_
      refine D.gs (t := 98) rfl rfl rfl rfl (by kernel_rfl) ?_
      refine D.gs (t := 98) rfl rfl rfl rfl (by kernel_rfl) ?_
      refine D.gs (t := 98) rfl rfl rfl rfl (by kernel_rfl) ?_
      refine D.q rfl (by kernel_rfl) (Quiet.pickF rfl rfl) ?_
      refine D.q rfl (by kernel_rfl) (Quiet.move rfl) ?_
      refine D.gs (t := 106) rfl rfl rfl rfl (by kernel_rfl) ?_
      refine D.gs (t := 106) rfl rfl rfl rfl (by kernel_rfl) ?_
      refine D.gs (t := 106) rfl rfl rfl rfl (by kernel_rfl) ?_
      refine D.q rfl (by kernel_rfl) (Quiet.pickF rfl rfl) ?_
      refine D.h rfl (by kernel_rfl) (OpSpec.buildSlice (vs := [_]) el_34 ze_104 rfl rfl rfl rfl (by first | (simp [Value.cells]; done) | (intro v hv; simp only [List.mem_cons, List.not_mem_nil, or_false] at hv; (repeat (first | (subst hv; rfl) | (rcases hv with hv | hv; (subst hv; rfl)))))) (by decide)) (by (repeat' constructor)) ?nx131
      rintro v L' ⟨b12, rfl, rfl⟩
      refine D.qw [32] rfl (by kernel_rfl) (Quiet.to (v' := .agg (ptC (⟨1, (kidZ z.1 (nm6 (pickZ a.2.2.1 6))), a.2.2.2.1, (.slice (some ⟨b12, 0, none⟩) 1 1), [(1 + pickZ a.2.2.1 31, wldZ)], (τ.sess[j].1), z.2.2.st.cver + 1, 0, .slice none 0 0⟩ : Pt)).toArray) (Quiet.build (us := [(0, _), (1, _), (2, _), (3, _), (4, _), (5, _)]) fl_37 ze_37 rfl rfl (by simp [isCell])) rfl) ?_
      refine D.h rfl (by kernel_rfl) (OpSpec.storeA rfl rfl ?c134 sz_37 ?c137 ?c135 ?c136) (by (repeat' constructor)) ?nx138
      case c134 => exact pt_cells rfl rfl
      case c137 => rfl
      case c135 => simp [ptC]
      case c136 => exact nfz0 _ _
      rintro v L' rfl
      refine D.ph ?_
      refine Phases.go [] (by (repeat' constructor)) ?_
      refine D.qw [] rfl (by kernel_rfl) (Quiet.assign rfl) ?_
      refine D.ph (Phases.fin (G.then_n (G.ret (G.blk_r (G.then_r ?_)))))
      refine G.slMakeN 2 1 (b := b12) (xs := ([(1 + pickZ a.2.2.1 31, wldZ)] : List Ac).flatMap acC) (by (repeat' constructor)) rfl rfl ?_
      refine G.toRd (m := 1) (by (repeat' constructor)) ?_
      refine G.ptCast (b := b0) (l' := ptC (⟨1, (kidZ z.1 (nm6 (pickZ a.2.2.1 6))), a.2.2.2.1, (.slice (some ⟨b12, 0, none⟩) 1 1), [(1 + pickZ a.2.2.1 31, wldZ)], (τ.sess[j].1), z.2.2.st.cver + 1, 0, .slice none 0 0⟩ : Pt)) (by (repeat' constructor)) rfl ?_
      refine G.rfFold (x := x) (τ := τ) (l := m) hm (by (repeat' constructor)) rfl rfl rfl rfl rfl ?_
      exact G.done2 rfl (.cellA rfl ag_37 (by (repeat' constructor)) (by simp [ptC]) rfl) (.tmp rfl) ⟨(⟨1, (kidZ z.1 (nm6 (pickZ a.2.2.1 6))), a.2.2.2.1, (.slice (some ⟨b12, 0, none⟩) 1 1), [(1 + pickZ a.2.2.1 31, wldZ)], (τ.sess[j].1), z.2.2.st.cver + 1, 0, .slice none 0 0⟩ : Pt), false, rfl, (fun e => by cases e), ⟨rfl, rfl, by simp, by first | exact hpl62 | (simp; done) | (show z.1.length ≤ 62; omega)⟩, rfl⟩ (by (repeat' constructor)) (by (repeat' constructor))
    ·refine G.skip (G.then_n (G.seq ?_))
     refine G.draw [8, 32] [[0, 1, 2, 3, 4, 5, 6, 7, 9, 10, 11, 12, 13, 15, 16, 17, 18, 19, 20, 21, 22, 23, 24, 25, 26, 27, 28, 29, 30, 31, 8, 14, 32], [33]] mixed (by kernel_rfl) ?_
     refine Phases.go [ptc ba _ _, ptc bN _ _, ptc x _ _] (by (repeat' constructor)) ?_
     refine D.q rfl (by kernel_rfl) (Quiet.move rfl) ?_
     refine D.q rfl (by kernel_rfl) (Quiet.fieldAddr rfl fo_94_3) ?_
     refine D.q rfl (by kernel_rfl) (Quiet.load rfl ag_9 (by (repeat' constructor)) (rfl)) ?_
     refine D.qw [4, 5, 6, 7, 19, 20, 21, 22, 23, 24, 25, 26, 27, 28, 29, 30, 31, 8, 14, 32] rfl (by kernel_rfl) (Quiet.fieldAddr rfl fo_94_2) ?_
     refine D.qw [5, 6, 7, 19, 20, 21, 22, 23, 24, 25, 26, 27, 28, 29, 30, 31, 8, 14, 32] rfl (by kernel_rfl) (Quiet.load rfl ag_3 (by (repeat' constructor)) (rfl)) ?_
     refine D.m rfl (by kernel_rfl) (OpSpec.call Tryz.func21 rfl rfl (vs := [_, _]) rfl (pick7_spec _ _ ha.h3 (by decide))) (by (repeat' constructor)) ?nx143
     refine D.qw [7, 8, 14, 32] rfl (by kernel_rfl) (Quiet.add rfl rfl (by omega)) ?_
     refine D.qw [8, 14, 32] rfl (by kernel_rfl) (Quiet.to (v' := .agg (acC (1 + pickZ a.2.2.1 31, wldZ)).toArray) (Quiet.build (us := [(0, _), (1, _)]) fl_104 ze_104 rfl rfl (by simp [isCell])) rfl) ?_
     refine D.q rfl (by kernel_rfl) (Quiet.move rfl) ?_
     refine D.q rfl (by kernel_rfl) (Quiet.fieldAddr rfl fo_131_3) ?_
     refine D.q rfl (by kernel_rfl) (Quiet.fieldAddr rfl fo_43_4) ?_
     refine D.q rfl (by kernel_rfl) (Quiet.load rfl ag_3 (by (repeat' constructor)) (rfl)) ?_
     refine D.q rfl (by kernel_rfl) (Quiet.add rfl rfl (by omega)) ?_
     refine D.q rfl (by kernel_rfl) (Quiet.fieldAddr rfl fo_131_3) ?_
     refine D.q rfl (by kernel_rfl) (Quiet.fieldAddr rfl fo_43_6) ?_
     refine D.q rfl (by kernel_rfl) (Quiet.load rfl ag_3 (by (repeat' constructor)) (rfl)) ?_
     refine D.q rfl (by kernel_rfl) (Quiet.int rfl rfl rfl) ?_
     refine D.q rfl (by kernel_rfl) (Quiet.move rfl) ?_
     refine D.dec (t := 98) rfl (fun h12_98 => ?_) (fun h12_98 => ?_)
     ·refine D.kDT (t := 97) rfl h12_98 ?_
      refine D.gq (t := 98) rfl rfl rfl (by kernel_rfl) (Quiet.move rfl) ?_
      refine D.gq (t := 98) rfl rfl rfl (by kernel_rfl) (Quiet.nilp rfl) ?_
      refine D.gq (t := 98) rfl rfl rfl (by kernel_rfl) (Quiet.fieldAddr rfl fo_101_0) ?_
      refine D.gq (t := 98) rfl rfl rfl (by kernel_rfl) (Quiet.load rfl ag_98 (by (repeat' constructor)) (rfl)) ?_
      refine D.gq (t := 98) rfl rfl rfl (by kernel_rfl) (Quiet.slen rfl Tryz.underlying98 rfl) ?_
      refine D.gq (t := 98) rfl rfl rfl (by kernel_rfl) (Quiet.int rfl rfl rfl) ?_
      refine D.q rfl (by kernel_rfl) (Quiet.pickT rfl rfl) ?_
      refine D.q rfl (by kernel_rfl) (Quiet.move rfl) ?_
      refine D.dec (t := 106) rfl (fun h12_106 => ?_) (fun h12_106 => ?_)
      ·refine D.kDT (t := 104) rfl h12_106 (D.kDT (t := 105) rfl h12_106 ?_)
       refine D.gq (t := 106) rfl rfl rfl (by kernel_rfl) (Quiet.move rfl) ?_
       refine D.gm (t := 106) rfl rfl rfl (by kernel_rfl) (OpSpec.call Tryz.func111 rfl rfl (vs := [_]) rfl (rcheck_spec _ ?hs161)) (by (repeat' constructor)) ?nx162
       case hs161 => first | assumption | omega
       refine D.gq (t := 106) rfl rfl rfl (by kernel_rfl) (Quiet.int rfl rfl rfl) ?_
       refine D.q rfl (by kernel_rfl) (Quiet.pickT rfl rfl) ?_
       refine D.h rfl (by kernel_rfl) (OpSpec.buildSlice (vs := [_]) el_34 ze_104 rfl rfl rfl rfl (by first | (simp [Value.cells]; done) | (intro v hv; simp only [List.mem_cons, List.not_mem_nil, or_false] at hv; (repeat (first | (subst hv; rfl) | (rcases hv with hv | hv; (subst hv; rfl)))))) (by decide)) (by (repeat' constructor)) ?nx165
       rintro v L' ⟨b12, rfl, rfl⟩
       refine D.qw [32] rfl (by kernel_rfl) (Quiet.to (v' := .agg (ptC (⟨1, (kidZ z.1 (nm6 (pickZ a.2.2.1 6))), a.2.2.2.1, (.slice (some ⟨b12, 0, none⟩) 1 1), [(1 + pickZ a.2.2.1 31, wldZ)], 0, z.2.2.st.cver + 1, 0, .slice none 0 0⟩ : Pt)).toArray) (Quiet.build (us := [(0, _), (1, _), (2, _), (3, _), (4, _), (5, _)]) fl_37 ze_37 rfl rfl (by simp [isCell])) rfl) ?_
       refine D.h rfl (by kernel_rfl) (OpSpec.storeA rfl rfl ?c168 sz_37 ?c171 ?c169 ?c170) (by (repeat' constructor)) ?nx172
       case c168 => exact pt_cells rfl rfl
       case c171 => rfl
       case c169 => simp [ptC]
       case c170 => exact nfz0 _ _
       rintro v L' rfl
       refine D.ph ?_
       refine Phases.go [] (by (repeat' constructor)) ?_
       refine D.qw [] rfl (by kernel_rfl) (Quiet.assign rfl) ?_
       refine D.ph (Phases.fin (G.then_n (G.ret (G.blk_r (G.then_r ?_)))))
       refine G.slMakeN 2 1 (b := b12) (xs := ([(1 + pickZ a.2.2.1 31, wldZ)] : List Ac).flatMap acC) (by (repeat' constructor)) rfl rfl ?_
       refine G.toRd (m := 1) (by (repeat' constructor)) ?_
       refine G.ptCast (b := b0) (l' := ptC (⟨1, (kidZ z.1 (nm6 (pickZ a.2.2.1 6))), a.2.2.2.1, (.slice (some ⟨b12, 0, none⟩) 1 1), [(1 + pickZ a.2.2.1 31, wldZ)], 0, z.2.2.st.cver + 1, 0, .slice none 0 0⟩ : Pt)) (by (repeat' constructor)) rfl ?_
       refine G.rfFold (x := x) (τ := τ) (l := m) hm (by (repeat' constructor)) rfl rfl rfl rfl rfl ?_
       exact G.done2 rfl (.cellA rfl ag_37 (by (repeat' constructor)) (by simp [ptC]) rfl) (.tmp rfl) ⟨(⟨1, (kidZ z.1 (nm6 (pickZ a.2.2.1 6))), a.2.2.2.1, (.slice (some ⟨b12, 0, none⟩) 1 1), [(1 + pickZ a.2.2.1 31, wldZ)], 0, z.2.2.st.cver + 1, 0, .slice none 0 0⟩ : Pt), _, rfl, fun _ => ⟨⟨by show (0 : Int) ≤ 1; decide, by show (1 : Int) ≤ 4; decide⟩, hpl62, hd, .inr ⟨_, by omega, by omega, rfl⟩, .inl rfl, ⟨by show 0 ≤ z.2.2.st.cver + 1; omega, by show z.2.2.st.cver + 1 ≤ K + 1; omega⟩, rfl, fun _ => by omega⟩, ⟨rfl, rfl, by simp, by first | exact hpl62 | (simp; done) | (show z.1.length ≤ 62; omega)⟩, rfl⟩ (by (repeat' constructor)) (by (repeat' constructor))
      ·refine D.kDF (t := 104) rfl h12_106 (D.kDF (t := 105) rfl h12_106 ?_)
       refine D.gs (t := 106) rfl rfl rfl rfl (by kernel_rfl) ?_
       refine D.gs (t := 106) rfl rfl rfl rfl (by kernel_rfl) ?_
       refine D.gs (t := 106) rfl rfl rfl rfl (by kernel_rfl) ?_
       refine D.q rfl (by kernel_rfl) (Quiet.pickF rfl rfl) ?_
       refine D.h rfl (by kernel_rfl) (OpSpec.buildSlice (vs := [_]) el_34 ze_104 rfl rfl rfl rfl (by first | (simp [Value.cells]; done) | (intro v hv; simp only [List.mem_cons, List.not_mem_nil, or_false] at hv; (repeat (first | (subst hv; rfl) | (rcases hv with hv | hv; (subst hv; rfl)))))) (by decide)) (by (repeat' constructor)) ?nx174
       rintro v L' ⟨b12, rfl, rfl⟩
       refine D.qw [32] rfl (by kernel_rfl) (Quiet.to (v' := .agg (ptC (⟨1, (kidZ z.1 (nm6 (pickZ a.2.2.1 6))), a.2.2.2.1, (.slice (some ⟨b12, 0, none⟩) 1 1), [(1 + pickZ a.2.2.1 31, wldZ)], 0, z.2.2.st.cver + 1, 0, .slice none 0 0⟩ : Pt)).toArray) (Quiet.build (us := [(0, _), (1, _), (2, _), (3, _), (4, _), (5, _)]) fl_37 ze_37 rfl rfl (by simp [isCell])) rfl) ?_
       refine D.h rfl (by kernel_rfl) (OpSpec.storeA rfl rfl ?c177 sz_37 ?c180 ?c178 ?c179) (by (repeat' constructor)) ?nx181
       case c177 => exact pt_cells rfl rfl
       case c180 => rfl
       case c178 => simp [ptC]
       case c179 => exact nfz0 _ _
       rintro v L' rfl
       refine D.ph ?_
       refine Phases.go [] (by (repeat' constructor)) ?_
       refine D.qw [] rfl (by kernel_rfl) (Quiet.assign rfl) ?_
       refine D.ph (Phases.fin (G.then_n (G.ret (G.blk_r (G.then_r ?_)))))
       refine G.slMakeN 2 1 (b := b12) (xs := ([(1 + pickZ a.2.2.1 31, wldZ)] : List Ac).flatMap acC) (by (repeat' constructor)) rfl rfl ?_
       refine G.toRd (m := 1) (by (repeat' constructor)) ?_
       refine G.ptCast (b := b0) (l' := ptC (⟨1, (kidZ z.1 (nm6 (pickZ a.2.2.1 6))), a.2.2.2.1, (.slice (some ⟨b12, 0, none⟩) 1 1), [(1 + pickZ a.2.2.1 31, wldZ)], 0, z.2.2.st.cver + 1, 0, .slice none 0 0⟩ : Pt)) (by (repeat' constructor)) rfl ?_
       refine G.rfFold (x := x) (τ := τ) (l := m) hm (by (repeat' constructor)) rfl rfl rfl rfl rfl ?_
       exact G.done2 rfl (.cellA rfl ag_37 (by (repeat' constructor)) (by simp [ptC]) rfl) (.tmp rfl) ⟨(⟨1, (kidZ z.1 (nm6 (pickZ a.2.2.1 6))), a.2.2.2.1, (.slice (some ⟨b12, 0, none⟩) 1 1), [(1 + pickZ a.2.2.1 31, wldZ)], 0, z.2.2.st.cver + 1, 0, .slice none 0 0⟩ : Pt), false, rfl, (fun e => by cases e), ⟨rfl, rfl, by simp, by first | exact hpl62 | (simp; done) | (show z.1.length ≤ 62; omega)⟩, rfl⟩ (by (repeat' constructor)) (by (repeat' constructor))
     ·refine D.kDF (t := 97) rfl h12_98 ?_
      refine D.gs (t := 98) rfl rfl rfl rfl (by kernel_rfl) ?_
      refine D.gs (t := 98) rfl rfl rfl rfl (by kernel_rfl) ?_
      refine D.gs (t := 98) rfl rfl rfl rfl (by kernel_rfl) ?_
      refine D.gs (t := 98) rfl rfl rfl rfl (by kernel_rfl) ?_
      refine D.gs (t := 98) rfl rfl rfl rfl (by kernel_rfl) ?_
      refine D.gs (t := 98) rfl rfl rfl rfl (by kernel_rfl) ?_
      refine D.q rfl (by kernel_rfl) (Quiet.pickF rfl rfl) ?_
      refine D.q rfl (by kernel_rfl) (Quiet.move rfl) ?_
      refine D.gs (t := 106) rfl rfl rfl rfl (by kernel_rfl) ?_
      refine D.gs (t := 106) rfl rfl rfl rfl (by kernel_rfl) ?_
      refine D.gs (t := 106) rfl rfl rfl rfl (by kernel_rfl) ?_
      refine D.q rfl (by kernel_rfl) (Quiet.pickF rfl rfl) ?_
      refine D.h rfl (by kernel_rfl) (OpSpec.buildSlice (vs := [_]) el_34 ze_104 rfl rfl rfl rfl (by first | (simp [Value.cells]; done) | (intro v hv; simp only [List.mem_cons, List.not_mem_nil, or_false] at hv; (repeat (first | (subst hv; rfl) | (rcases hv with hv | hv; (subst hv; rfl)))))) (by decide)) (by (repeat' constructor)) ?nx184
      rintro v L' ⟨b12, rfl, rfl⟩
      refine D.qw [32] rfl (by kernel_rfl) (Quiet.to (v' := .agg (ptC (⟨1, (kidZ z.1 (nm6 (pickZ a.2.2.1 6))), a.2.2.2.1, (.slice (some ⟨b12, 0, none⟩) 1 1), [(1 + pickZ a.2.2.1 31, wldZ)], 0, z.2.2.st.cver + 1, 0, .slice none 0 0⟩ : Pt)).toArray) (Quiet.build (us := [(0, _), (1, _), (2, _), (3, _), (4, _), (5, _)]) fl_37 ze_37 rfl rfl (by simp [isCell])) rfl) ?_
      refine D.h rfl (by kernel_rfl) (OpSpec.storeA rfl rfl ?c187 sz_37 ?c190 ?c188 ?c189) (by (repeat' constructor)) ?nx191
      case c187 => exact pt_cells rfl rfl
      case c190 => rfl
      case c188 => simp [ptC]
      case c189 => exact nfz0 _ _
      rintro v L' rfl
      refine D.ph ?_
      refine Phases.go [] (by (repeat' constructor)) ?_
      refine D.qw [] rfl (by kernel_rfl) (Quiet.assign rfl) ?_
      refine D.ph (Phases.fin (G.then_n (G.ret (G.blk_r (G.then_r ?_)))))
      refine G.slMakeN 2 1 (b := b12) (xs := ([(1 + pickZ a.2.2.1 31, wldZ)] : List Ac).flatMap acC) (by (repeat' constructor)) rfl rfl ?_
      refine G.toRd (m := 1) (by (repeat' constructor)) ?_
      refine G.ptCast (b := b0) (l' := ptC (⟨1, (kidZ z.1 (nm6 (pickZ a.2.2.1 6))), a.2.2.2.1, (.slice (some ⟨b12, 0, none⟩) 1 1), [(1 + pickZ a.2.2.1 31, wldZ)], 0, z.2.2.st.cver + 1, 0, .slice none 0 0⟩ : Pt)) (by (repeat' constructor)) rfl ?_
      refine G.rfFold (x := x) (τ := τ) (l := m) hm (by (repeat' constructor)) rfl rfl rfl rfl rfl ?_
      exact G.done2 rfl (.cellA rfl ag_37 (by (repeat' constructor)) (by simp [ptC]) rfl) (.tmp rfl) ⟨(⟨1, (kidZ z.1 (nm6 (pickZ a.2.2.1 6))), a.2.2.2.1, (.slice (some ⟨b12, 0, none⟩) 1 1), [(1 + pickZ a.2.2.1 31, wldZ)], 0, z.2.2.st.cver + 1, 0, .slice none 0 0⟩ : Pt), false, rfl, (fun e => by cases e), ⟨rfl, rfl, by simp, by first | exact hpl62 | (simp; done) | (show z.1.length ≤ 62; omega)⟩, rfl⟩ (by (repeat' constructor)) (by (repeat' constructor))
   ·refine G.kDF (t := 56) rfl h10_58 (G.kDF (t := 57) rfl h10_58 (G.gskip (t := 58) rfl rfl rfl rfl (G.gskip (t := 58) rfl rfl rfl rfl (G.gskip (t := 58) rfl rfl rfl rfl (G.gskip (t := 58) rfl rfl rfl rfl (G.q (Quiet.pickF rfl rfl) rfl (G.nil (G.then_n (G.condF rfl (G.skip (G.then_n (G.seq ?_))))))))))))
    refine G.draw [8, 32] [[0, 1, 2, 3, 4, 5, 6, 7, 9, 10, 11, 12, 13, 15, 16, 17, 18, 19, 20, 21, 22, 23, 24, 25, 26, 27, 28, 29, 30, 31, 8, 14, 32], [33]] mixed (by kernel_rfl) ?_
    refine Phases.go [ptc ba _ _, ptc bN _ _, ptc x _ _] (by (repeat' constructor)) ?_
    refine D.q rfl (by kernel_rfl) (Quiet.move rfl) ?_
    refine D.q rfl (by kernel_rfl) (Quiet.fieldAddr rfl fo_94_3) ?_
    refine D.q rfl (by kernel_rfl) (Quiet.load rfl ag_9 (by (repeat' constructor)) (rfl)) ?_
    refine D.qw [4, 5, 6, 7, 19, 20, 21, 22, 23, 24, 25, 26, 27, 28, 29, 30, 31, 8, 14, 32] rfl (by kernel_rfl) (Quiet.fieldAddr rfl fo_94_2) ?_
    refine D.qw [5, 6, 7, 19, 20, 21, 22, 23, 24, 25, 26, 27, 28, 29, 30, 31, 8, 14, 32] rfl (by kernel_rfl) (Quiet.load rfl ag_3 (by (repeat' constructor)) (rfl)) ?_
    refine D.m rfl (by kernel_rfl) (OpSpec.call Tryz.func21 rfl rfl (vs := [_, _]) rfl (pick7_spec _ _ ha.h3 (by decide))) (by (repeat' constructor)) ?nx197
    refine D.qw [7, 8, 14, 32] rfl (by kernel_rfl) (Quiet.add rfl rfl (by omega)) ?_
    refine D.qw [8, 14, 32] rfl (by kernel_rfl) (Quiet.to (v' := .agg (acC (1 + pickZ a.2.2.1 31, wldZ)).toArray) (Quiet.build (us := [(0, _), (1, _)]) fl_104 ze_104 rfl rfl (by simp [isCell])) rfl) ?_
    refine D.q rfl (by kernel_rfl) (Quiet.move rfl) ?_
    refine D.q rfl (by kernel_rfl) (Quiet.fieldAddr rfl fo_131_3) ?_
    refine D.q rfl (by kernel_rfl) (Quiet.fieldAddr rfl fo_43_4) ?_
    refine D.q rfl (by kernel_rfl) (Quiet.load rfl ag_3 (by (repeat' constructor)) (rfl)) ?_
    refine D.q rfl (by kernel_rfl) (Quiet.add rfl rfl (by omega)) ?_
    refine D.q rfl (by kernel_rfl) (Quiet.fieldAddr rfl fo_131_3) ?_
    refine D.q rfl (by kernel_rfl) (Quiet.fieldAddr rfl fo_43_6) ?_
    refine D.q rfl (by kernel_rfl) (Quiet.load rfl ag_3 (by (repeat' constructor)) (rfl)) ?_
    refine D.q rfl (by kernel_rfl) (Quiet.int rfl rfl rfl) ?_
    refine D.q rfl (by kernel_rfl) (Quiet.move rfl) ?_
    refine D.dec (t := 98) rfl (fun h12_98 => ?_) (fun h12_98 => ?_)
    ·refine D.kDT (t := 97) rfl h12_98 ?_
     refine D.gq (t := 98) rfl rfl rfl (by kernel_rfl) (Quiet.move rfl) ?_
     refine D.gq (t := 98) rfl rfl rfl (by kernel_rfl) (Quiet.nilp rfl) ?_
     refine D.gq (t := 98) rfl rfl rfl (by kernel_rfl) (Quiet.fieldAddr rfl fo_101_0) ?_
     refine D.gq (t := 98) rfl rfl rfl (by kernel_rfl) (Quiet.load rfl ag_98 (by (repeat' constructor)) (rfl)) ?_
     refine D.gq (t := 98) rfl rfl rfl (by kernel_rfl) (Quiet.slen rfl Tryz.underlying98 rfl) ?_
     refine D.gq (t := 98) rfl rfl rfl (by kernel_rfl) (Quiet.int rfl rfl rfl) ?_
     refine D.q rfl (by kernel_rfl) (Quiet.pickT rfl rfl) ?_
     refine D.q rfl (by kernel_rfl) (Quiet.move rfl) ?_
     refine D.dec (t := 106) rfl (fun h12_106 => ?_) (fun h12_106 => ?_)
     ·refine D.kDT (t := 104) rfl h12_106 (D.kDT (t := 105) rfl h12_106 ?_)
      refine D.gq (t := 106) rfl rfl rfl (by kernel_rfl) (Quiet.move rfl) ?_
      refine D.gm (t := 106) rfl rfl rfl (by kernel_rfl) (OpSpec.call Tryz.func111 rfl rfl (vs := [_]) rfl (rcheck_spec _ ?hs215)) (by (repeat' constructor)) ?nx216
      case hs215 => first | assumption | omega
      refine D.gq (t := 106) rfl rfl rfl (by kernel_rfl) (Quiet.int rfl rfl rfl) ?_
      refine D.q rfl (by kernel_rfl) (Quiet.pickT rfl rfl) ?_
      refine D.h rfl (by kernel_rfl) (OpSpec.buildSlice (vs := [_]) el_34 ze_104 rfl rfl rfl rfl (by first | (simp [Value.cells]; done) | (intro v hv; simp only [List.mem_cons, List.not_mem_nil, or_false] at hv; (repeat (first | (subst hv; rfl) | (rcases hv with hv | hv; (subst hv; rfl)))))) (by decide)) (by (repeat' constructor)) ?nx219
      rintro v L' ⟨b12, rfl, rfl⟩
      refine D.qw [32] rfl (by kernel_rfl) (Quiet.to (v' := .agg (ptC (⟨1, (kidZ z.1 (nm6 (pickZ a.2.2.1 6))), a.2.2.2.1, (.slice (some ⟨b12, 0, none⟩) 1 1), [(1 + pickZ a.2.2.1 31, wldZ)], 0, z.2.2.st.cver + 1, 0, .slice none 0 0⟩ : Pt)).toArray) (Quiet.build (us := [(0, _), (1, _), (2, _), (3, _), (4, _), (5, _)]) fl_37 ze_37 rfl rfl (by simp [isCell])) rfl) ?_
      refine D.h rfl (by kernel_rfl) (OpSpec.storeA rfl rfl ?c222 sz_37 ?c225 ?c223 ?c224) (by (repeat' constructor)) ?nx226
      case c222 => exact pt_cells rfl rfl
      case c225 => rfl
      case c223 => simp [ptC]
      case c224 => exact nfz0 _ _
      rintro v L' rfl
      refine D.ph ?_
      refine Phases.go [] (by (repeat' constructor)) ?_
      refine D.qw [] rfl (by kernel_rfl) (Quiet.assign rfl) ?_
      refine D.ph (Phases.fin (G.then_n (G.ret (G.blk_r (G.then_r ?_)))))
      refine G.slMakeN 2 1 (b := b12) (xs := ([(1 + pickZ a.2.2.1 31, wldZ)] : List Ac).flatMap acC) (by (repeat' constructor)) rfl rfl ?_
      refine G.toRd (m := 1) (by (repeat' constructor)) ?_
      refine G.ptCast (b := b0) (l' := ptC (⟨1, (kidZ z.1 (nm6 (pickZ a.2.2.1 6))), a.2.2.2.1, (.slice (some ⟨b12, 0, none⟩) 1 1), [(1 + pickZ a.2.2.1 31, wldZ)], 0, z.2.2.st.cver + 1, 0, .slice none 0 0⟩ : Pt)) (by (repeat' constructor)) rfl ?_
      refine G.rfFold (x := x) (τ := τ) (l := m) hm (by (repeat' constructor)) rfl rfl rfl rfl rfl ?_
      exact G.done2 rfl (.cellA rfl ag_37 (by (repeat' constructor)) (by simp [ptC]) rfl) (.tmp rfl) ⟨(⟨1, (kidZ z.1 (nm6 (pickZ a.2.2.1 6))), a.2.2.2.1, (.slice (some ⟨b12, 0, none⟩) 1 1), [(1 + pickZ a.2.2.1 31, wldZ)], 0, z.2.2.st.cver + 1, 0, .slice none 0 0⟩ : Pt), _, rfl, fun _ => ⟨⟨by show (0 : Int) ≤ 1; decide, by show (1 : Int) ≤ 4; decide⟩, hpl62, hd, .inr ⟨_, by omega, by omega, rfl⟩, .inl rfl, ⟨by show 0 ≤ z.2.2.st.cver + 1; omega, by show z.2.2.st.cver + 1 ≤ K + 1; omega⟩, rfl, fun _ => by omega⟩, ⟨rfl, rfl, by simp, by first | exact hpl62 | (simp; done) | (show z.1.length ≤ 62; omega)⟩, rfl⟩ (by (repeat' constructor)) (by (repeat' constructor))
     ·refine D.kDF (t := 104) rfl h12_106 (D.kDF (t := 105) rfl h12_106 ?_)
      refine D.gs (t := 106) rfl rfl rfl rfl (by kernel_rfl) ?_
      refine D.gs (t := 106) rfl rfl rfl rfl (by kernel_rfl) ?_
      refine D.gs (t := 106) rfl rfl rfl rfl (by kernel_rfl) ?_
      refine D.q rfl (by kernel_rfl) (Quiet.pickF rfl rfl) ?_
      refine D.h rfl (by kernel_rfl) (OpSpec.buildSlice (vs := [_]) el_34 ze_104 rfl rfl rfl rfl (by first | (simp [Value.cells]; done) | (intro v hv; simp only [List.mem_cons, List.not_mem_nil, or_false] at hv; (repeat (first | (subst hv; rfl) | (rcases hv with hv | hv; (subst hv; rfl)))))) (by decide)) (by (repeat' constructor)) ?nx228
      rintro v L' ⟨b12, rfl, rfl⟩
      refine D.qw [32] rfl (by kernel_rfl) (Quiet.to (v' := .agg (ptC (⟨1, (kidZ z.1 (nm6 (pickZ a.2.2.1 6))), a.2.2.2.1, (.slice (some ⟨b12, 0, none⟩) 1 1), [(1 + pickZ a.2.2.1 31, wldZ)], 0, z.2.2.st.cver + 1, 0, .slice none 0 0⟩ : Pt)).toArray) (Quiet.build (us := [(0, _), (1, _), (2, _), (3, _), (4, _), (5, _)]) fl_37 ze_37 rfl rfl (by simp [isCell])) rfl) ?_
      refine D.h rfl (by kernel_rfl) (OpSpec.storeA rfl rfl ?c231 sz_37 ?c234 ?c232 ?c233) (by (repeat' constructor)) ?nx235
      case c231 => exact pt_cells rfl rfl
      case c234 => rfl
      case c232 => simp [ptC]
      case c233 => exact nfz0 _ _
      rintro v L' rfl
      refine D.ph ?_
      refine Phases.go [] (by (repeat' constructor)) ?_
      refine D.qw [] rfl (by kernel_rfl) (Quiet.assign rfl) ?_
      refine D.ph (Phases.fin (G.then_n (G.ret (G.blk_r (G.then_r ?_)))))
      refine G.slMakeN 2 1 (b := b12) (xs := ([(1 + pickZ a.2.2.1 31, wldZ)] : List Ac).flatMap acC) (by (repeat' constructor)) rfl rfl ?_
      refine G.toRd (m := 1) (by (repeat' constructor)) ?_
      refine G.ptCast (b := b0) (l' := ptC (⟨1, (kidZ z.1 (nm6 (pickZ a.2.2.1 6))), a.2.2.2.1, (.slice (some ⟨b12, 0, none⟩) 1 1), [(1 + pickZ a.2.2.1 31, wldZ)], 0, z.2.2.st.cver + 1, 0, .slice none 0 0⟩ : Pt)) (by (repeat' constructor)) rfl ?_
      refine G.rfFold (x := x) (τ := τ) (l := m) hm (by (repeat' constructor)) rfl rfl rfl rfl rfl ?_
      exact G.done2 rfl (.cellA rfl ag_37 (by (repeat' constructor)) (by simp [ptC]) rfl) (.tmp rfl) ⟨(⟨1, (kidZ z.1 (nm6 (pickZ a.2.2.1 6))), a.2.2.2.1, (.slice (some ⟨b12, 0, none⟩) 1 1), [(1 + pickZ a.2.2.1 31, wldZ)], 0, z.2.2.st.cver + 1, 0, .slice none 0 0⟩ : Pt), false, rfl, (fun e => by cases e), ⟨rfl, rfl, by simp, by first | exact hpl62 | (simp; done) | (show z.1.length ≤ 62; omega)⟩, rfl⟩ (by (repeat' constructor)) (by (repeat' constructor))
    ·refine D.kDF (t := 97) rfl h12_98 ?_
     refine D.gs (t := 98) rfl rfl rfl rfl (by kernel_rfl) ?_
     refine D.gs (t := 98) rfl rfl rfl rfl (by kernel_rfl) ?_
     refine D.gs (t := 98) rfl rfl rfl rfl (by kernel_rfl) ?_
     refine D.gs (t := 98) rfl rfl rfl rfl (by kernel_rfl) ?_
     refine D.gs (t := 98) rfl rfl rfl rfl (by kernel_rfl) ?_
     refine D.gs (t := 98) rfl rfl rfl rfl (by kernel_rfl) ?_
     refine D.q rfl (by kernel_rfl) (Quiet.pickF rfl rfl) ?_
     refine D.q rfl (by kernel_rfl) (Quiet.move rfl) ?_
     refine D.gs (t := 106) rfl rfl rfl rfl (by kernel_rfl) ?_
     refine D.gs (t := 106) rfl rfl rfl rfl (by kernel_rfl) ?_
     refine D.gs (t := 106) rfl rfl rfl rfl (by kernel_rfl) ?_
     refine D.q rfl (by kernel_rfl) (Quiet.pickF rfl rfl) ?_
     refine D.h rfl (by kernel_rfl) (OpSpec.buildSlice (vs := [_]) el_34 ze_104 rfl rfl rfl rfl (by first | (simp [Value.cells]; done) | (intro v hv; simp only [List.mem_cons, List.not_mem_nil, or_false] at hv; (repeat (first | (subst hv; rfl) | (rcases hv with hv | hv; (subst hv; rfl)))))) (by decide)) (by (repeat' constructor)) ?nx238
     rintro v L' ⟨b12, rfl, rfl⟩
     refine D.qw [32] rfl (by kernel_rfl) (Quiet.to (v' := .agg (ptC (⟨1, (kidZ z.1 (nm6 (pickZ a.2.2.1 6))), a.2.2.2.1, (.slice (some ⟨b12, 0, none⟩) 1 1), [(1 + pickZ a.2.2.1 31, wldZ)], 0, z.2.2.st.cver + 1, 0, .slice none 0 0⟩ : Pt)).toArray) (Quiet.build (us := [(0, _), (1, _), (2, _), (3, _), (4, _), (5, _)]) fl_37 ze_37 rfl rfl (by simp [isCell])) rfl) ?_
     refine D.h rfl (by kernel_rfl) (OpSpec.storeA rfl rfl ?c241 sz_37 ?c244 ?c242 ?c243) (by (repeat' constructor)) ?nx245
     case c241 => exact pt_cells rfl rfl
     case c244 => rfl
     case c242 => simp [ptC]
     case c243 => exact nfz0 _ _
     rintro v L' rfl
     refine D.ph ?_
     refine Phases.go [] (by (repeat' constructor)) ?_
     refine D.qw [] rfl (by kernel_rfl) (Quiet.assign rfl) ?_
     refine D.ph (Phases.fin (G.then_n (G.ret (G.blk_r (G.then_r ?_)))))
     refine G.slMakeN 2 1 (b := b12) (xs := ([(1 + pickZ a.2.2.1 31, wldZ)] : List Ac).flatMap acC) (by (repeat' constructor)) rfl rfl ?_
     refine G.toRd (m := 1) (by (repeat' constructor)) ?_
     refine G.ptCast (b := b0) (l' := ptC (⟨1, (kidZ z.1 (nm6 (pickZ a.2.2.1 6))), a.2.2.2.1, (.slice (some ⟨b12, 0, none⟩) 1 1), [(1 + pickZ a.2.2.1 31, wldZ)], 0, z.2.2.st.cver + 1, 0, .slice none 0 0⟩ : Pt)) (by (repeat' constructor)) rfl ?_
     refine G.rfFold (x := x) (τ := τ) (l := m) hm (by (repeat' constructor)) rfl rfl rfl rfl rfl ?_
     exact G.done2 rfl (.cellA rfl ag_37 (by (repeat' constructor)) (by simp [ptC]) rfl) (.tmp rfl) ⟨(⟨1, (kidZ z.1 (nm6 (pickZ a.2.2.1 6))), a.2.2.2.1, (.slice (some ⟨b12, 0, none⟩) 1 1), [(1 + pickZ a.2.2.1 31, wldZ)], 0, z.2.2.st.cver + 1, 0, .slice none 0 0⟩ : Pt), false, rfl, (fun e => by cases e), ⟨rfl, rfl, by simp, by first | exact hpl62 | (simp; done) | (show z.1.length ≤ 62; omega)⟩, rfl⟩ (by (repeat' constructor)) (by (repeat' constructor))
  ·refine G.seq (G.region (G.q (Quiet.int rfl rfl rfl) rfl (G.q (Quiet.assign rfl) rfl (G.nil (G.then_n ?_)))))
   refine G.condD rfl (fun h111 => ?_) (fun h111 => ?_)
   ·refine G.seq (G.seq (G.region (G.q (Quiet.move rfl) rfl (G.q (Quiet.int rfl rfl rfl) rfl (G.nil (G.then_n ?_))))))
    refine G.condD rfl (fun h114 => ?_) (fun h114 => ?_)
    ·refine G.seq (G.region ?_)
     refine G.q (Quiet.to (v' := .agg (ptC (⟨0, [], [], .slice none 0 0, [], 0, 0, 0, .slice none 0 0⟩ : Pt)).toArray) (Quiet.build (us := []) fl_37 ze_37 rfl rfl (by simp [isCell])) rfl) rfl ?_
     refine G.op (OpSpec.storeA rfl rfl ?c250 sz_37 ?c253 ?c251 ?c252) (by (repeat' constructor)) rfl ?nx254
     case c250 => exact pt_cells rfl rfl
     case c253 => rfl
     case c251 => simp [ptC]
     case c252 => exact nfz0 _ _
     rintro v L' rfl
     refine G.q (Quiet.assign rfl) rfl (G.nil (G.then_n (G.ret (G.then_r (G.blk_r (G.then_r ?_))))))
     refine G.add (p := rdO 2 (.slice none 0 0) 0 []) (fun h => rd_none 2 h) ?_
     refine G.ptCast (b := b0) (l' := ptC (⟨0, [], [], .slice none 0 0, [], 0, 0, 0, .slice none 0 0⟩ : Pt)) (by (repeat' constructor)) rfl ?_
     refine G.rfFold (x := x) (τ := τ) (l := m) hm (by (repeat' constructor)) rfl rfl rfl rfl rfl ?_
     exact G.done2 rfl (.cellA rfl ag_37 (by (repeat' constructor)) (by simp [ptC]) rfl) (.tmp rfl) ⟨(⟨0, [], [], .slice none 0 0, [], 0, 0, 0, .slice none 0 0⟩ : Pt), false, rfl, (fun e => by cases e), ⟨rfl, rfl, by simp, by first | exact hpl62 | (simp; done) | (show z.1.length ≤ 62; omega)⟩, rfl⟩ (by (repeat' constructor)) (by (repeat' constructor))
    ·refine G.skip (G.then_n (G.seq ?_))
     have h114b : 0 ≤ placeTo τ.nodes (parentZ z.1) := by have h0 : ¬ placeTo τ.nodes (parentZ z.1) < 0 := h114; omega
     obtain ⟨k, hk, hpk, hkp⟩ := place_get (l := τ.nodes) h114b
     have hpz : placeZ τ (parentZ z.1) = k := hpk
     rw [hpz]
     have hkl2 : k < m.length := by omega
     have hlk : alook τ.nodes m[k].1 = some m[k].2.2 := by have g := nds_get hm (i := k) (by omega); have g2 := al_get hnd (i := k) (by omega); rw [g] at g2; exact g2
     have hvk := hinv.ver _ _ hlk
     refine G.slShape (T := 131) (sz := 12) (v := .slice am m.length cm) (xs := m.flatMap rnC) (by (repeat' constructor)) (by omega) fun bm bm' e0 mbm _ => ?_
     simp only [Value.slice.injEq, true_and] at e0
     obtain ⟨rfl, rfl⟩ := e0
     refine G.draw [13] [[0, 1, 2, 3, 4, 5, 6, 7, 8, 9, 10, 11, 12, 13], [14]] mixed (by kernel_rfl) ?_
     refine Phases.go [] (by (repeat' constructor)) ?_
     refine D.qw [1, 12, 13] rfl (by kernel_rfl) (Quiet.fieldAddr rfl fo_131_0) ?_
     refine D.qw [12, 13] rfl (by kernel_rfl) (Quiet.load rfl ag_9 (by (repeat' constructor)) (rfl)) ?_
     refine D.qw [3, 4, 5, 7, 8, 9, 10, 11, 12, 13] rfl (by kernel_rfl) (Quiet.move rfl) ?_
     refine D.qw [4, 5, 7, 8, 9, 10, 11, 12, 13] rfl (by kernel_rfl) (Quiet.nilp rfl) ?_
     refine D.qw [5, 7, 8, 9, 10, 11, 12, 13] rfl (by kernel_rfl) (Quiet.fieldAddr rfl fo_101_0) ?_
     refine D.qw [7, 8, 9, 10, 11, 12, 13] rfl (by kernel_rfl) (Quiet.load rfl ag_98 (by (repeat' constructor)) (rfl)) ?_
     refine D.qw [7, 8, 9, 10, 11, 12, 13] rfl (by kernel_rfl) (Quiet.move rfl) ?_
     refine D.qw [8, 9, 10, 11, 12, 13] rfl (by kernel_rfl) (Quiet.indexAddr rfl rfl el_98 (by omega)) ?_
     refine D.qw [9, 10, 11, 12, 13] rfl (by kernel_rfl) (Quiet.fieldAddr rfl fo_131_3) ?_
     refine D.qw [10, 11, 12, 13] rfl (by kernel_rfl) (Quiet.fieldAddr rfl fo_43_4) ?_
     refine D.qw [11, 12, 13] rfl (by kernel_rfl) (Quiet.loadRd (sz := 12) (j := k * 12 + 7) (p := rnR _ m) rfl ag_3 (by (repeat' constructor)) (fun h hp => slR_rd hp) (by omega) ((rn_cell (l := m) (i := k) (k := 7) (by omega) (by decide)).trans rfl)) ?_
     refine D.qw [12, 13] rfl (by kernel_rfl) (Quiet.add rfl rfl (by omega)) ?_
     refine D.qw [13] rfl (by kernel_rfl) (Quiet.to (v' := .agg (ptC (⟨2, z.1, [], .slice none 0 0, [], 0, m[k].2.2.st.cver + 1, 0, .slice none 0 0⟩ : Pt)).toArray) (Quiet.build (us := [(0, _), (1, _), (5, _)]) fl_37 ze_37 rfl rfl (by simp [isCell])) rfl) ?_
     refine D.h rfl (by kernel_rfl) (OpSpec.storeA rfl rfl ?c269 sz_37 ?c272 ?c270 ?c271) (by (repeat' constructor)) ?nx273
     case c269 => exact pt_cells rfl rfl
     case c272 => rfl
     case c270 => simp [ptC]
     case c271 => exact nfz0 _ _
     rintro v L' rfl
     refine D.ph ?_
     refine Phases.go [] (by (repeat' constructor)) ?_
     refine D.qw [] rfl (by kernel_rfl) (Quiet.assign rfl) ?_
     refine D.ph (Phases.fin (G.then_n (G.ret (G.blk_r (G.then_r ?_)))))
     refine G.add (p := rdO 2 (.slice none 0 0) 0 []) (fun h => rd_none 2 h) ?_
     refine G.ptCast (b := b0) (l' := ptC (⟨2, z.1, [], .slice none 0 0, [], 0, m[k].2.2.st.cver + 1, 0, .slice none 0 0⟩ : Pt)) (by (repeat' constructor)) rfl ?_
     refine G.rfFold (x := x) (τ := τ) (l := m) hm (by (repeat' constructor)) rfl rfl rfl rfl rfl ?_
     exact G.done2 rfl (.cellA rfl ag_37 (by (repeat' constructor)) (by simp [ptC]) rfl) (.tmp rfl) ⟨(⟨2, z.1, [], .slice none 0 0, [], 0, m[k].2.2.st.cver + 1, 0, .slice none 0 0⟩ : Pt), _, rfl, fun _ => ⟨⟨by show (0 : Int) ≤ 2; decide, by show (2 : Int) ≤ 4; decide⟩, by show z.1.length ≤ 62; omega, by simp, .inl rfl, .inl rfl, ⟨by show 0 ≤ m[k].2.2.st.cver + 1; omega, by show m[k].2.2.st.cver + 1 ≤ K + 1; omega⟩, rfl, (fun e => by cases e)⟩, ⟨rfl, rfl, by simp, by first | exact hpl62 | (simp; done) | (show z.1.length ≤ 62; omega)⟩, rfl⟩ (by (repeat' constructor)) (by (repeat' constructor))
   ·refine G.seq (G.region (G.q (Quiet.int rfl rfl rfl) rfl (G.q (Quiet.assign rfl) rfl (G.nil (G.then_n ?_)))))
    refine G.condD rfl (fun h129 => ?_) (fun h129 => ?_)
    ·refine G.seq (G.region (G.q (Quiet.fieldAddr rfl fo_131_0) rfl ?_))
     refine G.q (Quiet.load rfl ag_9 (by (repeat' constructor)) (rfl)) rfl ?_
     refine G.q (Quiet.fieldAddr rfl fo_94_3) rfl ?_
     refine G.q (Quiet.load rfl ag_9 (by (repeat' constructor)) (rfl)) rfl ?_
     refine G.q (Quiet.fieldAddr rfl fo_131_3) rfl (G.q (Quiet.fieldAddr rfl fo_43_3) rfl ?_)
     refine G.q (Quiet.load rfl ag_3 (by (repeat' constructor)) (rfl)) rfl ?_
     refine G.q (Quiet.add rfl rfl (by omega)) rfl ?_
     refine G.q (Quiet.to (v' := .agg (ptC (⟨3, z.1, a.2.2.2.1, .slice none 0 0, [], 0, z.2.2.st.ver + 1, 0, .slice none 0 0⟩ : Pt)).toArray) (Quiet.build (us := [(0, _), (1, _), (2, _), (5, _)]) fl_37 ze_37 rfl rfl (by simp [isCell])) rfl) rfl ?_
     refine G.op (OpSpec.storeA rfl rfl ?c285 sz_37 ?c288 ?c286 ?c287) (by (repeat' constructor)) rfl ?nx289
     case c285 => exact pt_cells rfl rfl
     case c288 => rfl
     case c286 => simp [ptC]
     case c287 => exact nfz0 _ _
     rintro v L' rfl
     refine G.q (Quiet.assign rfl) rfl (G.nil (G.then_n (G.ret (G.blk_r (G.then_r ?_)))))
     refine G.add (p := rdO 2 (.slice none 0 0) 0 []) (fun h => rd_none 2 h) ?_
     refine G.ptCast (b := b0) (l' := ptC (⟨3, z.1, a.2.2.2.1, .slice none 0 0, [], 0, z.2.2.st.ver + 1, 0, .slice none 0 0⟩ : Pt)) (by (repeat' constructor)) rfl ?_
     refine G.rfFold (x := x) (τ := τ) (l := m) hm (by (repeat' constructor)) rfl rfl rfl rfl rfl ?_
     exact G.done2 rfl (.cellA rfl ag_37 (by (repeat' constructor)) (by simp [ptC]) rfl) (.tmp rfl) ⟨(⟨3, z.1, a.2.2.2.1, .slice none 0 0, [], 0, z.2.2.st.ver + 1, 0, .slice none 0 0⟩ : Pt), _, rfl, fun _ => ⟨⟨by show (0 : Int) ≤ 3; decide, by show (3 : Int) ≤ 4; decide⟩, by show z.1.length ≤ 62; omega, hd, .inl rfl, .inl rfl, ⟨by show 0 ≤ z.2.2.st.ver + 1; omega, by show z.2.2.st.ver + 1 ≤ K + 1; omega⟩, rfl, (fun e => by cases e)⟩, ⟨rfl, rfl, by simp, by first | exact hpl62 | (simp; done) | (show z.1.length ≤ 62; omega)⟩, rfl⟩ (by (repeat' constructor)) (by (repeat' constructor))
    ·refine G.skip (G.blk_n (G.then_n (G.seq ?_)))
     refine G.draw [7, 13] [[0, 1, 2, 3, 4, 5, 6, 8, 9, 10, 11, 7], [12, 13], [14]] mixed (by kernel_rfl) ?_
     refine Phases.go [ptc ba _ _, ptc bN _ _] (by (repeat' constructor)) ?_
     refine D.q rfl (by kernel_rfl) (Quiet.fieldAddr rfl fo_131_0) ?_
     refine D.q rfl (by kernel_rfl) (Quiet.load rfl ag_9 (by (repeat' constructor)) (rfl)) ?_
     refine D.qw [3, 4, 5, 6, 7] rfl (by kernel_rfl) (Quiet.fieldAddr rfl fo_94_2) ?_
     refine D.qw [4, 5, 6, 7] rfl (by kernel_rfl) (Quiet.load rfl ag_3 (by (repeat' constructor)) (rfl)) ?_
     refine D.m rfl (by kernel_rfl) (OpSpec.call Tryz.func21 rfl rfl (vs := [_, _]) rfl (pick7_spec _ _ ha.h3 (by decide))) (by (repeat' constructor)) ?nx295
     refine D.qw [6, 7] rfl (by kernel_rfl) (Quiet.add rfl rfl (by omega)) ?_
     refine D.qw [7] rfl (by kernel_rfl) (Quiet.to (v' := .agg (acC (1 + pickZ a.2.2.1 31, wldZ)).toArray) (Quiet.build (us := [(0, _), (1, _)]) fl_104 ze_104 rfl rfl (by simp [isCell])) rfl) ?_
     refine D.q rfl (by kernel_rfl) (Quiet.fieldAddr rfl fo_131_3) ?_
     refine D.q rfl (by kernel_rfl) (Quiet.fieldAddr rfl fo_43_5) ?_
     refine D.q rfl (by kernel_rfl) (Quiet.load rfl ag_3 (by (repeat' constructor)) (rfl)) ?_
     refine D.q rfl (by kernel_rfl) (Quiet.add rfl rfl (by omega)) ?_
     refine D.h rfl (by kernel_rfl) (OpSpec.buildSlice (vs := [_]) el_34 ze_104 rfl rfl rfl rfl (by first | (simp [Value.cells]; done) | (intro v hv; simp only [List.mem_cons, List.not_mem_nil, or_false] at hv; (repeat (first | (subst hv; rfl) | (rcases hv with hv | hv; (subst hv; rfl)))))) (by decide)) (by (repeat' constructor)) ?nx303
     rintro v L' ⟨b19, rfl, rfl⟩
     refine D.ph ?_
     refine Phases.go [] (by (repeat' constructor)) ?_
     refine D.qw [13] rfl (by kernel_rfl) (Quiet.to (v' := .agg (ptC (⟨4, z.1, [], (.slice (some ⟨b19, 0, none⟩) 1 1), [(1 + pickZ a.2.2.1 31, wldZ)], 0, z.2.2.st.av + 1, 0, .slice none 0 0⟩ : Pt)).toArray) (Quiet.build (us := [(0, _), (1, _), (3, _), (5, _)]) fl_37 ze_37 rfl rfl (by simp [isCell])) rfl) ?_
     refine D.h rfl (by kernel_rfl) (OpSpec.storeA rfl rfl ?c306 sz_37 ?c309 ?c307 ?c308) (by (repeat' constructor)) ?nx310
     case c306 => exact pt_cells rfl rfl
     case c309 => rfl
     case c307 => simp [ptC]
     case c308 => exact nfz0 _ _
     rintro v L' rfl
     refine D.ph ?_
     refine Phases.go [] (by (repeat' constructor)) ?_
     refine D.qw [] rfl (by kernel_rfl) (Quiet.assign rfl) ?_
     refine D.ph (Phases.fin (G.then_n (G.ret ?_)))
     refine G.slMakeN 2 1 (b := b19) (xs := ([(1 + pickZ a.2.2.1 31, wldZ)] : List Ac).flatMap acC) (by (repeat' constructor)) rfl rfl ?_
     refine G.toRd (m := 1) (by (repeat' constructor)) ?_
     refine G.ptCast (b := b0) (l' := ptC (⟨4, z.1, [], (.slice (some ⟨b19, 0, none⟩) 1 1), [(1 + pickZ a.2.2.1 31, wldZ)], 0, z.2.2.st.av + 1, 0, .slice none 0 0⟩ : Pt)) (by (repeat' constructor)) rfl ?_
     refine G.rfFold (x := x) (τ := τ) (l := m) hm (by (repeat' constructor)) rfl rfl rfl rfl rfl ?_
     exact G.done2 rfl (.cellA rfl ag_37 (by (repeat' constructor)) (by simp [ptC]) rfl) (.tmp rfl) ⟨(⟨4, z.1, [], (.slice (some ⟨b19, 0, none⟩) 1 1), [(1 + pickZ a.2.2.1 31, wldZ)], 0, z.2.2.st.av + 1, 0, .slice none 0 0⟩ : Pt), _, rfl, fun _ => ⟨⟨by show (0 : Int) ≤ 4; decide, by show (4 : Int) ≤ 4; decide⟩, by show z.1.length ≤ 62; omega, by simp, .inr ⟨_, by omega, by omega, rfl⟩, .inl rfl, ⟨by show 0 ≤ z.2.2.st.av + 1; omega, by show z.2.2.st.av + 1 ≤ K + 1; omega⟩, rfl, (fun e => by cases e)⟩, ⟨rfl, rfl, by simp, by first | exact hpl62 | (simp; done) | (show z.1.length ≤ 62; omega)⟩, rfl⟩ (by (repeat' constructor)) (by (repeat' constructor))

end Go.Proofs.YtnnbelmpbmfdnaaGreatDoor

/- Own work, by program: law 07: acts made small: walked. -/

namespace Go.Proofs.YtnnbelmpbmfdnaaGreatDoor
open Go
theorem take_min (l : Bs) : l.take (min (l.length : Int) 100).toNat = l.take 100 := by
  by_cases h : l.length ≤ 100
  · rw [show (min (l.length : Int) 100).toNat = l.length by omega, List.take_length, List.take_of_length_le h]
  · rw [show (min (l.length : Int) 100).toNat = 100 by omega]
def smA (s : Ac0) : Ac0 := (s.1, (s.2.1, (s.2.2.1, (s.2.2.2.1.take 100, .slice none 0 0))))
theorem ac0_cells {a : Ac0} (h : isCell a.2.2.2.2 = true) : ∀ v ∈ ac0C a, isCell v = true := by
  intro v hv
  simp only [ac0C, List.mem_cons, List.not_mem_nil, or_false] at hv
  rcases hv with rfl | rfl | rfl | rfl | rfl
  case inr.inr.inr.inr => exact h
  all_goals rfl
structure Smalls (ss : List Ac0) : Prop where
  few : ss.length ≤ 6
  ok : ∀ s ∈ ss, IntsOk s ∧ s.2.2.2.1.length ≤ 100
theorem smalls_of {p : HP} {v : Value} {ss : List Ac0} (h : Acts0 p v ss) {i : Nat} (hi : i ≤ 6) : Smalls ((ss.take i).map smA) := by
  refine ⟨by rw [List.length_map, List.length_take]; omega, fun s hs => ?_⟩
  obtain ⟨y, hy, rfl⟩ := List.mem_map.1 hs
  obtain ⟨g1, g2, g3, -⟩ := h.ok y (List.mem_of_mem_take hy)
  exact ⟨⟨g1, g2, g3⟩, by show (y.2.2.2.1.take 100).length ≤ 100; rw [List.length_take]; omega⟩
theorem acts0_own {v : Value} {ss : List Ac0} (h : Smalls ss) : Acts0 (rdO 5 v ss.length (ss.flatMap ac0C)) v ss :=
  ⟨fun _ hp => hp, by have := h.few; omega, fun s hs => by obtain ⟨⟨g1, g2, g3⟩, g4⟩ := h.ok s hs; exact ⟨g1, g2, g3, by omega⟩⟩
set_option maxRecDepth 100000 in
theorem small7_spec (a : Ac0) (q : HP) (ss : List Ac0) (hs : Acts0 q a.2.2.2.2 ss) (hc : ∀ s ∈ ss, isCell s.2.2.2.2 = true) (hd : a.2.2.2.1.length ≤ 1048576) : Fn Tryz.prog 44 #[.agg (ac0C a).toArray] [q] fun v L => ∃ u us, v = .agg (ac0C (a.1, (a.2.1, (a.2.2.1, (a.2.2.2.1.take 100, u))))).toArray ∧ Smalls us ∧ L = [q, rdO 5 u us.length (us.flatMap ac0C)] := by
 refine Fn.intro (vs := [.agg (ac0C a).toArray]) Tryz.func44 rfl rfl ?_
 intro F W
 refine G.rdAny (p := q) hs.cells (by (repeat' constructor)) fun ab cb eab _ => ?_
 have hrd := hs.cells
 rw [eab] at hrd
 have hlen := hs.len
 have hca : isCell a.2.2.2.2 = true := by rw [eab]; rfl
 refine G.seq (G.region ?_)
 refine G.op (OpSpec.box rfl) (by (repeat' constructor)) rfl ?nx1
 rintro v L' ⟨ba, rfl, rfl⟩
 refine G.op (OpSpec.allocA ze_94) (by (repeat' constructor)) rfl ?nx3
 rintro v L' ⟨b0, rfl, rfl⟩
 refine G.nil ?_
 refine G.ptCast (b := ba) (l' := ac0C a) (by (repeat' constructor)) rfl ?_
 refine G.then_n (G.seq (G.region (G.q (Quiet.fieldAddr rfl fo_94_3) rfl ?_)))
 refine G.q (Quiet.load rfl ag_9 (by (repeat' constructor)) (rfl)) rfl ?_
 refine G.q (Quiet.fieldAddr rfl fo_94_3) rfl ?_
 refine G.q (Quiet.load rfl ag_9 (by (repeat' constructor)) (rfl)) rfl ?_
 refine G.q (Quiet.strlen rfl Tryz.underlying9 rfl) rfl (G.q (Quiet.min2 rfl rfl) rfl ?_)
 refine G.q (Quiet.to (v' := vstr (a.2.2.2.1.take 100)) (Quiet.strTo rfl rfl Tryz.underlying9 (by omega)) (by rw [take_min])) rfl ?_
 refine G.q (Quiet.fieldAddr rfl fo_94_3) rfl ?_
 refine G.op (OpSpec.store rfl rfl rfl sz_9 ?c13 ?c14) (by (repeat' constructor)) rfl ?nx15
 case c13 => simp [ac0C]
 case c14 => exact nfz0 _ _
 rintro v L' rfl
 refine G.nil ?_
 refine G.ptCast (b := ba) (l' := ac0C (a.1, (a.2.1, (a.2.2.1, (a.2.2.2.1.take 100, a.2.2.2.2))))) (by (repeat' constructor)) rfl ?_
 refine G.then_n (G.seq (G.region (G.q (Quiet.assign rfl) rfl (G.nil (G.then_n (G.seq (G.seq (G.add (slR_nil 94 5) (G.region (G.q (Quiet.assign rfl) rfl (G.nil (G.then_n (G.block ?_)))))))))))))
 refine G.loopK (ι := Nat × Value) (fun q E => (4, vint q.1) :: (3, q.2) :: E) (fun q => [slR 94 5 q.2 ((ss.take q.1).map smA).length (((ss.take q.1).map smA).flatMap ac0C)]) (fun q => q.1 ≤ ss.length ∧ q.1 ≤ 6 ∧ ∃ a c, q.2 = .slice a ((ss.take q.1).map smA).length c) (fun q => ss.length - q.1) (0, .slice none 0 0) (ts := [1, 2]) (.cons rfl (.cons rfl (.nil))) (⟨Nat.zero_le _, Nat.zero_le _, none, 0, rfl⟩) ⟨rfl, rfl, rfl, rfl, trivial⟩ (by (repeat' constructor)) ?_
 rintro ⟨i, u⟩ ⟨hi, hi6, au, cu, hu⟩
 dsimp only
 dsimp only at hi hi6 hu
 subst hu
 have hal : ((ss.take i).map smA).length = i := by rw [List.length_map, List.length_take]; omega
 refine G.seq (G.seq (G.region (G.q (Quiet.move rfl) rfl (G.q (Quiet.fieldAddr rfl fo_94_4) rfl ?_))))
 refine G.q (Quiet.as (v' := .slice ab ss.length cb) (by exact eab) (Quiet.load rfl ag_22 (by (repeat' constructor)) (rfl))) rfl ?_
 refine G.q (Quiet.slen rfl Tryz.underlying22 rfl) rfl (G.q (Quiet.int rfl rfl rfl) rfl (G.q (Quiet.move rfl) rfl ?_))
 refine G.dec (t := 19) rfl (fun h4_19 => ?_) (fun h4_19 => ?_)
 ·refine G.kDT (t := 18) rfl h4_19 (G.grun (t := 19) rfl rfl rfl (G.q (Quiet.move rfl) rfl (G.grun (t := 19) rfl rfl rfl (G.q (Quiet.int rfl rfl rfl) rfl (G.q (Quiet.pickT rfl rfl) rfl (G.nil (G.then_n ?_)))))))
  refine G.condD rfl (fun h22 => ?_) (fun h22 => ?_)
  ·have hi2 : i < ss.length := by omega
   refine G.rdShape (p := q) hrd (by (repeat' constructor)) (by omega) fun bb ob e1 => ?_
   subst e1
   obtain ⟨hk1, hk2, hk3, hk4⟩ := hs.ok _ (List.getElem_mem hi2)
   have hcs := hc _ (List.getElem_mem hi2)
   refine G.skip (G.then_n (G.seq (G.block (G.seq (G.region (G.q (Quiet.fieldAddr rfl fo_94_4) rfl ?_))))))
   refine G.q (Quiet.as (v' := .slice (some ⟨bb, ob, none⟩) ss.length cb) (by exact eab) (Quiet.load rfl ag_22 (by (repeat' constructor)) (rfl))) rfl ?_
   refine G.q (Quiet.move rfl) rfl ?_
   refine G.q (Quiet.indexAddr rfl rfl el_22 (by omega)) rfl ?_
   refine G.q (Quiet.loadRdA (sz := 5) (j := i * 5) (k := 5) (p := q) (vs := ac0C ss[i]) rfl ag_94 (by (repeat' constructor)) hrd (by simp) (by omega) (by omega) (flatMap_at (f := ac0C) (sz := 5) (fun _ _ => rfl) (by omega))) rfl ?_
   refine G.op (OpSpec.allocA ze_94) (by (repeat' constructor)) rfl ?nx30
   rintro v L' ⟨bk, rfl, rfl⟩
   refine G.op (OpSpec.storeA rfl rfl ?c32 sz_94 ?c35 ?c33 ?c34) (by (repeat' constructor)) rfl ?nx36
   case c32 => exact ac0_cells hcs
   case c35 => rfl
   case c33 => simp [ac0C]
   case c34 => exact nfz0 _ _
   rintro v L' rfl
   refine G.nil ?_
   refine G.ptCast (b := bk) (l' := ac0C ss[i]) (by (repeat' constructor)) rfl ?_
   refine G.then_n (G.seq (G.region (G.q (Quiet.fieldAddr rfl fo_94_3) rfl ?_)))
   refine G.q (Quiet.load rfl ag_9 (by (repeat' constructor)) (rfl)) rfl ?_
   refine G.q (Quiet.fieldAddr rfl fo_94_3) rfl ?_
   refine G.q (Quiet.load rfl ag_9 (by (repeat' constructor)) (rfl)) rfl ?_
   refine G.q (Quiet.strlen rfl Tryz.underlying9 rfl) rfl (G.q (Quiet.min2 rfl rfl) rfl ?_)
   refine G.q (Quiet.to (v' := vstr (ss[i].2.2.2.1.take 100)) (Quiet.strTo rfl rfl Tryz.underlying9 (by omega)) (by rw [take_min])) rfl ?_
   refine G.q (Quiet.fieldAddr rfl fo_94_3) rfl ?_
   refine G.op (OpSpec.store rfl rfl rfl sz_9 ?c45 ?c46) (by (repeat' constructor)) rfl ?nx47
   case c45 => simp [ac0C]
   case c46 => exact nfz0 _ _
   rintro v L' rfl
   refine G.nil ?_
   refine G.ptCast (b := bk) (l' := ac0C (ss[i].1, (ss[i].2.1, (ss[i].2.2.1, (ss[i].2.2.2.1.take 100, ss[i].2.2.2.2))))) (by (repeat' constructor)) rfl ?_
   refine G.then_n (G.seq (G.region (G.q (Quiet.fieldAddr rfl fo_94_4) rfl ?_)))
   refine G.op (OpSpec.store rfl rfl rfl sz_22 ?c49 ?c50) (by (repeat' constructor)) rfl ?nx51
   case c49 => simp [ac0C]
   case c50 => exact nfz0 _ _
   rintro v L' rfl
   refine G.nil ?_
   refine G.ptCast (b := bk) (l' := ac0C (smA ss[i])) (by (repeat' constructor)) rfl ?_
   refine G.then_n (G.region (G.q (Quiet.move rfl) rfl ?_))
   refine G.q (Quiet.loadAs (vs := ac0C (smA ss[i])) rfl ag_94 (by (repeat' constructor)) (by simp [ac0C]) rfl) rfl ?_
   refine G.op (OpSpec.buildSlice (vs := [_]) el_22 ze_94 rfl rfl rfl rfl (by first | (simp [Value.cells]; done) | (intro v hv; simp only [List.mem_cons, List.not_mem_nil, or_false] at hv; (repeat (first | (subst hv; rfl) | (rcases hv with hv | hv; (subst hv; rfl)))))) (by decide)) (by (repeat' constructor)) rfl ?nx54
   rintro v L' ⟨bo, rfl, rfl⟩
   refine G.op (OpSpec.append1 rfl rfl rfl el_22 ze_94 rfl rfl ?c56 ?c57 (Nat.le_refl _) ?c58 (by decide)) (by (repeat' constructor)) rfl ?nx59
   case c56 => first | exact ac0_cells rfl | (simp only [List.map_cons, List.map_nil, List.flatten_cons, List.flatten_nil, List.append_nil]; exact ac0_cells rfl)
   case c57 => rfl
   case c58 => first | omega | (simp; omega)
   rintro v L' ⟨⟨a9_3, c9_3, rfl⟩, rfl⟩
   refine G.q (Quiet.assign rfl) rfl (G.nil (G.blk_n (G.then_n (G.region (G.q (Quiet.move rfl) rfl ?_)))))
   refine G.q (Quiet.add rfl rfl (by omega)) rfl ?_
   refine G.q (Quiet.assign rfl) rfl (G.nil (G.then_n ?_))
   have hst : ((ss.take (i + 1)).map smA) = ((ss.take i).map smA) ++ [smA ss[i]] := by rw [List.take_succ_eq_append_getElem hi2, List.map_append]; rfl
   rw [show ((ss.take i).map smA).length + 1 = ((ss.take (i + 1)).map smA).length by rw [hst, List.length_append]; rfl]
   refine G.slCast (T := 94) (sz := 5) (m' := ((ss.take (i + 1)).map smA).length) (xs' := ((ss.take (i + 1)).map smA).flatMap ac0C) (by (repeat' constructor)) rfl (by rw [hst, List.flatMap_append]; simp; rfl) ?_
   exact G.roundK ((i + 1, .slice a9_3 ((ss.take (i + 1)).map smA).length c9_3)) (⟨by dsimp only; omega, by dsimp only; omega, _, _, rfl⟩) (by dsimp only; omega) ⟨rfl, rfl, rfl, rfl, trivial⟩ (by (repeat' constructor)) (by ((repeat (apply Have.cons; (repeat (first | exact Pick.here | apply Pick.there)))); apply Have.base; repeat' constructor))
  ·refine G.exit (G.then_e (G.then_e (G.blk_e (G.then_n (G.seq (G.region (G.q (Quiet.move rfl) rfl (G.q (Quiet.fieldAddr rfl fo_94_4) rfl ?_))))))))
   refine G.op (OpSpec.store rfl rfl rfl sz_22 ?c65 ?c66) (by (repeat' constructor)) rfl ?nx67
   case c65 => simp [ac0C]
   case c66 => exact nfz0 _ _
   rintro v L' rfl
   refine G.nil ?_
   refine G.ptCast (b := ba) (l' := ac0C (a.1, (a.2.1, (a.2.2.1, (a.2.2.2.1.take 100, (.slice au ((ss.take i).map smA).length cu)))))) (by (repeat' constructor)) rfl ?_
   refine G.then_n (G.seq (G.region ?_))
   refine G.q (Quiet.loadAs (vs := ac0C (a.1, (a.2.1, (a.2.2.1, (a.2.2.2.1.take 100, (.slice au ((ss.take i).map smA).length cu)))))) rfl ag_94 (by (repeat' constructor)) (by simp [ac0C]) rfl) rfl ?_
   refine G.op (OpSpec.storeA rfl rfl ?c69 sz_94 ?c72 ?c70 ?c71) (by (repeat' constructor)) rfl ?nx73
   case c69 => exact ac0_cells rfl
   case c72 => rfl
   case c70 => simp [ac0C]
   case c71 => exact nfz0 _ _
   rintro v L' rfl
   refine G.nil (G.then_n (G.ret ?_))
   refine G.toRd (T := 94) (sz := 5) (m := ((ss.take i).map smA).length) (by (repeat' constructor)) ?_
   refine G.ptCast (b := b0) (l' := ac0C (a.1, (a.2.1, (a.2.2.1, (a.2.2.2.1.take 100, (.slice au ((ss.take i).map smA).length cu)))))) (by (repeat' constructor)) rfl ?_
   exact G.done1 rfl (.cellA rfl ag_94 (by (repeat' constructor)) (by simp [ac0C]) rfl) ⟨_, _, rfl, smalls_of hs (i := i) hi6, rfl⟩ (by (repeat' constructor)) (by (repeat' constructor))
 ·refine G.kDF (t := 18) rfl h4_19 (G.gskip (t := 19) rfl rfl rfl rfl (G.gskip (t := 19) rfl rfl rfl rfl (G.q (Quiet.pickF rfl rfl) rfl (G.nil (G.then_n (G.condF rfl (G.exit (G.then_e (G.then_e (G.blk_e (G.then_n (G.seq (G.region (G.q (Quiet.move rfl) rfl (G.q (Quiet.fieldAddr rfl fo_94_4) rfl ?_)))))))))))))))
  refine G.op (OpSpec.store rfl rfl rfl sz_22 ?c77 ?c78) (by (repeat' constructor)) rfl ?nx79
  case c77 => simp [ac0C]
  case c78 => exact nfz0 _ _
  rintro v L' rfl
  refine G.nil ?_
  refine G.ptCast (b := ba) (l' := ac0C (a.1, (a.2.1, (a.2.2.1, (a.2.2.2.1.take 100, (.slice au ((ss.take i).map smA).length cu)))))) (by (repeat' constructor)) rfl ?_
  refine G.then_n (G.seq (G.region ?_))
  refine G.q (Quiet.loadAs (vs := ac0C (a.1, (a.2.1, (a.2.2.1, (a.2.2.2.1.take 100, (.slice au ((ss.take i).map smA).length cu)))))) rfl ag_94 (by (repeat' constructor)) (by simp [ac0C]) rfl) rfl ?_
  refine G.op (OpSpec.storeA rfl rfl ?c81 sz_94 ?c84 ?c82 ?c83) (by (repeat' constructor)) rfl ?nx85
  case c81 => exact ac0_cells rfl
  case c84 => rfl
  case c82 => simp [ac0C]
  case c83 => exact nfz0 _ _
  rintro v L' rfl
  refine G.nil (G.then_n (G.ret ?_))
  refine G.toRd (T := 94) (sz := 5) (m := ((ss.take i).map smA).length) (by (repeat' constructor)) ?_
  refine G.ptCast (b := b0) (l' := ac0C (a.1, (a.2.1, (a.2.2.1, (a.2.2.2.1.take 100, (.slice au ((ss.take i).map smA).length cu)))))) (by (repeat' constructor)) rfl ?_
  exact G.done1 rfl (.cellA rfl ag_94 (by (repeat' constructor)) (by simp [ac0C]) rfl) ⟨_, _, rfl, smalls_of hs (i := i) hi6, rfl⟩ (by (repeat' constructor)) (by (repeat' constructor))

theorem small7_ro (a : Ac0) (q : HP) (ss : List Ac0) (hs : Acts0 q a.2.2.2.2 ss) (hc : ∀ s ∈ ss, isCell s.2.2.2.2 = true) (hd : a.2.2.2.1.length ≤ 1048576) : Fn Tryz.prog 44 #[.agg (ac0C a).toArray] ([q] ++ []) fun v L => ∃ L', L = [q] ++ L' ∧ (∃ u us, v = .agg (ac0C (a.1, (a.2.1, (a.2.2.1, (a.2.2.2.1.take 100, u))))).toArray ∧ Smalls us ∧ L' = [rdO 5 u us.length (us.flatMap ac0C)]) :=
  (small7_spec a q ss hs hc hd).mono fun v L ⟨u, us, e1, e2, e3⟩ => ⟨_, e3, u, us, e1, e2, rfl⟩
end Go.Proofs.YtnnbelmpbmfdnaaGreatDoor

/- Own work, by program: law 07: transactions of a sound history: walked. -/
namespace Go.Proofs.YtnnbelmpbmfdnaaGreatDoor
open Go
set_option maxHeartbeats 1000000 in
set_option maxRecDepth 100000 in
theorem txn7_spec (x : Nat) (τ : Tr) (a : Ac0) (q : HP) (ss : List Ac0) (zx K : Int) (hinv : HInv τ K) (hK : K ≤ 1099511620000) (ha : IntsOk a) (hd : a.2.2.2.1.length ≤ 100) (hq : Acts0 q a.2.2.2.2 ss) (hsm : Smalls ss) : Fn Tryz.prog 43 #[vptr x, .agg (ac0C a).toArray, vint zx] [refR x τ, q] fun v L => ∃ (y : Pt) (subs : List Pt), v = .agg (ptC y).toArray ∧ ShapeH τ zx y subs K ∧ TxC y subs ∧ L = [refR x τ, q, txRd y subs] := by
 refine Fn.intro (vs := [vptr x, .agg (ac0C a).toArray, vint zx]) Tryz.func43 rfl rfl ?_
 intro F W
 refine G.rdAny (p := q) hq.cells (by (repeat' constructor)) fun ab cb eab _ => ?_
 have hrd := hq.cells
 rw [eab] at hrd
 have hfew := hinv.ok.few
 have hsf := hinv.ok.sfew
 have hs6 := hsm.few
 have hca : isCell a.2.2.2.2 = true := by rw [eab]; rfl
 have hp5 := pickZ_range a.2.1 (n := 5) (by decide)
 have hp50 := pickZ_range a.2.2.1 (n := 50) (by decide)
 have hp99 := pickZ_range a.2.1 (n := 99) (by decide)
 have hwl : (ownedZ τ (1 + pickZ a.2.1 5)).length ≤ 60 := Nat.le_trans (owned_len τ (1 + pickZ a.2.1 5)) hfew
 refine G.seq (G.region ?_)
 refine G.op (OpSpec.box rfl) (by (repeat' constructor)) rfl ?nx1
 rintro v L' ⟨ba, rfl, rfl⟩
 refine G.op (OpSpec.allocA ze_37) (by (repeat' constructor)) rfl ?nx3
 rintro v L' ⟨b6, rfl, rfl⟩
 refine G.nil ?_
 refine G.ptCast (b := ba) (l' := ac0C a) (by (repeat' constructor)) rfl ?_
 refine G.then_n (G.seq (G.seq (G.region (G.q (Quiet.fieldAddr rfl fo_94_0) rfl ?_))))
 refine G.q (Quiet.load rfl ag_3 (by (repeat' constructor)) (rfl)) rfl ?_
 refine G.op (OpSpec.call Tryz.func21 rfl rfl (vs := [_, _]) rfl (pick7_spec _ _ ha.h1 (by decide))) (by (repeat' constructor)) rfl ?nx7
 rintro v L' ⟨rfl, rfl⟩
 refine G.nil (G.then_n (G.block (G.seq (G.region (G.q (Quiet.int rfl rfl rfl) rfl (G.q (Quiet.assign rfl) rfl (G.nil (G.then_n ?_))))))))
 refine G.condD rfl (fun h23 => ?_) (fun h23 => ?_)
 ·refine G.seq ?_
  refine G.draw [11] [[0, 1, 2, 3, 4, 5, 6, 7, 8, 9, 10, 11]] mixed (by kernel_rfl) ?_
  refine Phases.go [ptc ba _ _] (by (repeat' constructor)) ?_
  refine D.qw [1, 2, 3, 6, 7, 10, 11] rfl (by kernel_rfl) (Quiet.fieldAddr rfl fo_94_1) ?_
  refine D.qw [2, 3, 6, 7, 10, 11] rfl (by kernel_rfl) (Quiet.load rfl ag_3 (by (repeat' constructor)) (rfl)) ?_
  refine D.m rfl (by kernel_rfl) (OpSpec.call Tryz.func21 rfl rfl (vs := [_, _]) rfl (pick7_spec _ _ ha.h2 (by decide))) (by (repeat' constructor)) ?nx12
  refine D.qw [10, 11] rfl (by kernel_rfl) (Quiet.add rfl rfl (by omega)) ?_
  refine D.qw [5, 6, 7, 10, 11] rfl (by kernel_rfl) (Quiet.fieldAddr rfl fo_94_2) ?_
  refine D.qw [6, 7, 10, 11] rfl (by kernel_rfl) (Quiet.load rfl ag_3 (by (repeat' constructor)) (rfl)) ?_
  refine D.m rfl (by kernel_rfl) (OpSpec.call Tryz.func21 rfl rfl (vs := [_, _]) rfl (pick7_spec _ _ ha.h3 (by decide))) (by (repeat' constructor)) ?nx17
  refine D.qw [10, 11] rfl (by kernel_rfl) (Quiet.add rfl rfl (by omega)) ?_
  refine D.qw [9, 10, 11] rfl (by kernel_rfl) (Quiet.fieldAddr rfl fo_94_3) ?_
  refine D.qw [10, 11] rfl (by kernel_rfl) (Quiet.load rfl ag_9 (by (repeat' constructor)) (rfl)) ?_
  refine D.qw [11] rfl (by kernel_rfl) (Quiet.to (v' := .agg (ptC (⟨5, [], a.2.2.2.1, .slice none 0 0, [], (1 + pickZ a.2.1 5), 4 + pickZ a.2.2.1 50, 0, .slice none 0 0⟩ : Pt)).toArray) (Quiet.build (us := [(0, _), (4, _), (5, _), (2, _)]) fl_37 ze_37 rfl rfl (by simp [isCell])) rfl) ?_
  refine D.h rfl (by kernel_rfl) (OpSpec.storeA rfl rfl ?c23 sz_37 ?c26 ?c24 ?c25) (by (repeat' constructor)) ?nx27
  case c23 => exact pt_cells rfl rfl
  case c26 => rfl
  case c24 => simp [ptC]
  case c25 => exact nfz0 _ _
  rintro v L' rfl
  refine D.ph (Phases.fin (G.then_n (G.ret (G.blk_r (G.then_r ?_)))))
  refine G.ptCast (b := b6) (l' := ptC (⟨5, [], a.2.2.2.1, .slice none 0 0, [], (1 + pickZ a.2.1 5), 4 + pickZ a.2.2.1 50, 0, .slice none 0 0⟩ : Pt)) (by (repeat' constructor)) rfl ?_
  refine G.add (p := txRd (⟨5, [], a.2.2.2.1, .slice none 0 0, [], (1 + pickZ a.2.1 5), 4 + pickZ a.2.2.1 50, 0, .slice none 0 0⟩ : Pt) []) (txRd_none rfl rfl rfl) ?_
  exact G.done1 rfl (.cellA rfl ag_37 (by (repeat' constructor)) (by simp [ptC]) rfl) ⟨(⟨5, [], a.2.2.2.1, .slice none 0 0, [], (1 + pickZ a.2.1 5), 4 + pickZ a.2.2.1 50, 0, .slice none 0 0⟩ : Pt), [], rfl, .opens rfl rfl ⟨by show 1 ≤ (1 + pickZ a.2.1 5); omega, by show (1 + pickZ a.2.1 5) ≤ 5; omega⟩ ⟨by show 4 ≤ 4 + pickZ a.2.2.1 50; omega, by show 4 + pickZ a.2.2.1 50 ≤ 53; omega⟩ hd rfl rfl, ⟨rfl, rfl, (fun w hw => by cases hw)⟩, rfl⟩ (by (repeat' constructor)) (by (repeat' constructor))
 ·refine G.seq (G.region (G.q (Quiet.int rfl rfl rfl) rfl (G.q (Quiet.assign rfl) rfl (G.nil (G.then_n ?_)))))
  refine G.condD rfl (fun h36 => ?_) (fun h36 => ?_)
  ·refine G.seq (G.region (G.q (Quiet.fieldAddr rfl fo_94_1) rfl ?_))
   refine G.q (Quiet.load rfl ag_3 (by (repeat' constructor)) (rfl)) rfl ?_
   refine G.op (OpSpec.call Tryz.func21 rfl rfl (vs := [_, _]) rfl (pick7_spec _ _ ha.h2 (by decide))) (by (repeat' constructor)) rfl ?nx31
   rintro v L' ⟨rfl, rfl⟩
   refine G.q (Quiet.add rfl rfl (by omega)) rfl ?_
   refine G.q (Quiet.to (v' := .agg (ptC (⟨6, [], [], .slice none 0 0, [], (1 + pickZ a.2.1 5), 0, 0, (.slice none 0 0)⟩ : Pt)).toArray) (Quiet.build (us := [(0, _), (4, _)]) fl_37 ze_37 rfl rfl (by simp [isCell])) rfl) rfl ?_
   refine G.op (OpSpec.allocA ze_37) (by (repeat' constructor)) rfl ?nx35
   rintro v L' ⟨bT, rfl, rfl⟩
   refine G.op (OpSpec.storeA rfl rfl ?c37 sz_37 ?c40 ?c38 ?c39) (by (repeat' constructor)) rfl ?nx41
   case c37 => exact pt_cells rfl rfl
   case c40 => rfl
   case c38 => simp [ptC]
   case c39 => exact nfz0 _ _
   rintro v L' rfl
   refine G.nil ?_
   refine G.ptCast (b := bT) (l' := ptC (⟨6, [], [], .slice none 0 0, [], (1 + pickZ a.2.1 5), 0, 0, (.slice none 0 0)⟩ : Pt)) (by (repeat' constructor)) rfl ?_
   refine G.then_n (G.seq (G.region (G.q (Quiet.move rfl) rfl ?_)))
   refine G.op (OpSpec.call Tryz.func91 rfl rfl (vs := [_]) rfl (rclone_spec x τ 60 hinv.ok (by omega))) (by (repeat' constructor)) rfl ?nx43
   rintro v L' ⟨u, rfl, rfl⟩
   refine G.q (Quiet.assign rfl) rfl (G.nil (G.then_n (G.seq (G.region (G.q (Quiet.move rfl) rfl (G.q (Quiet.fieldAddr rfl fo_37_4) rfl ?_))))))
   refine G.q (Quiet.load rfl ag_3 (by (repeat' constructor)) (rfl)) rfl ?_
   refine G.op (OpSpec.call Tryz.func66 rfl rfl (vs := [_, _]) rfl (rowned_spec x τ (1 + pickZ a.2.1 5) 60 hinv.ok (by omega))) (by (repeat' constructor)) rfl ?nx48
   rintro v L' ⟨⟨ao, co, rfl⟩, rfl⟩
   refine G.q (Quiet.assign rfl) rfl (G.nil (G.then_n (G.seq (G.seq (G.add (slR_nil 37 8) (G.region (G.q (Quiet.move rfl) rfl (G.q (Quiet.slen rfl Tryz.underlying40 rfl) rfl ?_))))))))
   refine G.q (Quiet.sub rfl rfl (by omega)) rfl ?_
   refine G.q (Quiet.assign rfl) rfl (G.nil (G.then_n (G.block ?_)))
   refine G.rfCast (x := u) (τ' := (zxT (partsZ τ zx []).1 τ.zx)) (by (repeat' constructor)) (rfl) ?_
   refine G.loopK (ι := Nat × (List Pt) × Int × Value) (fun q E => (10, vint ((q.1 : Int) - 1)) :: E) (fun q => [ptc bT (ptC (⟨6, [], [], .slice none 0 0, [], (1 + pickZ a.2.1 5), 0, 0, q.2.2.2⟩ : Pt)) 37, refR u (zxT (partsZ τ zx q.2.1).1 q.2.2.1), slR 37 8 q.2.2.2 q.2.1.length (q.2.1.flatMap ptC)]) (fun q => DelI τ zx K (1 + pickZ a.2.1 5) q.1 q.2.1 ∧ ∃ a c, q.2.2.2 = .slice a q.2.1.length c) (fun q => q.1) ((ownedZ τ (1 + pickZ a.2.1 5)).length, [], τ.zx, .slice none 0 0) (ts := [0, 2, 4, 6, 7, 8, 9]) (.cons rfl (.cons rfl (.cons rfl (.cons rfl (.cons rfl (.cons rfl (.cons rfl (.nil)))))))) (⟨DelI.init hinv _, none, 0, rfl⟩) ⟨rfl, rfl, rfl, rfl, rfl, rfl, rfl, rfl, trivial⟩ (by (repeat' constructor)) ?_
   rintro ⟨j, acc, z, w⟩ ⟨hdel, aw, cw, hw⟩
   dsimp only
   dsimp only at hdel hw
   subst hw
   have hdl := hdel.len
   have hal : ∀ w ∈ acc, w.acl.length ≤ 1 := fun w hw => by rw [(hdel.kinds w hw).2.2.1]; simp
   have hok := parts_ok hinv.ok zx hal z
   refine G.seq (G.seq (G.region (G.q (Quiet.move rfl) rfl (G.q (Quiet.int rfl rfl rfl) rfl (G.nil (G.then_n ?_))))))
   refine G.condD rfl (fun h53 => ?_) (fun h53 => ?_)
   ·obtain ⟨k, rfl⟩ : ∃ k, j = k + 1 := ⟨j - 1, by omega⟩
    rw [show (((k + 1 : Nat) : Int) - 1) = (k : Int) by omega]
    have hk2 : k < (ownedZ τ (1 + pickZ a.2.1 5)).length := by omega
    refine G.slShape (T := 9) (sz := 1) (v := .slice ao (ownedZ τ (1 + pickZ a.2.1 5)).length co) (xs := strs (ownedZ τ (1 + pickZ a.2.1 5))) (by (repeat' constructor)) (by omega) fun bo bo' e0 mbo _ => ?_
    simp only [Value.slice.injEq, true_and] at e0
    obtain ⟨rfl, rfl⟩ := e0
    have hth := hdel.parent hinv
    have hpl := able_len (.inr (owned_able hinv (List.getElem_mem hk2)).1)
    refine G.skip (G.then_n (G.seq (G.block (G.seq (G.region (G.q (Quiet.move rfl) rfl (G.q (Quiet.move rfl) rfl (G.q (Quiet.move rfl) rfl ?_))))))))
    refine G.q (Quiet.indexAddr rfl rfl el_40 (by omega)) rfl ?_
    refine G.q (Quiet.loadRd (sz := 1) (j := k * 1) (p := slR 9 1 _ (ownedZ τ (1 + pickZ a.2.1 5)).length (strs (ownedZ τ (1 + pickZ a.2.1 5)))) rfl ag_9 (by (repeat' constructor)) (fun h hp => slR_rd hp) (by omega) (strs_at hk2)) rfl ?_
    refine G.op (OpSpec.call Tryz.func51 rfl rfl (vs := [_]) rfl (rparent_spec _ ?hs59)) (by (repeat' constructor)) rfl ?nx60
    case hs59 => first | assumption | omega
    rintro v L' ⟨rfl, rfl⟩
    refine G.op (OpSpec.call Tryz.func69 rfl rfl (vs := [_, _]) rfl (rplace_spec u (zxT (partsZ τ zx acc).1 z) (parentZ (ownedZ τ (1 + pickZ a.2.1 5))[k]) (by have := hok.few; omega))) (by (repeat' constructor)) rfl ?nx62
    rintro v L' ⟨rfl, rfl⟩
    refine G.q (Quiet.assign rfl) rfl (G.nil ?_)
    obtain ⟨n, hn, hpn, hkn⟩ := place_get (l := (partsZ τ zx acc).1.nodes) (p := parentZ (ownedZ τ (1 + pickZ a.2.1 5))[k]) (place_iff.2 hth)
    have hpz : placeZ (zxT (partsZ τ zx acc).1 z) (parentZ (ownedZ τ (1 + pickZ a.2.1 5))[k]) = n := hpn
    rw [hpz]
    refine G.rfOpen (x := u) (τ := (zxT (partsZ τ zx acc).1 z)) (by (repeat' constructor)) fun am cm as2 cs2 m hm => ?_
    have hml := nds_len hm
    have hml2 : m.length = (partsZ τ zx acc).1.nodes.length := hml
    have hnm : n < m.length := by omega
    refine G.slShape (T := 131) (sz := 12) (v := .slice am m.length cm) (xs := m.flatMap rnC) (by (repeat' constructor)) (by omega) fun bm bm' e0 mbm _ => ?_
    simp only [Value.slice.injEq, true_and] at e0
    obtain ⟨rfl, rfl⟩ := e0
    have hlk : alook (partsZ τ zx acc).1.nodes (parentZ (ownedZ τ (1 + pickZ a.2.1 5))[k]) = some m[n].2.2 := by have g := nds_get hm (i := n) hnm; have g2 : alook (partsZ τ zx acc).1.nodes ((partsZ τ zx acc).1.nodes[n]).1 = some ((partsZ τ zx acc).1.nodes[n]).2 := al_get (hok.sorted.nodup linB) (i := n) hn; rw [hkn, show (partsZ τ zx acc).1.nodes[n] = (m[n].1, m[n].2.2) from g] at g2; exact g2
    have hv := hdel.ver _ _ hlk
    have hdel2 := hdel.step hinv hlk
    refine G.then_n (G.seq ?_)
    refine G.draw [15, 16] [[0, 1, 2, 3, 4, 5, 6, 7, 8, 9, 10, 11, 12, 13, 14, 15], [16]] mixed (by kernel_rfl) ?_
    refine Phases.go [rnR _ _, ptc u _ _, slR 9 1 _ _ _] (by (repeat' constructor)) ?_
    refine D.q rfl (by kernel_rfl) (Quiet.move rfl) ?_
    refine D.q rfl (by kernel_rfl) (Quiet.move rfl) ?_
    refine D.q rfl (by kernel_rfl) (Quiet.indexAddr rfl rfl el_40 (by omega)) ?_
    refine D.q rfl (by kernel_rfl) (Quiet.loadRd (sz := 1) (j := k * 1) (p := slR 9 1 _ (ownedZ τ (1 + pickZ a.2.1 5)).length (strs (ownedZ τ (1 + pickZ a.2.1 5)))) rfl ag_9 (by (repeat' constructor)) (fun h hp => slR_rd hp) (by omega) (strs_at hk2)) ?_
    refine D.q rfl (by kernel_rfl) (Quiet.move rfl) ?_
    refine D.q rfl (by kernel_rfl) (Quiet.nilp rfl) ?_
    refine D.q rfl (by kernel_rfl) (Quiet.fieldAddr rfl fo_101_0) ?_
    refine D.q rfl (by kernel_rfl) (Quiet.load rfl ag_98 (by (repeat' constructor)) (rfl)) ?_
    refine D.q rfl (by kernel_rfl) (Quiet.move rfl) ?_
    refine D.q rfl (by kernel_rfl) (Quiet.indexAddr rfl rfl el_98 (by omega)) ?_
    refine D.q rfl (by kernel_rfl) (Quiet.fieldAddr rfl fo_131_3) ?_
    refine D.q rfl (by kernel_rfl) (Quiet.fieldAddr rfl fo_43_4) ?_
    refine D.q rfl (by kernel_rfl) (Quiet.loadRd (sz := 12) (j := n * 12 + 7) (p := rnR _ m) rfl ag_3 (by (repeat' constructor)) (fun h hp => slR_rd hp) (by omega) ((rn_cell (l := m) (i := n) (k := 7) (by omega) (by decide)).trans rfl)) ?_
    refine D.q rfl (by kernel_rfl) (Quiet.add rfl rfl (by omega)) ?_
    refine D.q rfl (by kernel_rfl) (Quiet.to (v' := .agg (ptC (⟨2, (ownedZ τ (1 + pickZ a.2.1 5))[k], [], .slice none 0 0, [], 0, m[n].2.2.st.cver + 1, 0, .slice none 0 0⟩ : Pt)).toArray) (Quiet.build (us := [(0, _), (1, _), (5, _)]) fl_37 ze_37 rfl rfl (by simp [isCell])) rfl) ?_
    refine D.h rfl (by kernel_rfl) (OpSpec.allocA ze_37) (by (repeat' constructor)) ?nx78
    rintro v L' ⟨b12, rfl, rfl⟩
    refine D.ph ?_
    refine Phases.go [] (by (repeat' constructor)) ?_
    refine D.h rfl (by kernel_rfl) (OpSpec.storeA rfl rfl ?c80 sz_37 ?c83 ?c81 ?c82) (by (repeat' constructor)) ?nx84
    case c80 => exact pt_cells rfl rfl
    case c83 => rfl
    case c81 => simp [ptC]
    case c82 => exact nfz0 _ _
    rintro v L' rfl
    refine D.ph (Phases.fin ?_)
    refine G.ptCast (b := b12) (l' := ptC (⟨2, (ownedZ τ (1 + pickZ a.2.1 5))[k], [], .slice none 0 0, [], 0, m[n].2.2.st.cver + 1, 0, .slice none 0 0⟩ : Pt)) (by (repeat' constructor)) rfl ?_
    refine G.rfFold (x := u) (τ := (zxT (partsZ τ zx acc).1 z)) (l := m) hm (by (repeat' constructor)) rfl rfl rfl rfl rfl ?_
    refine G.then_n (G.seq (G.region (G.q (Quiet.fieldAddr rfl fo_37_7) rfl ?_)))
    refine G.q (Quiet.load rfl ag_35 (by (repeat' constructor)) (rfl)) rfl ?_
    refine G.q (Quiet.loadAs (vs := ptC (⟨2, (ownedZ τ (1 + pickZ a.2.1 5))[k], [], .slice none 0 0, [], 0, m[n].2.2.st.cver + 1, 0, .slice none 0 0⟩ : Pt)) rfl ag_37 (by (repeat' constructor)) (by simp [ptC]) rfl) rfl ?_
    refine G.op (OpSpec.buildSlice (vs := [_]) el_35 ze_37 rfl rfl rfl rfl (by first | (simp [Value.cells]; done) | (intro v hv; simp only [List.mem_cons, List.not_mem_nil, or_false] at hv; (repeat (first | (subst hv; rfl) | (rcases hv with hv | hv; (subst hv; rfl)))))) (by decide)) (by (repeat' constructor)) rfl ?nx88
    rintro v L' ⟨b13, rfl, rfl⟩
    refine G.op (OpSpec.append1 rfl rfl rfl el_35 ze_37 rfl rfl ?c90 ?c91 (Nat.le_refl _) ?c92 (by decide)) (by (repeat' constructor)) rfl ?nx93
    case c90 => simp only [List.map_cons, List.map_nil, List.flatten_cons, List.flatten_nil, List.append_nil]; exact pt_cells rfl rfl
    case c91 => rfl
    case c92 => first | omega | (simp; omega)
    rintro v L' ⟨⟨a13_4, c13_4, rfl⟩, rfl⟩
    refine G.q (Quiet.fieldAddr rfl fo_37_7) rfl ?_
    refine G.op (OpSpec.store rfl rfl rfl sz_35 ?c96 ?c97) (by (repeat' constructor)) rfl ?nx98
    case c96 => simp [ptC]
    case c97 => exact nfz0 _ _
    rintro v L' rfl
    refine G.nil ?_
    refine G.slCast (T := 37) (sz := 8) (m' := (acc ++ [(⟨2, (ownedZ τ (1 + pickZ a.2.1 5))[k], [], .slice none 0 0, [], 0, m[n].2.2.st.cver + 1, 0, .slice none 0 0⟩ : Pt)]).length) (xs' := (acc ++ [(⟨2, (ownedZ τ (1 + pickZ a.2.1 5))[k], [], .slice none 0 0, [], 0, m[n].2.2.st.cver + 1, 0, .slice none 0 0⟩ : Pt)]).flatMap ptC) (by (repeat' constructor)) (by rw [List.length_append]; rfl) (by rw [List.flatMap_append]; simp; rfl) ?_
    rw [show acc.length + 1 = (acc ++ [(⟨2, (ownedZ τ (1 + pickZ a.2.1 5))[k], [], .slice none 0 0, [], 0, m[n].2.2.st.cver + 1, 0, .slice none 0 0⟩ : Pt)]).length by rw [List.length_append]; rfl]
    refine G.then_n (G.add (p := nilA) nilA_ok (G.region (G.q (Quiet.move rfl) rfl (G.q (Quiet.move rfl) rfl ?_))))
    refine G.q (Quiet.loadAs (vs := ptC (⟨2, (ownedZ τ (1 + pickZ a.2.1 5))[k], [], .slice none 0 0, [], 0, m[n].2.2.st.cver + 1, 0, .slice none 0 0⟩ : Pt)) rfl ag_37 (by (repeat' constructor)) (by simp [ptC]) rfl) rfl ?_
    refine G.q (Quiet.buildN (pl := [(0, 1), (1, 1), (2, 1), (3, 8)]) (us := [(0, vint zx), (3, .agg (ptC (⟨2, (ownedZ τ (1 + pickZ a.2.1 5))[k], [], .slice none 0 0, [], 0, m[n].2.2.st.cver + 1, 0, .slice none 0 0⟩ : Pt)).toArray)]) (cells := [vint zx, vint 0, vint 0] ++ ptC (⟨2, (ownedZ τ (1 + pickZ a.2.1 5))[k], [], .slice none 0 0, [], 0, m[n].2.2.st.cver + 1, 0, .slice none 0 0⟩ : Pt)) Tryz.underlying39 (by kernel_rfl) ze_39 rfl (fill_entry _ _ _ _ _ _ _ _ _)) rfl ?_
    refine G.op (OpSpec.call Tryz.func26 rfl rfl (vs := [_, _]) rfl (rapply_spec u (zxT (partsZ τ zx acc).1 z) zx 0 0 (⟨2, (ownedZ τ (1 + pickZ a.2.1 5))[k], [], .slice none 0 0, [], 0, m[n].2.2.st.cver + 1, 0, .slice none 0 0⟩ : Pt) [] nilA ⟨⟨fun h _ => rd_none 2 h, by simp, by show ((ownedZ τ (1 + pickZ a.2.1 5))[k]).length ≤ 1048576; omega, rfl, rfl⟩, fun h _ => rd_none 8 h, by simp, fun w hw => by cases hw⟩ (60 + acc.length) hok (by simp; omega))) (by (repeat' constructor)) rfl ?nx103
    rintro v L' ⟨ue, ee, rfl, he, hue, rfl⟩
    refine G.nil ?_
    refine G.rfCast (x := u) (τ' := (zxT (partsZ τ zx (acc ++ [(⟨2, (ownedZ τ (1 + pickZ a.2.1 5))[k], [], .slice none 0 0, [], 0, m[n].2.2.st.cver + 1, 0, .slice none 0 0⟩ : Pt)])).1 zx)) (by (repeat' constructor)) (by have h1 := app_part (τ := (zxT (partsZ τ zx acc).1 z)) (e := ⟨zx, 0, 0, (⟨2, (ownedZ τ (1 + pickZ a.2.1 5))[k], [], .slice none 0 0, [], 0, m[n].2.2.st.cver + 1, 0, .slice none 0 0⟩ : Pt), []⟩) (.inl (by show (2 : Int) ≤ 4; decide)); rw [parts_snoc]; dsimp only; rw [part_zx'] at h1; exact h1.symm) ?_
    refine G.blk_n (G.then_n (G.region (G.q (Quiet.move rfl) rfl ?_)))
    refine G.q (Quiet.sub rfl rfl (by omega)) rfl ?_
    refine G.q (Quiet.assign rfl) rfl (G.nil (G.then_n ?_))
    refine G.ptCast (b := bT) (l' := ptC (⟨6, [], [], .slice none 0 0, [], (1 + pickZ a.2.1 5), 0, 0, (.slice a13_4 (acc ++ [(⟨2, (ownedZ τ (1 + pickZ a.2.1 5))[k], [], .slice none 0 0, [], 0, m[n].2.2.st.cver + 1, 0, .slice none 0 0⟩ : Pt)]).length c13_4)⟩ : Pt)) (by (repeat' constructor)) rfl ?_
    exact G.roundK ((k, acc ++ [(⟨2, (ownedZ τ (1 + pickZ a.2.1 5))[k], [], .slice none 0 0, [], 0, m[n].2.2.st.cver + 1, 0, .slice none 0 0⟩ : Pt)], zx, .slice a13_4 (acc ++ [(⟨2, (ownedZ τ (1 + pickZ a.2.1 5))[k], [], .slice none 0 0, [], 0, m[n].2.2.st.cver + 1, 0, .slice none 0 0⟩ : Pt)]).length c13_4)) (⟨hdel2, _, _, rfl⟩) (by dsimp only; omega) ⟨rfl, rfl, rfl, rfl, rfl, rfl, rfl, rfl, trivial⟩ (by (repeat' constructor)) (by ((repeat (apply Have.cons; (repeat (first | exact Pick.here | apply Pick.there)))); apply Have.base; repeat' constructor))
   ·have hj0 : j = 0 := by omega
    subst hj0
    refine G.exit (G.then_e (G.then_e (G.blk_e (G.then_n (G.seq (G.region ?_))))))
    refine G.q (Quiet.loadAs (vs := ptC (⟨6, [], [], .slice none 0 0, [], (1 + pickZ a.2.1 5), 0, 0, (.slice aw acc.length cw)⟩ : Pt)) rfl ag_37 (by (repeat' constructor)) (by simp [ptC]) rfl) rfl ?_
    refine G.op (OpSpec.storeA rfl rfl ?c108 sz_37 ?c111 ?c109 ?c110) (by (repeat' constructor)) rfl ?nx112
    case c108 => exact pt_cells rfl rfl
    case c111 => rfl
    case c109 => simp [ptC]
    case c110 => exact nfz0 _ _
    rintro v L' rfl
    refine G.nil (G.then_n (G.ret (G.blk_r (G.then_r ?_))))
    refine G.add (p := aclsA acc) (fun h w hw => by obtain ⟨-, e1, e2, -⟩ := hdel.kinds w hw; rw [e1, e2]; exact rd_none 2 h) ?_
    refine G.ptCast (b := b6) (l' := ptC (⟨6, [], [], .slice none 0 0, [], (1 + pickZ a.2.1 5), 0, 0, (.slice aw acc.length cw)⟩ : Pt)) (by (repeat' constructor)) rfl ?_
    refine G.fold (p := txRd (⟨6, [], [], .slice none 0 0, [], (1 + pickZ a.2.1 5), 0, 0, (.slice aw acc.length cw)⟩ : Pt) acc) (by (repeat' constructor)) (fun _ hp => txRd_of (T := 37) (x := (⟨6, [], [], .slice none 0 0, [], (1 + pickZ a.2.1 5), 0, 0, (.slice aw acc.length cw)⟩ : Pt)) rfl rfl hp) ?_
    exact G.done1 rfl (.cellA rfl ag_37 (by (repeat' constructor)) (by simp [ptC]) rfl) ⟨(⟨6, [], [], .slice none 0 0, [], (1 + pickZ a.2.1 5), 0, 0, (.slice aw acc.length cw)⟩ : Pt), acc, rfl, .close rfl (DelI.closeH (x := (⟨6, [], [], .slice none 0 0, [], (1 + pickZ a.2.1 5), 0, 0, (.slice aw acc.length cw)⟩ : Pt)) hdel ⟨by show 1 ≤ (1 + pickZ a.2.1 5); omega, by show (1 + pickZ a.2.1 5) ≤ 5; omega⟩) hdel.parts rfl rfl (by have := hdel.len; omega) rfl, ⟨rfl, rfl, (fun w hw => by obtain ⟨-, e1, -, e2⟩ := hdel.kinds w hw; rw [e1, e2]; exact ⟨rfl, rfl⟩)⟩, rfl⟩ (by (repeat' constructor)) (by (repeat' constructor))
  ·refine G.seq (G.region (G.q (Quiet.int rfl rfl rfl) rfl (G.q (Quiet.assign rfl) rfl (G.nil (G.then_n ?_)))))
   refine G.condD rfl (fun h90 => ?_) (fun h90 => ?_)
   ·refine G.seq (G.region ?_)
    refine G.q (Quiet.to (v' := .agg (ptC (⟨7, [], [], .slice none 0 0, [], 0, 0, 0, (.slice none 0 0)⟩ : Pt)).toArray) (Quiet.build (us := [(0, _)]) fl_37 ze_37 rfl rfl (by simp [isCell])) rfl) rfl ?_
    refine G.op (OpSpec.allocA ze_37) (by (repeat' constructor)) rfl ?nx115
    rintro v L' ⟨bT, rfl, rfl⟩
    refine G.op (OpSpec.storeA rfl rfl ?c117 sz_37 ?c120 ?c118 ?c119) (by (repeat' constructor)) rfl ?nx121
    case c117 => exact pt_cells rfl rfl
    case c120 => rfl
    case c118 => simp [ptC]
    case c119 => exact nfz0 _ _
    rintro v L' rfl
    refine G.nil ?_
    refine G.ptCast (b := bT) (l' := ptC (⟨7, [], [], .slice none 0 0, [], 0, 0, 0, (.slice none 0 0)⟩ : Pt)) (by (repeat' constructor)) rfl ?_
    refine G.then_n (G.seq (G.region (G.q (Quiet.move rfl) rfl ?_)))
    refine G.op (OpSpec.call Tryz.func91 rfl rfl (vs := [_]) rfl (rclone_spec x τ 60 hinv.ok (by omega))) (by (repeat' constructor)) rfl ?nx123
    rintro v L' ⟨u, rfl, rfl⟩
    refine G.q (Quiet.assign rfl) rfl (G.nil (G.then_n (G.seq (G.seq (G.add (slR_nil 37 8) (G.add (p := aclsA []) aclsA_nil (G.region (G.q (Quiet.assign rfl) rfl (G.nil (G.then_n (G.block ?_)))))))))))
    refine G.rfCast (x := u) (τ' := (zxT (partsZ τ zx []).1 τ.zx)) (by (repeat' constructor)) (rfl) ?_
    refine G.loopK (ι := Nat × (List Pt) × Int × Value) (fun q E => (15, vint q.1) :: E) (fun q => [ptc bT (ptC (⟨7, [], [], .slice none 0 0, [], 0, 0, 0, q.2.2.2⟩ : Pt)) 37, refR u (zxT (partsZ τ zx q.2.1).1 q.2.2.1), slR 37 8 q.2.2.2 q.2.1.length (q.2.1.flatMap ptC), aclsA q.2.1]) (fun q => (q.1 ≤ ss.length ∧ q.1 ≤ 6 ∧ q.2.1.length ≤ q.1) ∧ PartsH τ zx q.2.1 K ∧ HInv (partsZ τ zx q.2.1).1 (K + q.2.1.length) ∧ (∀ y ∈ q.2.1, isCell y.aclV = true ∧ isCell y.subsV = true) ∧ ∃ a c, q.2.2.2 = .slice a q.2.1.length c) (fun q => ss.length - q.1) (0, [], τ.zx, .slice none 0 0) (ts := [0, 2, 4, 6, 13, 14]) (.cons rfl (.cons rfl (.cons rfl (.cons rfl (.cons rfl (.cons rfl (.nil))))))) (⟨⟨Nat.zero_le _, Nat.zero_le _, Nat.le_refl _⟩, (fun i hi => by simp at hi), hinv.more (by simp), (fun w hw => by cases hw), none, 0, rfl⟩) ⟨rfl, rfl, rfl, rfl, rfl, rfl, rfl, trivial⟩ (by (repeat' constructor)) ?_
    rintro ⟨i, acc, z, w⟩ ⟨⟨hi, hi6, hai⟩, hps, hiv, hcs, aw, cw, hw⟩
    dsimp only
    dsimp only at hi hi6 hai hps hiv hcs hw
    subst hw
    have hivz := hiv.zx z
    refine G.seq (G.seq (G.region (G.q (Quiet.move rfl) rfl (G.q (Quiet.fieldAddr rfl fo_94_4) rfl ?_))))
    refine G.q (Quiet.as (v' := .slice ab ss.length cb) (by exact eab) (Quiet.load rfl ag_22 (by (repeat' constructor)) (rfl))) rfl ?_
    refine G.q (Quiet.slen rfl Tryz.underlying22 rfl) rfl (G.q (Quiet.int rfl rfl rfl) rfl (G.q (Quiet.move rfl) rfl ?_))
    refine G.dec (t := 100) rfl (fun h20_100 => ?_) (fun h20_100 => ?_)
    ·refine G.kDT (t := 99) rfl h20_100 (G.grun (t := 100) rfl rfl rfl (G.q (Quiet.move rfl) rfl (G.grun (t := 100) rfl rfl rfl (G.q (Quiet.int rfl rfl rfl) rfl (G.q (Quiet.pickT rfl rfl) rfl (G.nil (G.then_n ?_)))))))
     refine G.condD rfl (fun h103 => ?_) (fun h103 => ?_)
     ·have hi2 : i < ss.length := by omega
      refine G.rdShape (p := q) hrd (by (repeat' constructor)) (by omega) fun bb ob e1 => ?_
      subst e1
      obtain ⟨hio, hdo⟩ := hsm.ok _ (List.getElem_mem hi2)
      refine G.skip (G.then_n (G.seq (G.block (G.seq (G.region (G.q (Quiet.move rfl) rfl (G.q (Quiet.fieldAddr rfl fo_94_4) rfl ?_)))))))
      refine G.q (Quiet.as (v' := .slice (some ⟨bb, ob, none⟩) ss.length cb) (by exact eab) (Quiet.load rfl ag_22 (by (repeat' constructor)) (rfl))) rfl ?_
      refine G.q (Quiet.move rfl) rfl ?_
      refine G.q (Quiet.indexAddr rfl rfl el_22 (by omega)) rfl ?_
      refine G.q (Quiet.loadRdA (sz := 5) (j := i * 5) (k := 5) (p := q) (vs := ac0C ss[i]) rfl ag_94 (by (repeat' constructor)) hrd (by simp) (by omega) (by omega) (flatMap_at (f := ac0C) (sz := 5) (fun _ _ => rfl) (by omega))) rfl ?_
      refine G.op (OpSpec.call Tryz.func92 rfl rfl (vs := [_, _, _]) rfl (part7_spec u (zxT (partsZ τ zx acc).1 z) ss[i] (K + acc.length) hivz (by omega) hio hdo)) (by (repeat' constructor)) rfl ?nx139
      rintro v L' ⟨y, b, rfl, hP, hB, rfl⟩
      refine G.q (Quiet.move rfl) rfl (G.q (Quiet.extract rfl rfl) rfl (G.q (Quiet.extract rfl rfl) rfl ?_))
      refine G.op (OpSpec.allocA ze_37) (by (repeat' constructor)) rfl ?nx143
      rintro v L' ⟨b16, rfl, rfl⟩
      refine G.op (OpSpec.storeA rfl rfl ?c145 sz_37 ?c148 ?c146 ?c147) (by (repeat' constructor)) rfl ?nx149
      case c145 => exact pt_cells hB.cell (by rw [hB.subs]; rfl)
      case c148 => rfl
      case c146 => simp [ptC]
      case c147 => exact nfz0 _ _
      rintro v L' rfl
      refine G.q (Quiet.assign rfl) rfl (G.nil ?_)
      refine G.ptCast (b := b16) (l' := ptC y) (by (repeat' constructor)) rfl ?_
      have htx : TxA (rdO 2 y.aclV y.acl.length (y.acl.flatMap acC)) y [] := ⟨⟨fun h hp => hp, by have := hB.acl; omega, by have := hB.path; omega, by rw [hB.subs]; rfl, hB.cell⟩, fun h _ => by rw [hB.subs]; exact rd_none 8 h, by simp, fun w hw => by cases hw⟩
      refine G.then_n (G.seq (G.region (G.q (Quiet.move rfl) rfl (G.q (Quiet.move rfl) rfl ?_))))
      refine G.bool (t := 117) rfl (fun h23_117 => ?_) (fun h23_117 => ?_)
      ·have hb1 : b = true := h23_117
       have hPH := (hP hb1).congr (υ := (partsZ τ zx acc).1) rfl (by rfl)
       refine G.kB (t := 115) rfl h23_117 (G.kB (t := 17) rfl h23_117 (G.kB (t := 116) rfl h23_117 (G.grun (t := 117) rfl rfl rfl (G.q (Quiet.move rfl) rfl (G.grun (t := 117) rfl rfl rfl (G.q (Quiet.move rfl) rfl (G.grun (t := 117) rfl rfl rfl ?_)))))))
       refine G.q (Quiet.loadAs (vs := ptC y) rfl ag_37 (by (repeat' constructor)) (by simp [ptC]) rfl) rfl ?_
       refine G.grun (t := 117) rfl rfl rfl ?_
       refine G.q (Quiet.buildN (pl := [(0, 1), (1, 1), (2, 1), (3, 8)]) (us := [(0, vint zx), (3, .agg (ptC y).toArray)]) (cells := [vint zx, vint 0, vint 0] ++ ptC y) Tryz.underlying39 (by kernel_rfl) ze_39 rfl (fill_entry _ _ _ _ _ _ _ _ _)) rfl ?_
       refine G.grun (t := 117) rfl rfl rfl ?_
       refine G.op (OpSpec.call Tryz.func45 rfl rfl (vs := [_, _]) rfl (rsound_spec u (zxT (partsZ τ zx acc).1 z) zx 0 0 y [] _ htx 60 hivz.ok (by simp))) (by (repeat' constructor)) rfl ?nx154
       rintro v L' ⟨rfl, rfl⟩
       refine G.q (Quiet.pickT rfl rfl) rfl (G.nil (G.then_n ?_))
       refine G.condB rfl (fun h123 => ?_) (fun h123 => ?_)
       ·have hsd : soundZ (partsZ τ zx acc).1 zx y [] = true := (sound_zx hPH.kind.2).symm.trans h123
        have hiv2 : HInv (partsZ τ zx (acc ++ [y])).1 (K + (acc ++ [y]).length) := by rw [parts_snoc, List.length_append]; exact (hiv.part' hsd hPH).more (by simp; omega)
        have hps2 := hps.snoc hPH
        refine G.seq (G.region (G.q (Quiet.fieldAddr rfl fo_37_7) rfl ?_))
        refine G.q (Quiet.load rfl ag_35 (by (repeat' constructor)) (rfl)) rfl ?_
        refine G.q (Quiet.loadAs (vs := ptC y) rfl ag_37 (by (repeat' constructor)) (by simp [ptC]) rfl) rfl ?_
        refine G.op (OpSpec.buildSlice (vs := [_]) el_35 ze_37 rfl rfl rfl rfl (by first | (simp [Value.cells]; done) | (intro v hv; simp only [List.mem_cons, List.not_mem_nil, or_false] at hv; (repeat (first | (subst hv; rfl) | (rcases hv with hv | hv; (subst hv; rfl)))))) (by decide)) (by (repeat' constructor)) rfl ?nx159
        rintro v L' ⟨b24, rfl, rfl⟩
        refine G.op (OpSpec.append1 rfl rfl rfl el_35 ze_37 rfl rfl ?c161 ?c162 (Nat.le_refl _) ?c163 (by decide)) (by (repeat' constructor)) rfl ?nx164
        case c161 => simp only [List.map_cons, List.map_nil, List.flatten_cons, List.flatten_nil, List.append_nil]; exact pt_cells hB.cell (by rw [hB.subs]; rfl)
        case c162 => rfl
        case c163 => first | omega | (simp; omega)
        rintro v L' ⟨⟨a24_4, c24_4, rfl⟩, rfl⟩
        refine G.q (Quiet.fieldAddr rfl fo_37_7) rfl ?_
        refine G.op (OpSpec.store rfl rfl rfl sz_35 ?c167 ?c168) (by (repeat' constructor)) rfl ?nx169
        case c167 => simp [ptC]
        case c168 => exact nfz0 _ _
        rintro v L' rfl
        refine G.nil ?_
        refine G.slCast (T := 37) (sz := 8) (m' := (acc ++ [y]).length) (xs' := (acc ++ [y]).flatMap ptC) (by (repeat' constructor)) (by rw [List.length_append]; rfl) (by rw [List.flatMap_append]; simp; rfl) ?_
        rw [show acc.length + 1 = (acc ++ [y]).length by rw [List.length_append]; rfl]
        refine G.then_n (G.region (G.q (Quiet.move rfl) rfl (G.q (Quiet.move rfl) rfl ?_)))
        refine G.q (Quiet.loadAs (vs := ptC y) rfl ag_37 (by (repeat' constructor)) (by simp [ptC]) rfl) rfl ?_
        refine G.q (Quiet.buildN (pl := [(0, 1), (1, 1), (2, 1), (3, 8)]) (us := [(0, vint zx), (3, .agg (ptC y).toArray)]) (cells := [vint zx, vint 0, vint 0] ++ ptC y) Tryz.underlying39 (by kernel_rfl) ze_39 rfl (fill_entry _ _ _ _ _ _ _ _ _)) rfl ?_
        refine G.op (OpSpec.call Tryz.func26 rfl rfl (vs := [_, _]) rfl (rapply_spec u (zxT (partsZ τ zx acc).1 z) zx 0 0 y [] _ htx 60 hivz.ok (by simp))) (by (repeat' constructor)) rfl ?nx174
        rintro v L' ⟨ue, ee, rfl, he, hue, rfl⟩
        refine G.nil ?_
        refine G.rfCast (x := u) (τ' := (zxT (partsZ τ zx (acc ++ [y])).1 zx)) (by (repeat' constructor)) (by have h1 := app_part (τ := (zxT (partsZ τ zx acc).1 z)) (e := ⟨zx, 0, 0, y, []⟩) (.inl hPH.kind.2); rw [parts_snoc]; dsimp only; rw [part_zx'] at h1; exact h1.symm) ?_
        refine G.fold (p := aclsA (acc ++ [y])) (by (repeat' constructor)) (fun _ hp => aclsA_snoc hp) ?_
        refine G.blk_n (G.then_n (G.region (G.q (Quiet.move rfl) rfl ?_)))
        refine G.q (Quiet.add rfl rfl (by omega)) rfl ?_
        refine G.q (Quiet.assign rfl) rfl (G.nil (G.then_n ?_))
        refine G.ptCast (b := bT) (l' := ptC (⟨7, [], [], .slice none 0 0, [], 0, 0, 0, (.slice a24_4 (acc ++ [y]).length c24_4)⟩ : Pt)) (by (repeat' constructor)) rfl ?_
        exact G.roundK ((i + 1, acc ++ [y], zx, .slice a24_4 (acc ++ [y]).length c24_4)) (⟨⟨by dsimp only; omega, by dsimp only; omega, by dsimp only; rw [List.length_append]; simp; omega⟩, hps2, hiv2, (fun w hw => by rcases List.mem_append.1 hw with hw | hw; exact hcs w hw; rw [List.mem_singleton] at hw; subst hw; exact ⟨hB.cell, by rw [hB.subs]; rfl⟩), _, _, rfl⟩) (by dsimp only; omega) ⟨rfl, rfl, rfl, rfl, rfl, rfl, rfl, trivial⟩ (by (repeat' constructor)) (by ((repeat (apply Have.cons; (repeat (first | exact Pick.here | apply Pick.there)))); apply Have.base; repeat' constructor))
       ·refine G.skip (G.blk_n (G.then_n (G.region (G.q (Quiet.move rfl) rfl ?_))))
        refine G.q (Quiet.add rfl rfl (by omega)) rfl ?_
        refine G.q (Quiet.assign rfl) rfl (G.nil (G.then_n ?_))
        exact G.roundK ((i + 1, acc, z, .slice aw acc.length cw)) (⟨⟨by dsimp only; omega, by dsimp only; omega, by dsimp only; omega⟩, hps, hiv, hcs, _, _, rfl⟩) (by dsimp only; omega) ⟨rfl, rfl, rfl, rfl, rfl, rfl, rfl, trivial⟩ (by (repeat' constructor)) (by ((repeat (apply Have.cons; (repeat (first | exact Pick.here | apply Pick.there)))); apply Have.base; repeat' constructor))
      ·refine G.kB (t := 115) rfl h23_117 (G.kB (t := 17) rfl h23_117 (G.kB (t := 116) rfl h23_117 (G.gskip (t := 117) rfl rfl rfl rfl (G.gskip (t := 117) rfl rfl rfl rfl (G.gskip (t := 117) rfl rfl rfl rfl (G.gskip (t := 117) rfl rfl rfl rfl (G.gskip (t := 117) rfl rfl rfl rfl (G.q (Quiet.pickF rfl rfl) rfl (G.nil (G.then_n (G.condF rfl (G.skip (G.blk_n (G.then_n (G.region (G.q (Quiet.move rfl) rfl ?_))))))))))))))))
       refine G.q (Quiet.add rfl rfl (by omega)) rfl ?_
       refine G.q (Quiet.assign rfl) rfl (G.nil (G.then_n ?_))
       exact G.roundK ((i + 1, acc, z, .slice aw acc.length cw)) (⟨⟨by dsimp only; omega, by dsimp only; omega, by dsimp only; omega⟩, hps, hiv, hcs, _, _, rfl⟩) (by dsimp only; omega) ⟨rfl, rfl, rfl, rfl, rfl, rfl, rfl, trivial⟩ (by (repeat' constructor)) (by ((repeat (apply Have.cons; (repeat (first | exact Pick.here | apply Pick.there)))); apply Have.base; repeat' constructor))
     ·refine G.exit (G.then_e (G.then_e (G.blk_e (G.then_n (G.seq (G.region ?_))))))
      refine G.q (Quiet.loadAs (vs := ptC (⟨7, [], [], .slice none 0 0, [], 0, 0, 0, (.slice aw acc.length cw)⟩ : Pt)) rfl ag_37 (by (repeat' constructor)) (by simp [ptC]) rfl) rfl ?_
      refine G.op (OpSpec.storeA rfl rfl ?c184 sz_37 ?c187 ?c185 ?c186) (by (repeat' constructor)) rfl ?nx188
      case c184 => exact pt_cells rfl rfl
      case c187 => rfl
      case c185 => simp [ptC]
      case c186 => exact nfz0 _ _
      rintro v L' rfl
      refine G.nil (G.then_n (G.ret (G.blk_r (G.then_r ?_))))
      refine G.ptCast (b := b6) (l' := ptC (⟨7, [], [], .slice none 0 0, [], 0, 0, 0, (.slice aw acc.length cw)⟩ : Pt)) (by (repeat' constructor)) rfl ?_
      refine G.fold (p := txRd (⟨7, [], [], .slice none 0 0, [], 0, 0, 0, (.slice aw acc.length cw)⟩ : Pt) acc) (by (repeat' constructor)) (fun _ hp => txRd_of (T := 37) (x := (⟨7, [], [], .slice none 0 0, [], 0, 0, 0, (.slice aw acc.length cw)⟩ : Pt)) rfl rfl hp) ?_
      exact G.done1 rfl (.cellA rfl ag_37 (by (repeat' constructor)) (by simp [ptC]) rfl) ⟨(⟨7, [], [], .slice none 0 0, [], 0, 0, 0, (.slice aw acc.length cw)⟩ : Pt), acc, rfl, .multi rfl hps rfl rfl (by omega) rfl, ⟨rfl, rfl, hcs⟩, rfl⟩ (by (repeat' constructor)) (by (repeat' constructor))
    ·refine G.kDF (t := 99) rfl h20_100 (G.gskip (t := 100) rfl rfl rfl rfl (G.gskip (t := 100) rfl rfl rfl rfl (G.q (Quiet.pickF rfl rfl) rfl (G.nil (G.then_n (G.condF rfl (G.exit (G.then_e (G.then_e (G.blk_e (G.then_n (G.seq (G.region ?_)))))))))))))
     refine G.q (Quiet.loadAs (vs := ptC (⟨7, [], [], .slice none 0 0, [], 0, 0, 0, (.slice aw acc.length cw)⟩ : Pt)) rfl ag_37 (by (repeat' constructor)) (by simp [ptC]) rfl) rfl ?_
     refine G.op (OpSpec.storeA rfl rfl ?c191 sz_37 ?c194 ?c192 ?c193) (by (repeat' constructor)) rfl ?nx195
     case c191 => exact pt_cells rfl rfl
     case c194 => rfl
     case c192 => simp [ptC]
     case c193 => exact nfz0 _ _
     rintro v L' rfl
     refine G.nil (G.then_n (G.ret (G.blk_r (G.then_r ?_))))
     refine G.ptCast (b := b6) (l' := ptC (⟨7, [], [], .slice none 0 0, [], 0, 0, 0, (.slice aw acc.length cw)⟩ : Pt)) (by (repeat' constructor)) rfl ?_
     refine G.fold (p := txRd (⟨7, [], [], .slice none 0 0, [], 0, 0, 0, (.slice aw acc.length cw)⟩ : Pt) acc) (by (repeat' constructor)) (fun _ hp => txRd_of (T := 37) (x := (⟨7, [], [], .slice none 0 0, [], 0, 0, 0, (.slice aw acc.length cw)⟩ : Pt)) rfl rfl hp) ?_
     exact G.done1 rfl (.cellA rfl ag_37 (by (repeat' constructor)) (by simp [ptC]) rfl) ⟨(⟨7, [], [], .slice none 0 0, [], 0, 0, 0, (.slice aw acc.length cw)⟩ : Pt), acc, rfl, .multi rfl hps rfl rfl (by omega) rfl, ⟨rfl, rfl, hcs⟩, rfl⟩ (by (repeat' constructor)) (by (repeat' constructor))
   ·refine G.seq (G.region (G.q (Quiet.int rfl rfl rfl) rfl (G.q (Quiet.assign rfl) rfl (G.nil (G.then_n ?_)))))
    refine G.condD rfl (fun h136 => ?_) (fun h136 => ?_)
    ·refine G.seq (G.region (G.q (Quiet.fieldAddr rfl fo_94_1) rfl ?_))
     refine G.q (Quiet.load rfl ag_3 (by (repeat' constructor)) (rfl)) rfl ?_
     refine G.op (OpSpec.call Tryz.func21 rfl rfl (vs := [_, _]) rfl (pick7_spec _ _ ha.h2 (by decide))) (by (repeat' constructor)) rfl ?nx199
     rintro v L' ⟨rfl, rfl⟩
     refine G.q (Quiet.to (v' := .agg (ptC (⟨8, [], [], .slice none 0 0, [], 0, -1, pickZ a.2.1 99, .slice none 0 0⟩ : Pt)).toArray) (Quiet.build (us := [(0, _), (6, _), (5, _)]) fl_37 ze_37 rfl rfl (by simp [isCell])) rfl) rfl ?_
     refine G.op (OpSpec.storeA rfl rfl ?c202 sz_37 ?c205 ?c203 ?c204) (by (repeat' constructor)) rfl ?nx206
     case c202 => exact pt_cells rfl rfl
     case c205 => rfl
     case c203 => simp [ptC]
     case c204 => exact nfz0 _ _
     rintro v L' rfl
     refine G.nil (G.then_n (G.ret (G.blk_r (G.then_r ?_))))
     refine G.ptCast (b := b6) (l' := ptC (⟨8, [], [], .slice none 0 0, [], 0, -1, pickZ a.2.1 99, .slice none 0 0⟩ : Pt)) (by (repeat' constructor)) rfl ?_
     refine G.add (p := txRd (⟨8, [], [], .slice none 0 0, [], 0, -1, pickZ a.2.1 99, .slice none 0 0⟩ : Pt) []) (txRd_none rfl rfl rfl) ?_
     exact G.done1 rfl (.cellA rfl ag_37 (by (repeat' constructor)) (by simp [ptC]) rfl) ⟨(⟨8, [], [], .slice none 0 0, [], 0, -1, pickZ a.2.1 99, .slice none 0 0⟩ : Pt), [], rfl, .error rfl rfl ⟨by show 0 ≤ pickZ a.2.1 99; omega, by show pickZ a.2.1 99 < 99; omega⟩ rfl rfl rfl rfl, ⟨rfl, rfl, (fun w hw => by cases hw)⟩, rfl⟩ (by (repeat' constructor)) (by (repeat' constructor))
    ·refine G.seq (G.region (G.q (Quiet.int rfl rfl rfl) rfl (G.q (Quiet.assign rfl) rfl (G.nil (G.then_n ?_)))))
     refine G.condD rfl (fun h142 => ?_) (fun h142 => ?_)
     ·refine G.seq (G.region ?_)
      refine G.q (Quiet.to (v' := .agg (ptC (⟨0, [], [], .slice none 0 0, [], 0, 0, 0, .slice none 0 0⟩ : Pt)).toArray) (Quiet.build (us := [(0, _)]) fl_37 ze_37 rfl rfl (by simp [isCell])) rfl) rfl ?_
      refine G.op (OpSpec.storeA rfl rfl ?c209 sz_37 ?c212 ?c210 ?c211) (by (repeat' constructor)) rfl ?nx213
      case c209 => exact pt_cells rfl rfl
      case c212 => rfl
      case c210 => simp [ptC]
      case c211 => exact nfz0 _ _
      rintro v L' rfl
      refine G.nil (G.then_n (G.ret (G.blk_r (G.then_r ?_))))
      refine G.ptCast (b := b6) (l' := ptC (⟨0, [], [], .slice none 0 0, [], 0, 0, 0, .slice none 0 0⟩ : Pt)) (by (repeat' constructor)) rfl ?_
      refine G.add (p := txRd (⟨0, [], [], .slice none 0 0, [], 0, 0, 0, .slice none 0 0⟩ : Pt) []) (txRd_none rfl rfl rfl) ?_
      exact G.done1 rfl (.cellA rfl ag_37 (by (repeat' constructor)) (by simp [ptC]) rfl) ⟨(⟨0, [], [], .slice none 0 0, [], 0, 0, 0, .slice none 0 0⟩ : Pt), [], rfl, .part rfl ⟨⟨by show (0 : Int) ≤ 0; decide, by show (0 : Int) ≤ 4; decide⟩, by simp, by simp, .inl rfl, .inl rfl, ⟨by show (0 : Int) ≤ 0; decide, by show (0 : Int) ≤ K + 1; have := hinv.zx0; omega⟩, rfl, (fun e => by cases e)⟩, ⟨rfl, rfl, (fun w hw => by cases hw)⟩, rfl⟩ (by (repeat' constructor)) (by (repeat' constructor))
     ·refine G.skip (G.blk_n (G.then_n (G.seq (G.region (G.q (Quiet.move rfl) rfl ?_)))))
      refine G.q (Quiet.loadAs (vs := ac0C a) rfl ag_94 (by (repeat' constructor)) (by simp [ac0C]) rfl) rfl ?_
      refine G.op (OpSpec.call Tryz.func92 rfl rfl (vs := [_, _, _]) rfl (part7_spec x τ a K hinv (by omega) ha hd)) (by (repeat' constructor)) rfl ?nx216
      rintro v L' ⟨y, b, rfl, hP, hB, rfl⟩
      refine G.q (Quiet.move rfl) rfl (G.q (Quiet.extract rfl rfl) rfl (G.q (Quiet.extract rfl rfl) rfl ?_))
      refine G.op (OpSpec.allocA ze_37) (by (repeat' constructor)) rfl ?nx220
      rintro v L' ⟨b18, rfl, rfl⟩
      refine G.op (OpSpec.storeA rfl rfl ?c222 sz_37 ?c225 ?c223 ?c224) (by (repeat' constructor)) rfl ?nx226
      case c222 => exact pt_cells hB.cell (by rw [hB.subs]; rfl)
      case c225 => rfl
      case c223 => simp [ptC]
      case c224 => exact nfz0 _ _
      rintro v L' rfl
      refine G.q (Quiet.assign rfl) rfl (G.nil ?_)
      refine G.ptCast (b := b18) (l' := ptC y) (by (repeat' constructor)) rfl ?_
      refine G.then_n (G.seq (G.seq (G.region (G.q (Quiet.move rfl) rfl (G.q (Quiet.not rfl) rfl (G.nil (G.then_n ?_)))))))
      refine G.condB rfl (fun h152 => ?_) (fun h152 => ?_)
      ·refine G.seq (G.region ?_)
       refine G.q (Quiet.to (v' := .agg (ptC (⟨0, [], [], .slice none 0 0, [], 0, 0, 0, .slice none 0 0⟩ : Pt)).toArray) (Quiet.build (us := []) fl_37 ze_37 rfl rfl (by simp [isCell])) rfl) rfl ?_
       refine G.op (OpSpec.storeA rfl rfl ?c229 sz_37 ?c232 ?c230 ?c231) (by (repeat' constructor)) rfl ?nx233
       case c229 => exact pt_cells rfl rfl
       case c232 => rfl
       case c230 => simp [ptC]
       case c231 => exact nfz0 _ _
       rintro v L' rfl
       refine G.nil (G.then_n (G.ret (G.then_r ?_)))
       refine G.ptCast (b := b6) (l' := ptC (⟨0, [], [], .slice none 0 0, [], 0, 0, 0, .slice none 0 0⟩ : Pt)) (by (repeat' constructor)) rfl ?_
       refine G.add (p := txRd (⟨0, [], [], .slice none 0 0, [], 0, 0, 0, .slice none 0 0⟩ : Pt) []) (txRd_none rfl rfl rfl) ?_
       exact G.done1 rfl (.cellA rfl ag_37 (by (repeat' constructor)) (by simp [ptC]) rfl) ⟨(⟨0, [], [], .slice none 0 0, [], 0, 0, 0, .slice none 0 0⟩ : Pt), [], rfl, .part rfl ⟨⟨by show (0 : Int) ≤ 0; decide, by show (0 : Int) ≤ 4; decide⟩, by simp, by simp, .inl rfl, .inl rfl, ⟨by show (0 : Int) ≤ 0; decide, by show (0 : Int) ≤ K + 1; have := hinv.zx0; omega⟩, rfl, (fun e => by cases e)⟩, ⟨rfl, rfl, (fun w hw => by cases hw)⟩, rfl⟩ (by (repeat' constructor)) (by (repeat' constructor))
      ·refine G.skip (G.then_n (G.seq (G.region ?_)))
       refine G.q (Quiet.loadAs (vs := ptC y) rfl ag_37 (by (repeat' constructor)) (by simp [ptC]) rfl) rfl ?_
       refine G.op (OpSpec.storeA rfl rfl ?c235 sz_37 ?c238 ?c236 ?c237) (by (repeat' constructor)) rfl ?nx239
       case c235 => exact pt_cells hB.cell (by rw [hB.subs]; rfl)
       case c238 => rfl
       case c236 => simp [ptC]
       case c237 => exact nfz0 _ _
       rintro v L' rfl
       refine G.nil (G.then_n (G.ret ?_))
       refine G.ptCast (b := b6) (l' := ptC y) (by (repeat' constructor)) rfl ?_
       refine G.fold (p := txRd y []) (L := _) (by (repeat' constructor)) (fun _ hp => txRd_one hB.subs hp) ?_
       exact G.done1 rfl (.cellA rfl ag_37 (by (repeat' constructor)) (by simp [ptC]) rfl) ⟨y, [], rfl, .part rfl (hP (by simpa using h152)), ⟨hB.cell, by rw [hB.subs]; rfl, (fun w hw => by cases hw)⟩, rfl⟩ (by (repeat' constructor)) (by (repeat' constructor))

theorem fill_entry4 (zx ss xi : Int) (s0 s1 s2 s3 s4 s5 s6 s7 : Value) : Instr.fill (fun i => [(0, 1), (1, 1), (2, 1), (3, 8)].toArray[i]?) ([.int .i64 0, .int .i64 0, .int .i64 0, .int .i64 0, .string (bs []), .string (bs []), .slice none 0 0, .int .i64 0, .int .i64 0, .int .i64 0, .slice none 0 0] : List Value).toArray [(0, vint zx), (1, vint ss), (2, vint xi), (3, .agg ([s0, s1, s2, s3, s4, s5, s6, s7] : List Value).toArray)] = some (([vint zx, vint ss, vint xi] ++ [s0, s1, s2, s3, s4, s5, s6, s7] : List Value).toArray) := by kernel_rfl
theorem en_cells {e : En} (h : TxC e.x e.subs) : ∀ v ∈ enC e, isCell v = true := by
  intro v hv
  unfold enC at hv
  rcases List.mem_append.1 hv with hv | hv
  · simp only [List.mem_cons, List.not_mem_nil, or_false] at hv
    rcases hv with rfl | rfl | rfl <;> rfl
  · exact pt_cells h.1 h.2.1 v hv
set_option maxHeartbeats 1000000 in
set_option maxRecDepth 100000 in
theorem history7_spec (v : Value) (xs : List Ac0) (z0 : Int) (p : HP) (hx : Acts1 p v xs) (hz : 0 ≤ z0 ∧ z0 ≤ 2199023255552) : Fn Tryz.prog 12 #[v, vint z0] [p] fun v L => ∃ (es : List En) (τ : Tr) (x : Nat) (u : Value), v = .tuple #[u, vptr x] ∧ Hist z0 es τ ∧ (es.length ≤ 150 ∧ ∃ a c, u = .slice a es.length c) ∧ L = [p, refR x τ, slR 39 11 u es.length (es.flatMap enC), ensA es] := by
 refine Fn.intro (vs := [v, vint z0]) Tryz.func12 rfl rfl ?_
 intro F W
 refine G.rdAny (p := p) hx.own.cells (by (repeat' constructor)) fun av cv ev0 _ => ?_
 subst ev0
 have hrd := hx.own.cells
 have hlen := hx.own.len
 refine G.seq (G.region (G.q (Quiet.assign rfl) rfl (G.q (Quiet.assign rfl) rfl (G.nil (G.then_n (G.seq (G.region ?_)))))))
 refine G.op (OpSpec.call Tryz.func25 rfl rfl (vs := []) rfl (rfnew_spec)) (by (repeat' constructor)) rfl ?nx3
 rintro v L' ⟨x, rfl, rfl⟩
 refine G.q (Quiet.assign rfl) rfl (G.nil (G.then_n (G.seq (G.add (slR_nil 39 11) ?_))))
 refine G.add (p := ensA []) (fun h e he => by cases he) ?_
 refine G.region (G.q (Quiet.assign rfl) rfl (G.nil (G.then_n (G.seq (G.seq (G.region (G.q (Quiet.assign rfl) rfl (G.nil (G.then_n (G.block ?_))))))))))
 refine G.loopK (ι := Nat × (List En) × Tr × Value) (fun q E => (8, vint q.1) :: (7, q.2.2.2) :: E) (fun q => [refR x q.2.2.1, slR 39 11 q.2.2.2 q.2.1.length (q.2.1.flatMap enC), ensA q.2.1]) (fun q => (q.1 ≤ xs.length ∧ q.1 ≤ 150 ∧ q.2.1.length ≤ q.1) ∧ Hist z0 q.2.1 q.2.2.1 ∧ ∃ a c, q.2.2.2 = .slice a q.2.1.length c) (fun q => xs.length - q.1) (0, [], newT, .slice none 0 0) (ts := [0, 1, 4, 5, 6]) (.cons rfl (.cons rfl (.cons rfl (.cons rfl (.cons rfl (.nil)))))) (⟨⟨Nat.zero_le _, Nat.zero_le _, Nat.le_refl _⟩, .nil, none, 0, rfl⟩) ⟨rfl, rfl, rfl, rfl, rfl, rfl, rfl, trivial⟩ (by (repeat' constructor)) ?_
 rintro ⟨i, es, τ, u⟩ ⟨⟨hi, hi150, hei⟩, hh, au, cu, hu⟩
 dsimp only
 dsimp only at hi hi150 hei hh hu
 subst hu
 have hinv := hh.inv
 have hfew := hinv.ok.few
 refine G.seq (G.seq (G.region (G.q (Quiet.move rfl) rfl (G.q (Quiet.move rfl) rfl (G.q (Quiet.slen rfl Tryz.underlying22 rfl) rfl (G.q (Quiet.int rfl rfl rfl) rfl (G.q (Quiet.move rfl) rfl ?_)))))))
 refine G.dec (t := 16) rfl (fun h4_16 => ?_) (fun h4_16 => ?_)
 ·refine G.kDT (t := 15) rfl h4_16 (G.grun (t := 16) rfl rfl rfl (G.q (Quiet.move rfl) rfl (G.grun (t := 16) rfl rfl rfl (G.q (Quiet.int rfl rfl rfl) rfl (G.q (Quiet.pickT rfl rfl) rfl (G.nil (G.then_n ?_)))))))
  refine G.condD rfl (fun h19 => ?_) (fun h19 => ?_)
  ·have hi2 : i < xs.length := by omega
   refine G.rdShape (p := p) hrd (by (repeat' constructor)) (by omega) fun bv ov e1 => ?_
   subst e1
   obtain ⟨hk1, hk2, hk3, hk4⟩ := hx.own.ok _ (List.getElem_mem hi2)
   obtain ⟨ss, hss, hcs⟩ := hx.subs _ (List.getElem_mem hi2)
   have hp9 := pickZ_range xs[i].2.1 (n := 9) (by decide)
   refine G.skip (G.then_n (G.seq (G.block (G.seq ?_))))
   refine G.draw [16, 21, 23, 24] [[0, 1, 2, 3, 4, 5, 6, 7, 8, 9, 10, 11, 12, 13, 14, 15, 17, 18, 19, 20, 16, 21, 22, 23], [24]] mixed (by kernel_rfl) ?_
   refine Phases.go [p] (by (repeat' constructor)) ?_
   refine D.q rfl (by kernel_rfl) (Quiet.move rfl) ?_
   refine D.q rfl (by kernel_rfl) (Quiet.move rfl) ?_
   refine D.q rfl (by kernel_rfl) (Quiet.slen rfl Tryz.underlying24 rfl) ?_
   refine D.q rfl (by kernel_rfl) (Quiet.add rfl rfl (by omega)) ?_
   refine D.q rfl (by kernel_rfl) (Quiet.move rfl) ?_
   refine D.q rfl (by kernel_rfl) (Quiet.move rfl) ?_
   refine D.q rfl (by kernel_rfl) (Quiet.indexAddr rfl rfl el_22 (by omega)) ?_
   refine D.q rfl (by kernel_rfl) (Quiet.fieldAddr rfl fo_94_1) ?_
   refine D.q rfl (by kernel_rfl) (Quiet.loadRd (sz := 5) (j := i * 5 + 1) (p := p) rfl ag_3 (by (repeat' constructor)) hrd (by omega) ((ac0_cell (l := xs) (i := i) (k := 1) (by omega) (by decide)).trans rfl)) ?_
   refine D.m rfl (by kernel_rfl) (OpSpec.call Tryz.func21 rfl rfl (vs := [_, _]) rfl (pick7_spec _ _ hk2 (by decide))) (by (repeat' constructor)) ?nx22
   refine D.q rfl (by kernel_rfl) (Quiet.move rfl) ?_
   refine D.q rfl (by kernel_rfl) (Quiet.move rfl) ?_
   refine D.q rfl (by kernel_rfl) (Quiet.move rfl) ?_
   refine D.q rfl (by kernel_rfl) (Quiet.move rfl) ?_
   refine D.q rfl (by kernel_rfl) (Quiet.indexAddr rfl rfl el_22 (by omega)) ?_
   refine D.q rfl (by kernel_rfl) (Quiet.loadRdA (sz := 5) (j := i * 5) (k := 5) (p := p) (vs := ac0C xs[i]) rfl ag_94 (by (repeat' constructor)) hrd (by simp) (by omega) (by omega) (flatMap_at (f := ac0C) (sz := 5) (fun _ _ => rfl) (by omega))) ?_
   refine D.q rfl (by kernel_rfl) (Quiet.move rfl) ?_
   refine D.q rfl (by kernel_rfl) (Quiet.move rfl) ?_
   refine D.q rfl (by kernel_rfl) (Quiet.slen rfl Tryz.underlying24 rfl) ?_
   refine D.q rfl (by kernel_rfl) (Quiet.add rfl rfl (by omega)) ?_
   refine D.h2R (k := 23) rfl rfl (by kernel_rfl) rfl (SpecR.ro [p] (OpSpec.call Tryz.func44 rfl rfl (vs := [_]) rfl (small7_ro xs[i] p ss hss hcs (by omega))) (by (repeat' constructor))) (by (repeat' constructor)) (SpecR.own (OpSpec.allocA ze_39)) (by (repeat' constructor)) ?nx34 ?nx35
   ·rintro v L' ⟨uv, us, rfl, hsm, rfl⟩
    refine D.h2 (k := 23) rfl rfl (by kernel_rfl) rfl (OpSpec.call Tryz.func43 rfl rfl (vs := [_, _, _]) rfl (txn7_spec x τ (xs[i].1, (xs[i].2.1, (xs[i].2.2.1, (xs[i].2.2.2.1.take 100, uv)))) _ us (z0 + es.length) (60 * es.length) hinv (by omega) ⟨hk1, hk2, hk3⟩ (by rw [List.length_take]; omega) (acts0_own hsm) hsm)) (by (repeat' constructor)) (OpSpec.allocA ze_39) (by (repeat' constructor)) ?nx37 ?nx38
    ·rintro v L' ⟨y, subs, rfl, hsh, hcc, rfl⟩
     refine D.q rfl (by kernel_rfl) (Quiet.buildN (pl := [(0, 1), (1, 1), (2, 1), (3, 8)]) (us := [(0, vint (z0 + es.length)), (1, vint (pickZ xs[i].2.1 9)), (2, vint i), (3, .agg (ptC y).toArray)]) (cells := enC (⟨z0 + es.length, pickZ xs[i].2.1 9, i, y, subs⟩ : En)) Tryz.underlying39 (by kernel_rfl) ze_39 rfl (fill_entry4 _ _ _ _ _ _ _ _ _ _ _)) ?_
     refine D.h rfl (by kernel_rfl) (OpSpec.allocA ze_39) (by (repeat' constructor)) ?nx41
     rintro v L' ⟨b9, rfl, rfl⟩
     refine D.ph ?_
     refine Phases.go [] (by (repeat' constructor)) ?_
     refine D.h rfl (by kernel_rfl) (OpSpec.storeA rfl rfl ?c43 sz_39 ?c46 ?c44 ?c45) (by (repeat' constructor)) ?nx47
     case c43 => exact en_cells (e := (⟨z0 + es.length, pickZ xs[i].2.1 9, i, y, subs⟩ : En)) hcc
     case c46 => rfl
     case c44 => simp [enC, ptC]
     case c45 => exact nfz0 _ _
     rintro v L' rfl
     refine D.ph (Phases.fin ?_)
     refine G.ptCast (b := b9) (l' := enC (⟨z0 + es.length, pickZ xs[i].2.1 9, i, y, subs⟩ : En)) (by (repeat' constructor)) rfl ?_
     have htx := ShapeH.tx (e := (⟨z0 + es.length, pickZ xs[i].2.1 9, i, y, subs⟩ : En)) hsh hcc (p := txRd y subs) (fun h hp => hp)
     have hfs := (ShapeH.sz (e := (⟨z0 + es.length, pickZ xs[i].2.1 9, i, y, subs⟩ : En)) hsh).few
     have hfs2 : subs.length ≤ 60 := hfs
     refine G.then_n (G.seq (G.region (G.q (Quiet.move rfl) rfl ?_)))
     refine G.q (Quiet.loadAs (vs := enC (⟨z0 + es.length, pickZ xs[i].2.1 9, i, y, subs⟩ : En)) rfl ag_39 (by (repeat' constructor)) (by simp [enC, ptC]) rfl) rfl ?_
     refine G.op (OpSpec.call Tryz.func45 rfl rfl (vs := [_, _]) rfl (rsound_spec x τ (z0 + es.length) (pickZ xs[i].2.1 9) i y subs _ htx 60 hinv.ok (by omega))) (by (repeat' constructor)) rfl ?nx50
     rintro v L' ⟨rfl, rfl⟩
     refine G.q (Quiet.assign rfl) rfl (G.nil (G.then_n (G.seq (G.seq ?_))))
     refine G.rfOpen (x := x) (τ := τ) (by (repeat' constructor)) fun an cn as1 cs l hl => ?_
     have hll := nds_len hl
     refine G.region (G.q (Quiet.move rfl) rfl (G.q (Quiet.not rfl) rfl (G.q (Quiet.move rfl) rfl ?_)))
     refine G.bool (t := 50) rfl (fun h8_50 => ?_) (fun h8_50 => ?_)
     ·refine G.kB (t := 49) rfl h8_50 (G.gskip (t := 50) rfl rfl rfl rfl (G.gskip (t := 50) rfl rfl rfl rfl (G.gskip (t := 50) rfl rfl rfl rfl (G.gskip (t := 50) rfl rfl rfl rfl (G.gskip (t := 50) rfl rfl rfl rfl (G.gskip (t := 50) rfl rfl rfl rfl (G.gskip (t := 50) rfl rfl rfl rfl (G.gskipU (t := 57) rfl rfl rfl (G.gskipU (t := 57) rfl rfl rfl (G.gskipU (t := 57) rfl rfl rfl (G.gskipU (t := 57) rfl rfl rfl (G.gskipU (t := 57) rfl rfl rfl (G.gskipU (t := 62) rfl rfl rfl (G.gskipU (t := 62) rfl rfl rfl (G.gskipU (t := 62) rfl rfl rfl (G.gskipU (t := 62) rfl rfl rfl (G.gskipU (t := 57) rfl rfl rfl (G.gskip (t := 50) rfl rfl rfl rfl (G.q (Quiet.pickT rfl rfl) rfl (G.nil ?_))))))))))))))))))))
      refine G.rfFold (x := x) (τ := τ) (l := l) hl (by (repeat' constructor)) rfl rfl rfl rfl rfl ?_
      refine G.then_n (G.condT rfl (G.exit (G.then_e (G.blk_e (G.then_n (G.region (G.q (Quiet.move rfl) rfl ?_)))))))
      refine G.q (Quiet.add rfl rfl (by omega)) rfl ?_
      refine G.q (Quiet.assign rfl) rfl (G.nil (G.then_n ?_))
      exact G.roundK ((i + 1, es, τ, .slice au es.length cu)) (⟨⟨by dsimp only; omega, by dsimp only; omega, by dsimp only; omega⟩, hh, _, _, rfl⟩) (by dsimp only; omega) ⟨rfl, rfl, rfl, rfl, rfl, rfl, rfl, trivial⟩ (by (repeat' constructor)) (by ((repeat (apply Have.cons; (repeat (first | exact Pick.here | apply Pick.there)))); apply Have.base; repeat' constructor))
     ·refine G.kB (t := 49) rfl h8_50 (G.grun (t := 50) rfl rfl rfl (G.q (Quiet.move rfl) rfl (G.grun (t := 50) rfl rfl rfl (G.q (Quiet.nilp rfl) rfl (G.grun (t := 50) rfl rfl rfl (G.q (Quiet.fieldAddr rfl fo_101_0) rfl (G.grun (t := 50) rfl rfl rfl ?_)))))))
      refine G.q (Quiet.load rfl ag_98 (by (repeat' constructor)) (rfl)) rfl ?_
      refine G.grun (t := 50) rfl rfl rfl (G.q (Quiet.slen rfl Tryz.underlying98 rfl) rfl (G.grun (t := 50) rfl rfl rfl ?_))
      refine G.q (Quiet.as (v' := .bool false) (by exact congrArg Value.bool (decide_eq_false (by omega))) (Quiet.int rfl rfl rfl)) rfl ?_
      refine G.grun (t := 50) rfl rfl rfl (G.q (Quiet.move rfl) rfl (G.gskip (t := 57) rfl rfl rfl rfl (G.gskip (t := 57) rfl rfl rfl rfl (G.gskip (t := 57) rfl rfl rfl rfl (G.gskip (t := 57) rfl rfl rfl rfl (G.gskip (t := 57) rfl rfl rfl rfl (G.gskipU (t := 62) rfl rfl rfl (G.gskipU (t := 62) rfl rfl rfl (G.gskipU (t := 62) rfl rfl rfl (G.gskipU (t := 62) rfl rfl rfl (G.gskip (t := 57) rfl rfl rfl rfl (G.grun (t := 50) rfl rfl rfl (G.q (Quiet.pickF rfl rfl) rfl (G.q (Quiet.pickF rfl rfl) rfl (G.nil ?_)))))))))))))))
      refine G.rfFold (x := x) (τ := τ) (l := l) hl (by (repeat' constructor)) rfl rfl rfl rfl rfl ?_
      refine G.then_n (G.condF rfl (G.skip (G.then_n (G.seq ?_))))
      have hsd : soundZ τ (z0 + es.length) y subs = true := by simpa using h8_50
      have hE : EntH τ (⟨z0 + es.length, pickZ xs[i].2.1 9, i, y, subs⟩ : En) (60 * es.length) := ⟨hsd, hsh, ⟨hp9.1, hp9.2⟩, hcc⟩
      refine G.region (G.q (Quiet.move rfl) rfl ?_)
      refine G.q (Quiet.loadAs (vs := enC (⟨z0 + es.length, pickZ xs[i].2.1 9, i, y, subs⟩ : En)) rfl ag_39 (by (repeat' constructor)) (by simp [enC, ptC]) rfl) rfl ?_
      refine G.op (OpSpec.call Tryz.func26 rfl rfl (vs := [_, _]) rfl (rapply_spec x τ (z0 + es.length) (pickZ xs[i].2.1 9) i y subs _ htx 60 hinv.ok (by omega))) (by (repeat' constructor)) rfl ?nx65
      rintro v L' ⟨ue, ee, rfl, he, hue, rfl⟩
      refine G.nil ?_
      refine G.rfCast (x := x) (τ' := (appE τ (⟨z0 + es.length, pickZ xs[i].2.1 9, i, y, subs⟩ : En))) (by (repeat' constructor)) (rfl) ?_
      refine G.fold (p := ensA (es ++ [(⟨z0 + es.length, pickZ xs[i].2.1 9, i, y, subs⟩ : En)])) (.cons (p := ensA es) (by (repeat' constructor)) (.cons (p := txRd y subs) (by (repeat' constructor)) .nil)) (fun _ hp => ensA_snoc hp) ?_
      refine G.then_n (G.region (G.q (Quiet.move rfl) rfl ?_))
      refine G.q (Quiet.loadAs (vs := enC (⟨z0 + es.length, pickZ xs[i].2.1 9, i, y, subs⟩ : En)) rfl ag_39 (by (repeat' constructor)) (by simp [enC, ptC]) rfl) rfl ?_
      refine G.op (OpSpec.buildSlice (vs := [_]) el_24 ze_39 rfl rfl rfl rfl (by first | (simp [Value.cells]; done) | (intro v hv; simp only [List.mem_cons, List.not_mem_nil, or_false] at hv; (repeat (first | (subst hv; rfl) | (rcases hv with hv | hv; (subst hv; rfl)))))) (by decide)) (by (repeat' constructor)) rfl ?nx69
      rintro v L' ⟨b10, rfl, rfl⟩
      refine G.op (OpSpec.append1 rfl rfl rfl el_24 ze_39 rfl rfl ?c71 ?c72 (Nat.le_refl _) ?c73 (by decide)) (by (repeat' constructor)) rfl ?nx74
      case c71 => simp only [List.map_cons, List.map_nil, List.flatten_cons, List.flatten_nil, List.append_nil]; exact en_cells (e := (⟨z0 + es.length, pickZ xs[i].2.1 9, i, y, subs⟩ : En)) hcc
      case c72 => rfl
      case c73 => first | omega | (simp; omega)
      rintro v L' ⟨⟨a10_3, c10_3, rfl⟩, rfl⟩
      refine G.q (Quiet.assign rfl) rfl (G.nil (G.blk_n (G.then_n (G.region (G.q (Quiet.move rfl) rfl ?_)))))
      refine G.q (Quiet.add rfl rfl (by omega)) rfl ?_
      refine G.q (Quiet.assign rfl) rfl (G.nil (G.then_n ?_))
      refine G.slCast (T := 39) (sz := 11) (m' := (es ++ [(⟨z0 + es.length, pickZ xs[i].2.1 9, i, y, subs⟩ : En)]).length) (xs' := (es ++ [(⟨z0 + es.length, pickZ xs[i].2.1 9, i, y, subs⟩ : En)]).flatMap enC) (by (repeat' constructor)) (by rw [List.length_append]; rfl) (by rw [List.flatMap_append]; simp; rfl) ?_
      exact G.roundK ((i + 1, es ++ [(⟨z0 + es.length, pickZ xs[i].2.1 9, i, y, subs⟩ : En)], appE τ (⟨z0 + es.length, pickZ xs[i].2.1 9, i, y, subs⟩ : En), .slice a10_3 (es.length + 1) c10_3)) (⟨⟨by dsimp only; omega, by dsimp only; omega, by dsimp only; rw [List.length_append]; simp; omega⟩, .snoc hh hE rfl ⟨by show (0 : Int) ≤ (i : Int); omega, by show (i : Int) < 150; omega⟩, _, _, by rw [List.length_append]; rfl⟩) (by dsimp only; omega) ⟨rfl, rfl, rfl, rfl, rfl, rfl, rfl, trivial⟩ (by (repeat' constructor)) (by ((repeat (apply Have.cons; (repeat (first | exact Pick.here | apply Pick.there)))); apply Have.base; repeat' constructor))
    ·rintro v L' ⟨b9, rfl, rfl⟩
     refine D.h rfl (by kernel_rfl) (OpSpec.call Tryz.func43 rfl rfl (vs := [_, _, _]) rfl (txn7_spec x τ (xs[i].1, (xs[i].2.1, (xs[i].2.2.1, (xs[i].2.2.2.1.take 100, uv)))) _ us (z0 + es.length) (60 * es.length) hinv (by omega) ⟨hk1, hk2, hk3⟩ (by rw [List.length_take]; omega) (acts0_own hsm) hsm)) (by (repeat' constructor)) ?nx79
     rintro v L' ⟨y, subs, rfl, hsh, hcc, rfl⟩
     refine D.qw [] rfl (by kernel_rfl) (Quiet.buildN (pl := [(0, 1), (1, 1), (2, 1), (3, 8)]) (us := [(0, vint (z0 + es.length)), (1, vint (pickZ xs[i].2.1 9)), (2, vint i), (3, .agg (ptC y).toArray)]) (cells := enC (⟨z0 + es.length, pickZ xs[i].2.1 9, i, y, subs⟩ : En)) Tryz.underlying39 (by kernel_rfl) ze_39 rfl (fill_entry4 _ _ _ _ _ _ _ _ _ _ _)) ?_
     refine D.ph ?_
     refine Phases.go [] (by (repeat' constructor)) ?_
     refine D.h rfl (by kernel_rfl) (OpSpec.storeA rfl rfl ?c82 sz_39 ?c85 ?c83 ?c84) (by (repeat' constructor)) ?nx86
     case c82 => exact en_cells (e := (⟨z0 + es.length, pickZ xs[i].2.1 9, i, y, subs⟩ : En)) hcc
     case c85 => rfl
     case c83 => simp [enC, ptC]
     case c84 => exact nfz0 _ _
     rintro v L' rfl
     refine D.ph (Phases.fin ?_)
     refine G.ptCast (b := b9) (l' := enC (⟨z0 + es.length, pickZ xs[i].2.1 9, i, y, subs⟩ : En)) (by (repeat' constructor)) rfl ?_
     have htx := ShapeH.tx (e := (⟨z0 + es.length, pickZ xs[i].2.1 9, i, y, subs⟩ : En)) hsh hcc (p := txRd y subs) (fun h hp => hp)
     have hfs := (ShapeH.sz (e := (⟨z0 + es.length, pickZ xs[i].2.1 9, i, y, subs⟩ : En)) hsh).few
     have hfs2 : subs.length ≤ 60 := hfs
     refine G.then_n (G.seq (G.region (G.q (Quiet.move rfl) rfl ?_)))
     refine G.q (Quiet.loadAs (vs := enC (⟨z0 + es.length, pickZ xs[i].2.1 9, i, y, subs⟩ : En)) rfl ag_39 (by (repeat' constructor)) (by simp [enC, ptC]) rfl) rfl ?_
     refine G.op (OpSpec.call Tryz.func45 rfl rfl (vs := [_, _]) rfl (rsound_spec x τ (z0 + es.length) (pickZ xs[i].2.1 9) i y subs _ htx 60 hinv.ok (by omega))) (by (repeat' constructor)) rfl ?nx89
     rintro v L' ⟨rfl, rfl⟩
     refine G.q (Quiet.assign rfl) rfl (G.nil (G.then_n (G.seq (G.seq ?_))))
     refine G.rfOpen (x := x) (τ := τ) (by (repeat' constructor)) fun an cn as1 cs l hl => ?_
     have hll := nds_len hl
     refine G.region (G.q (Quiet.move rfl) rfl (G.q (Quiet.not rfl) rfl (G.q (Quiet.move rfl) rfl ?_)))
     refine G.bool (t := 50) rfl (fun h8_50 => ?_) (fun h8_50 => ?_)
     ·refine G.kB (t := 49) rfl h8_50 (G.gskip (t := 50) rfl rfl rfl rfl (G.gskip (t := 50) rfl rfl rfl rfl (G.gskip (t := 50) rfl rfl rfl rfl (G.gskip (t := 50) rfl rfl rfl rfl (G.gskip (t := 50) rfl rfl rfl rfl (G.gskip (t := 50) rfl rfl rfl rfl (G.gskip (t := 50) rfl rfl rfl rfl (G.gskipU (t := 57) rfl rfl rfl (G.gskipU (t := 57) rfl rfl rfl (G.gskipU (t := 57) rfl rfl rfl (G.gskipU (t := 57) rfl rfl rfl (G.gskipU (t := 57) rfl rfl rfl (G.gskipU (t := 62) rfl rfl rfl (G.gskipU (t := 62) rfl rfl rfl (G.gskipU (t := 62) rfl rfl rfl (G.gskipU (t := 62) rfl rfl rfl (G.gskipU (t := 57) rfl rfl rfl (G.gskip (t := 50) rfl rfl rfl rfl (G.q (Quiet.pickT rfl rfl) rfl (G.nil ?_))))))))))))))))))))
      refine G.rfFold (x := x) (τ := τ) (l := l) hl (by (repeat' constructor)) rfl rfl rfl rfl rfl ?_
      refine G.then_n (G.condT rfl (G.exit (G.then_e (G.blk_e (G.then_n (G.region (G.q (Quiet.move rfl) rfl ?_)))))))
      refine G.q (Quiet.add rfl rfl (by omega)) rfl ?_
      refine G.q (Quiet.assign rfl) rfl (G.nil (G.then_n ?_))
      exact G.roundK ((i + 1, es, τ, .slice au es.length cu)) (⟨⟨by dsimp only; omega, by dsimp only; omega, by dsimp only; omega⟩, hh, _, _, rfl⟩) (by dsimp only; omega) ⟨rfl, rfl, rfl, rfl, rfl, rfl, rfl, trivial⟩ (by (repeat' constructor)) (by ((repeat (apply Have.cons; (repeat (first | exact Pick.here | apply Pick.there)))); apply Have.base; repeat' constructor))
     ·refine G.kB (t := 49) rfl h8_50 (G.grun (t := 50) rfl rfl rfl (G.q (Quiet.move rfl) rfl (G.grun (t := 50) rfl rfl rfl (G.q (Quiet.nilp rfl) rfl (G.grun (t := 50) rfl rfl rfl (G.q (Quiet.fieldAddr rfl fo_101_0) rfl (G.grun (t := 50) rfl rfl rfl ?_)))))))
      refine G.q (Quiet.load rfl ag_98 (by (repeat' constructor)) (rfl)) rfl ?_
      refine G.grun (t := 50) rfl rfl rfl (G.q (Quiet.slen rfl Tryz.underlying98 rfl) rfl (G.grun (t := 50) rfl rfl rfl ?_))
      refine G.q (Quiet.as (v' := .bool false) (by exact congrArg Value.bool (decide_eq_false (by omega))) (Quiet.int rfl rfl rfl)) rfl ?_
      refine G.grun (t := 50) rfl rfl rfl (G.q (Quiet.move rfl) rfl (G.gskip (t := 57) rfl rfl rfl rfl (G.gskip (t := 57) rfl rfl rfl rfl (G.gskip (t := 57) rfl rfl rfl rfl (G.gskip (t := 57) rfl rfl rfl rfl (G.gskip (t := 57) rfl rfl rfl rfl (G.gskipU (t := 62) rfl rfl rfl (G.gskipU (t := 62) rfl rfl rfl (G.gskipU (t := 62) rfl rfl rfl (G.gskipU (t := 62) rfl rfl rfl (G.gskip (t := 57) rfl rfl rfl rfl (G.grun (t := 50) rfl rfl rfl (G.q (Quiet.pickF rfl rfl) rfl (G.q (Quiet.pickF rfl rfl) rfl (G.nil ?_)))))))))))))))
      refine G.rfFold (x := x) (τ := τ) (l := l) hl (by (repeat' constructor)) rfl rfl rfl rfl rfl ?_
      refine G.then_n (G.condF rfl (G.skip (G.then_n (G.seq ?_))))
      have hsd : soundZ τ (z0 + es.length) y subs = true := by simpa using h8_50
      have hE : EntH τ (⟨z0 + es.length, pickZ xs[i].2.1 9, i, y, subs⟩ : En) (60 * es.length) := ⟨hsd, hsh, ⟨hp9.1, hp9.2⟩, hcc⟩
      refine G.region (G.q (Quiet.move rfl) rfl ?_)
      refine G.q (Quiet.loadAs (vs := enC (⟨z0 + es.length, pickZ xs[i].2.1 9, i, y, subs⟩ : En)) rfl ag_39 (by (repeat' constructor)) (by simp [enC, ptC]) rfl) rfl ?_
      refine G.op (OpSpec.call Tryz.func26 rfl rfl (vs := [_, _]) rfl (rapply_spec x τ (z0 + es.length) (pickZ xs[i].2.1 9) i y subs _ htx 60 hinv.ok (by omega))) (by (repeat' constructor)) rfl ?nx104
      rintro v L' ⟨ue, ee, rfl, he, hue, rfl⟩
      refine G.nil ?_
      refine G.rfCast (x := x) (τ' := (appE τ (⟨z0 + es.length, pickZ xs[i].2.1 9, i, y, subs⟩ : En))) (by (repeat' constructor)) (rfl) ?_
      refine G.fold (p := ensA (es ++ [(⟨z0 + es.length, pickZ xs[i].2.1 9, i, y, subs⟩ : En)])) (.cons (p := ensA es) (by (repeat' constructor)) (.cons (p := txRd y subs) (by (repeat' constructor)) .nil)) (fun _ hp => ensA_snoc hp) ?_
      refine G.then_n (G.region (G.q (Quiet.move rfl) rfl ?_))
      refine G.q (Quiet.loadAs (vs := enC (⟨z0 + es.length, pickZ xs[i].2.1 9, i, y, subs⟩ : En)) rfl ag_39 (by (repeat' constructor)) (by simp [enC, ptC]) rfl) rfl ?_
      refine G.op (OpSpec.buildSlice (vs := [_]) el_24 ze_39 rfl rfl rfl rfl (by first | (simp [Value.cells]; done) | (intro v hv; simp only [List.mem_cons, List.not_mem_nil, or_false] at hv; (repeat (first | (subst hv; rfl) | (rcases hv with hv | hv; (subst hv; rfl)))))) (by decide)) (by (repeat' constructor)) rfl ?nx108
      rintro v L' ⟨b10, rfl, rfl⟩
      refine G.op (OpSpec.append1 rfl rfl rfl el_24 ze_39 rfl rfl ?c110 ?c111 (Nat.le_refl _) ?c112 (by decide)) (by (repeat' constructor)) rfl ?nx113
      case c110 => simp only [List.map_cons, List.map_nil, List.flatten_cons, List.flatten_nil, List.append_nil]; exact en_cells (e := (⟨z0 + es.length, pickZ xs[i].2.1 9, i, y, subs⟩ : En)) hcc
      case c111 => rfl
      case c112 => first | omega | (simp; omega)
      rintro v L' ⟨⟨a10_3, c10_3, rfl⟩, rfl⟩
      refine G.q (Quiet.assign rfl) rfl (G.nil (G.blk_n (G.then_n (G.region (G.q (Quiet.move rfl) rfl ?_)))))
      refine G.q (Quiet.add rfl rfl (by omega)) rfl ?_
      refine G.q (Quiet.assign rfl) rfl (G.nil (G.then_n ?_))
      refine G.slCast (T := 39) (sz := 11) (m' := (es ++ [(⟨z0 + es.length, pickZ xs[i].2.1 9, i, y, subs⟩ : En)]).length) (xs' := (es ++ [(⟨z0 + es.length, pickZ xs[i].2.1 9, i, y, subs⟩ : En)]).flatMap enC) (by (repeat' constructor)) (by rw [List.length_append]; rfl) (by rw [List.flatMap_append]; simp; rfl) ?_
      exact G.roundK ((i + 1, es ++ [(⟨z0 + es.length, pickZ xs[i].2.1 9, i, y, subs⟩ : En)], appE τ (⟨z0 + es.length, pickZ xs[i].2.1 9, i, y, subs⟩ : En), .slice a10_3 (es.length + 1) c10_3)) (⟨⟨by dsimp only; omega, by dsimp only; omega, by dsimp only; rw [List.length_append]; simp; omega⟩, .snoc hh hE rfl ⟨by show (0 : Int) ≤ (i : Int); omega, by show (i : Int) < 150; omega⟩, _, _, by rw [List.length_append]; rfl⟩) (by dsimp only; omega) ⟨rfl, rfl, rfl, rfl, rfl, rfl, rfl, trivial⟩ (by (repeat' constructor)) (by ((repeat (apply Have.cons; (repeat (first | exact Pick.here | apply Pick.there)))); apply Have.base; repeat' constructor))
   ·rintro v L' ⟨b9, rfl, rfl⟩
    refine D.hR rfl (by kernel_rfl) (SpecR.ro [p] (OpSpec.call Tryz.func44 rfl rfl (vs := [_]) rfl (small7_ro xs[i] p ss hss hcs (by omega))) (by (repeat' constructor))) (by (repeat' constructor)) ?nx118
    rintro v L' ⟨uv, us, rfl, hsm, rfl⟩
    refine D.h rfl (by kernel_rfl) (OpSpec.call Tryz.func43 rfl rfl (vs := [_, _, _]) rfl (txn7_spec x τ (xs[i].1, (xs[i].2.1, (xs[i].2.2.1, (xs[i].2.2.2.1.take 100, uv)))) _ us (z0 + es.length) (60 * es.length) hinv (by omega) ⟨hk1, hk2, hk3⟩ (by rw [List.length_take]; omega) (acts0_own hsm) hsm)) (by (repeat' constructor)) ?nx120
    rintro v L' ⟨y, subs, rfl, hsh, hcc, rfl⟩
    refine D.qw [] rfl (by kernel_rfl) (Quiet.buildN (pl := [(0, 1), (1, 1), (2, 1), (3, 8)]) (us := [(0, vint (z0 + es.length)), (1, vint (pickZ xs[i].2.1 9)), (2, vint i), (3, .agg (ptC y).toArray)]) (cells := enC (⟨z0 + es.length, pickZ xs[i].2.1 9, i, y, subs⟩ : En)) Tryz.underlying39 (by kernel_rfl) ze_39 rfl (fill_entry4 _ _ _ _ _ _ _ _ _ _ _)) ?_
    refine D.ph ?_
    refine Phases.go [] (by (repeat' constructor)) ?_
    refine D.h rfl (by kernel_rfl) (OpSpec.storeA rfl rfl ?c123 sz_39 ?c126 ?c124 ?c125) (by (repeat' constructor)) ?nx127
    case c123 => exact en_cells (e := (⟨z0 + es.length, pickZ xs[i].2.1 9, i, y, subs⟩ : En)) hcc
    case c126 => rfl
    case c124 => simp [enC, ptC]
    case c125 => exact nfz0 _ _
    rintro v L' rfl
    refine D.ph (Phases.fin ?_)
    refine G.ptCast (b := b9) (l' := enC (⟨z0 + es.length, pickZ xs[i].2.1 9, i, y, subs⟩ : En)) (by (repeat' constructor)) rfl ?_
    have htx := ShapeH.tx (e := (⟨z0 + es.length, pickZ xs[i].2.1 9, i, y, subs⟩ : En)) hsh hcc (p := txRd y subs) (fun h hp => hp)
    have hfs := (ShapeH.sz (e := (⟨z0 + es.length, pickZ xs[i].2.1 9, i, y, subs⟩ : En)) hsh).few
    have hfs2 : subs.length ≤ 60 := hfs
    refine G.then_n (G.seq (G.region (G.q (Quiet.move rfl) rfl ?_)))
    refine G.q (Quiet.loadAs (vs := enC (⟨z0 + es.length, pickZ xs[i].2.1 9, i, y, subs⟩ : En)) rfl ag_39 (by (repeat' constructor)) (by simp [enC, ptC]) rfl) rfl ?_
    refine G.op (OpSpec.call Tryz.func45 rfl rfl (vs := [_, _]) rfl (rsound_spec x τ (z0 + es.length) (pickZ xs[i].2.1 9) i y subs _ htx 60 hinv.ok (by omega))) (by (repeat' constructor)) rfl ?nx130
    rintro v L' ⟨rfl, rfl⟩
    refine G.q (Quiet.assign rfl) rfl (G.nil (G.then_n (G.seq (G.seq ?_))))
    refine G.rfOpen (x := x) (τ := τ) (by (repeat' constructor)) fun an cn as1 cs l hl => ?_
    have hll := nds_len hl
    refine G.region (G.q (Quiet.move rfl) rfl (G.q (Quiet.not rfl) rfl (G.q (Quiet.move rfl) rfl ?_)))
    refine G.bool (t := 50) rfl (fun h8_50 => ?_) (fun h8_50 => ?_)
    ·refine G.kB (t := 49) rfl h8_50 (G.gskip (t := 50) rfl rfl rfl rfl (G.gskip (t := 50) rfl rfl rfl rfl (G.gskip (t := 50) rfl rfl rfl rfl (G.gskip (t := 50) rfl rfl rfl rfl (G.gskip (t := 50) rfl rfl rfl rfl (G.gskip (t := 50) rfl rfl rfl rfl (G.gskip (t := 50) rfl rfl rfl rfl (G.gskipU (t := 57) rfl rfl rfl (G.gskipU (t := 57) rfl rfl rfl (G.gskipU (t := 57) rfl rfl rfl (G.gskipU (t := 57) rfl rfl rfl (G.gskipU (t := 57) rfl rfl rfl (G.gskipU (t := 62) rfl rfl rfl (G.gskipU (t := 62) rfl rfl rfl (G.gskipU (t := 62) rfl rfl rfl (G.gskipU (t := 62) rfl rfl rfl (G.gskipU (t := 57) rfl rfl rfl (G.gskip (t := 50) rfl rfl rfl rfl (G.q (Quiet.pickT rfl rfl) rfl (G.nil ?_))))))))))))))))))))
     refine G.rfFold (x := x) (τ := τ) (l := l) hl (by (repeat' constructor)) rfl rfl rfl rfl rfl ?_
     refine G.then_n (G.condT rfl (G.exit (G.then_e (G.blk_e (G.then_n (G.region (G.q (Quiet.move rfl) rfl ?_)))))))
     refine G.q (Quiet.add rfl rfl (by omega)) rfl ?_
     refine G.q (Quiet.assign rfl) rfl (G.nil (G.then_n ?_))
     exact G.roundK ((i + 1, es, τ, .slice au es.length cu)) (⟨⟨by dsimp only; omega, by dsimp only; omega, by dsimp only; omega⟩, hh, _, _, rfl⟩) (by dsimp only; omega) ⟨rfl, rfl, rfl, rfl, rfl, rfl, rfl, trivial⟩ (by (repeat' constructor)) (by ((repeat (apply Have.cons; (repeat (first | exact Pick.here | apply Pick.there)))); apply Have.base; repeat' constructor))
    ·refine G.kB (t := 49) rfl h8_50 (G.grun (t := 50) rfl rfl rfl (G.q (Quiet.move rfl) rfl (G.grun (t := 50) rfl rfl rfl (G.q (Quiet.nilp rfl) rfl (G.grun (t := 50) rfl rfl rfl (G.q (Quiet.fieldAddr rfl fo_101_0) rfl (G.grun (t := 50) rfl rfl rfl ?_)))))))
     refine G.q (Quiet.load rfl ag_98 (by (repeat' constructor)) (rfl)) rfl ?_
     refine G.grun (t := 50) rfl rfl rfl (G.q (Quiet.slen rfl Tryz.underlying98 rfl) rfl (G.grun (t := 50) rfl rfl rfl ?_))
     refine G.q (Quiet.as (v' := .bool false) (by exact congrArg Value.bool (decide_eq_false (by omega))) (Quiet.int rfl rfl rfl)) rfl ?_
     refine G.grun (t := 50) rfl rfl rfl (G.q (Quiet.move rfl) rfl (G.gskip (t := 57) rfl rfl rfl rfl (G.gskip (t := 57) rfl rfl rfl rfl (G.gskip (t := 57) rfl rfl rfl rfl (G.gskip (t := 57) rfl rfl rfl rfl (G.gskip (t := 57) rfl rfl rfl rfl (G.gskipU (t := 62) rfl rfl rfl (G.gskipU (t := 62) rfl rfl rfl (G.gskipU (t := 62) rfl rfl rfl (G.gskipU (t := 62) rfl rfl rfl (G.gskip (t := 57) rfl rfl rfl rfl (G.grun (t := 50) rfl rfl rfl (G.q (Quiet.pickF rfl rfl) rfl (G.q (Quiet.pickF rfl rfl) rfl (G.nil ?_)))))))))))))))
     refine G.rfFold (x := x) (τ := τ) (l := l) hl (by (repeat' constructor)) rfl rfl rfl rfl rfl ?_
     refine G.then_n (G.condF rfl (G.skip (G.then_n (G.seq ?_))))
     have hsd : soundZ τ (z0 + es.length) y subs = true := by simpa using h8_50
     have hE : EntH τ (⟨z0 + es.length, pickZ xs[i].2.1 9, i, y, subs⟩ : En) (60 * es.length) := ⟨hsd, hsh, ⟨hp9.1, hp9.2⟩, hcc⟩
     refine G.region (G.q (Quiet.move rfl) rfl ?_)
     refine G.q (Quiet.loadAs (vs := enC (⟨z0 + es.length, pickZ xs[i].2.1 9, i, y, subs⟩ : En)) rfl ag_39 (by (repeat' constructor)) (by simp [enC, ptC]) rfl) rfl ?_
     refine G.op (OpSpec.call Tryz.func26 rfl rfl (vs := [_, _]) rfl (rapply_spec x τ (z0 + es.length) (pickZ xs[i].2.1 9) i y subs _ htx 60 hinv.ok (by omega))) (by (repeat' constructor)) rfl ?nx145
     rintro v L' ⟨ue, ee, rfl, he, hue, rfl⟩
     refine G.nil ?_
     refine G.rfCast (x := x) (τ' := (appE τ (⟨z0 + es.length, pickZ xs[i].2.1 9, i, y, subs⟩ : En))) (by (repeat' constructor)) (rfl) ?_
     refine G.fold (p := ensA (es ++ [(⟨z0 + es.length, pickZ xs[i].2.1 9, i, y, subs⟩ : En)])) (.cons (p := ensA es) (by (repeat' constructor)) (.cons (p := txRd y subs) (by (repeat' constructor)) .nil)) (fun _ hp => ensA_snoc hp) ?_
     refine G.then_n (G.region (G.q (Quiet.move rfl) rfl ?_))
     refine G.q (Quiet.loadAs (vs := enC (⟨z0 + es.length, pickZ xs[i].2.1 9, i, y, subs⟩ : En)) rfl ag_39 (by (repeat' constructor)) (by simp [enC, ptC]) rfl) rfl ?_
     refine G.op (OpSpec.buildSlice (vs := [_]) el_24 ze_39 rfl rfl rfl rfl (by first | (simp [Value.cells]; done) | (intro v hv; simp only [List.mem_cons, List.not_mem_nil, or_false] at hv; (repeat (first | (subst hv; rfl) | (rcases hv with hv | hv; (subst hv; rfl)))))) (by decide)) (by (repeat' constructor)) rfl ?nx149
     rintro v L' ⟨b10, rfl, rfl⟩
     refine G.op (OpSpec.append1 rfl rfl rfl el_24 ze_39 rfl rfl ?c151 ?c152 (Nat.le_refl _) ?c153 (by decide)) (by (repeat' constructor)) rfl ?nx154
     case c151 => simp only [List.map_cons, List.map_nil, List.flatten_cons, List.flatten_nil, List.append_nil]; exact en_cells (e := (⟨z0 + es.length, pickZ xs[i].2.1 9, i, y, subs⟩ : En)) hcc
     case c152 => rfl
     case c153 => first | omega | (simp; omega)
     rintro v L' ⟨⟨a10_3, c10_3, rfl⟩, rfl⟩
     refine G.q (Quiet.assign rfl) rfl (G.nil (G.blk_n (G.then_n (G.region (G.q (Quiet.move rfl) rfl ?_)))))
     refine G.q (Quiet.add rfl rfl (by omega)) rfl ?_
     refine G.q (Quiet.assign rfl) rfl (G.nil (G.then_n ?_))
     refine G.slCast (T := 39) (sz := 11) (m' := (es ++ [(⟨z0 + es.length, pickZ xs[i].2.1 9, i, y, subs⟩ : En)]).length) (xs' := (es ++ [(⟨z0 + es.length, pickZ xs[i].2.1 9, i, y, subs⟩ : En)]).flatMap enC) (by (repeat' constructor)) (by rw [List.length_append]; rfl) (by rw [List.flatMap_append]; simp; rfl) ?_
     exact G.roundK ((i + 1, es ++ [(⟨z0 + es.length, pickZ xs[i].2.1 9, i, y, subs⟩ : En)], appE τ (⟨z0 + es.length, pickZ xs[i].2.1 9, i, y, subs⟩ : En), .slice a10_3 (es.length + 1) c10_3)) (⟨⟨by dsimp only; omega, by dsimp only; omega, by dsimp only; rw [List.length_append]; simp; omega⟩, .snoc hh hE rfl ⟨by show (0 : Int) ≤ (i : Int); omega, by show (i : Int) < 150; omega⟩, _, _, by rw [List.length_append]; rfl⟩) (by dsimp only; omega) ⟨rfl, rfl, rfl, rfl, rfl, rfl, rfl, trivial⟩ (by (repeat' constructor)) (by ((repeat (apply Have.cons; (repeat (first | exact Pick.here | apply Pick.there)))); apply Have.base; repeat' constructor))
  ·refine G.exit (G.then_e (G.then_e (G.blk_e (G.then_n (G.seq (G.region (G.q (Quiet.move rfl) rfl (G.q (Quiet.move rfl) rfl (G.q (Quiet.assign rfl) rfl (G.q (Quiet.assign rfl) rfl (G.nil (G.then_n (G.ret ?_)))))))))))))
   exact G.done (l := [.tmp 4, .tmp 5]) rfl rfl ⟨es, τ, x, _, rfl, hh, ⟨by omega, _, _, rfl⟩, rfl⟩ (by (repeat' constructor)) (by (repeat' constructor))
 ·refine G.kDF (t := 15) rfl h4_16 (G.gskip (t := 16) rfl rfl rfl rfl (G.gskip (t := 16) rfl rfl rfl rfl (G.q (Quiet.pickF rfl rfl) rfl (G.nil (G.then_n (G.condF rfl (G.exit (G.then_e (G.then_e (G.blk_e (G.then_n (G.seq (G.region (G.q (Quiet.move rfl) rfl (G.q (Quiet.move rfl) rfl (G.q (Quiet.assign rfl) rfl (G.q (Quiet.assign rfl) rfl (G.nil (G.then_n (G.ret ?_))))))))))))))))))))
  exact G.done (l := [.tmp 4, .tmp 5]) rfl rfl ⟨es, τ, x, _, rfl, hh, ⟨by omega, _, _, rfl⟩, rfl⟩ (by (repeat' constructor)) (by (repeat' constructor))

end Go.Proofs.YtnnbelmpbmfdnaaGreatDoor

/- Own work, by program: package tree: a tree and itself: walked. -/
namespace Go.Proofs.YtnnbelmpbmfdnaaGreatDoor
open Go
end Go.Proofs.YtnnbelmpbmfdnaaGreatDoor

