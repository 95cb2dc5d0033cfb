/- Own work, some of it printed by program, texts that were built one by one and are laid one behind the other here: the document's tree: entries, and what is told: walked. | law 07: transactions of a sound history: walked. | package tree: Owned, Session, Kids: walked. | who owns what in a sound history: plain. | a tree of a sound history holds together; a closed session owns nothing: plain. | law 07: a tree holds together: walked. | from what a call is given to the atoms of SlCore, and back to what a statement asks. | strings and rows of strings as arguments. | nested arguments decoded: slices of structs, and what the row says of their weight. | arguments of a bounded bulk (the second form's bound), decoded. | what the arguments are. | treeKeeps: the walk, brought to the given second form and its card. -/
import Derived.Test.YtnnbelmpbmfdnaaGreatDoorCKeepsP3
import Derived.Test.YtnnbelmpbmfdnaaGreatDoorCKeepsP2
import Derived.Test.YtnnbelmpbmfdnaaGreatDoorCKeepsP1
import Derived.Test.YtnnbelmpbmfdnaaGreatDoorCKeepsP0
import Derived.Test.YtnnbelmpbmfdnaaGreatDoorRows
import Derived.WalkKit
import Derived.ProofKit
import Derived.OpenShut
import Derived.JoinedCond
import Derived.Carry
import Derived.Deep.Grids
import Derived.Handed
import Derived.Deep.Strs
import Derived.Test.YtnnbelmpbmfdnaaGreatDoorCards
import Derived.Test.YtnnbelmpbmfdnaaGreatDoorTie
import Derived.Deep.DeepHandedRow
import Derived.Lib.LaidTab
set_option linter.unusedSimpArgs false
set_option linter.unusedVariables false
/- Own work, by program: the document's tree: entries, and what is told: walked. -/
namespace Go.Proofs.YtnnbelmpbmfdnaaGreatDoor
open Go
def applyZ0 (τ : Tr) (zx : Int) (x : Pt) (subs : List Pt) : Tr × (List Ev × Int) :=
  if x.kind = 5 then (if 0 < x.own then openS τ x.own x.num x.data else τ, ([], 0))
  else if x.kind = 6 then (dropS (partsZ τ zx (subs.filter isDel)).1 x.own, ((partsZ τ zx (subs.filter isDel)).2, 0))
  else if x.kind = 7 then ((partsZ τ zx subs).1, ((partsZ τ zx subs).2, 0))
  else if x.kind = 8 then (τ, ([], x.err))
  else ((partZ τ x zx).1, ((partZ τ x zx).2, 0))
theorem part_zx (τ : Tr) (x : Pt) (zx z : Int) : partZ (zxT τ z) x zx = (zxT (partZ τ x zx).1 z, (partZ τ x zx).2) := by
  unfold partZ createZ eraseZ
  have h : ∀ p, thereT (zxT τ z) p ↔ thereT τ p := fun p => Iff.rfl
  simp only [h]
  repeat' split
  all_goals first | rfl | contradiction
theorem parts_zx (τ : Tr) (zx z : Int) (l : List Pt) : partsZ (zxT τ z) zx l = (zxT (partsZ τ zx l).1 z, (partsZ τ zx l).2) := by
  have key : ∀ (l : List Pt) (r : Tr × List Ev), l.foldl (fun r x => ((partZ r.1 x zx).1, r.2 ++ (partZ r.1 x zx).2)) (zxT r.1 z, r.2) = (zxT (l.foldl (fun r x => ((partZ r.1 x zx).1, r.2 ++ (partZ r.1 x zx).2)) r).1 z, (l.foldl (fun r x => ((partZ r.1 x zx).1, r.2 ++ (partZ r.1 x zx).2)) r).2) := by
    intro l
    induction l with
    | nil => intro r; rfl
    | cons x l ih =>
      intro r
      rw [List.foldl_cons, List.foldl_cons]
      dsimp only
      rw [part_zx]
      exact ih ((partZ r.1 x zx).1, r.2 ++ (partZ r.1 x zx).2)
  exact key l (τ, [])
theorem apply_zx (τ : Tr) (zx : Int) (x : Pt) (subs : List Pt) : applyZ τ zx x subs = (zxT (applyZ0 τ zx x subs).1 zx, (applyZ0 τ zx x subs).2) := by
  unfold applyZ applyZ0
  dsimp only
  rw [part_zx, parts_zx, parts_zx]
  repeat' split
  all_goals rfl
set_option maxRecDepth 100000 in
theorem rapply_spec (x : Nat) (τ : Tr) (zx ses xid : Int) (y : Pt) (subs : List Pt) (p : HP) (hx : TxA p y subs) (N : Nat) (ho : τ.Ok N) (hN : N + subs.length + 1 ≤ 1073741824) : Fn Tryz.prog 26 #[vptr x, .agg ([vint zx, vint ses, vint xid] ++ ptC y).toArray] [refR x τ, p] fun v L => ∃ u e, v = .tuple #[u, vint e] ∧ e = (applyZ τ zx y subs).2.2 ∧ (∃ a c, u = .slice a (applyZ τ zx y subs).2.1.length c) ∧ L = [refR x (applyZ τ zx y subs).1, p, slR 75 3 u (applyZ τ zx y subs).2.1.length ((applyZ τ zx y subs).2.1.flatMap evC)] := by
 refine Fn.intro (vs := [vptr x, .agg ([vint zx, vint ses, vint xid] ++ ptC y).toArray]) Tryz.func26 rfl rfl ?_
 intro F W
 refine G.rdAny (p := p) hx.rd (by (repeat' constructor)) fun asb csb esub _ => ?_
 have hrd := hx.rd
 rw [esub] at hrd
 have hfs := hx.few
 have hosf := ho.sfew
 refine G.seq (G.region ?_)
 refine G.op (OpSpec.box rfl) (by (repeat' constructor)) rfl ?nx1
 rintro v L' ⟨be, rfl, rfl⟩
 refine G.q (Quiet.assign rfl) rfl (G.q (Quiet.assign rfl) rfl (G.nil ?_))
 refine G.ptCast (b := be) (l' := ([vint zx, vint ses, vint xid] ++ ptC y)) (by (repeat' constructor)) rfl ?_
 refine G.then_n (G.seq (G.region (G.q (Quiet.fieldAddr rfl fo_39_3) rfl ?_)))
 refine G.q (Quiet.loadAs (vs := ptC y) rfl ag_37 (by (repeat' constructor)) (by simp [ptC]) rfl) rfl ?_
 refine G.op (OpSpec.allocA ze_37) (by (repeat' constructor)) rfl ?nx7
 rintro v L' ⟨bx, rfl, rfl⟩
 refine G.op (OpSpec.storeA rfl rfl ?c9 sz_37 ?c12 ?c10 ?c11) (by (repeat' constructor)) rfl ?nx13
 case c9 => exact hx.own.all
 case c12 => rfl
 case c10 => simp [ptC]
 case c11 => exact nfz0 _ _
 rintro v L' rfl
 refine G.nil ?_
 refine G.ptCast (b := bx) (l' := ptC y) (by (repeat' constructor)) rfl ?_
 refine G.then_n (G.seq (G.region (G.q (Quiet.assign rfl) rfl (G.nil (G.then_n (G.seq (G.region (G.q (Quiet.assign rfl) rfl (G.nil (G.then_n (G.seq (G.seq (G.region (G.q (Quiet.fieldAddr rfl fo_37_0) rfl ?_))))))))))))))
 refine G.q (Quiet.load rfl ag_3 (by (repeat' constructor)) (rfl)) rfl ?_
 refine G.nil (G.then_n (G.block (G.seq (G.region (G.q (Quiet.int rfl rfl rfl) rfl (G.q (Quiet.assign rfl) rfl (G.nil (G.then_n ?_))))))))
 refine G.condD rfl (fun h20 => ?_) (fun h20 => ?_)
 ·refine G.seq (G.region (G.q (Quiet.fieldAddr rfl fo_37_4) rfl ?_))
  refine G.q (Quiet.load rfl ag_3 (by (repeat' constructor)) (rfl)) rfl ?_
  refine G.q (Quiet.int rfl rfl rfl) rfl (G.nil (G.then_n ?_))
  refine G.condD rfl (fun h24 => ?_) (fun h24 => ?_)
  ·refine G.region (G.q (Quiet.move rfl) rfl (G.q (Quiet.fieldAddr rfl fo_37_4) rfl ?_))
   refine G.q (Quiet.load rfl ag_3 (by (repeat' constructor)) (rfl)) rfl ?_
   refine G.q (Quiet.fieldAddr rfl fo_37_5) rfl ?_
   refine G.q (Quiet.load rfl ag_3 (by (repeat' constructor)) (rfl)) rfl ?_
   refine G.q (Quiet.fieldAddr rfl fo_37_2) rfl ?_
   refine G.q (Quiet.load rfl ag_9 (by (repeat' constructor)) (rfl)) rfl ?_
   refine G.q (Quiet.to (v' := .agg (rsC (y.own, (y.num, y.data))).toArray) (Quiet.build (us := [(0, _), (1, _), (2, _)]) fl_134 ze_134 rfl rfl (by simp [isCell])) rfl) rfl ?_
   refine G.op (OpSpec.call Tryz.func59 rfl rfl (vs := [_, _]) rfl (ropen_spec x τ y.own y.num y.data N ho (by omega))) (by (repeat' constructor)) rfl ?nx30
   rintro v L' ⟨rfl, rfl⟩
   refine G.nil (G.blk_n (G.then_n (G.seq (G.add (slR_nil 75 3) ?_))))
   have hz : (applyZ τ zx y subs) = (zxT (openS τ y.own y.num y.data) zx, ([], 0)) := by rw [apply_zx]; unfold applyZ0; rw [if_pos h20, if_pos (show 0 < y.own by omega)]
   refine G.rfOpen (x := x) (τ := (openS τ y.own y.num y.data)) (by (repeat' constructor)) fun an cn as1 cs l hl => ?_
   refine G.region (G.q (Quiet.move rfl) rfl (G.q (Quiet.fieldAddr rfl fo_39_0) rfl ?_))
   refine G.q (Quiet.load rfl ag_3 (by (repeat' constructor)) (rfl)) rfl ?_
   refine G.q (Quiet.nilp rfl) rfl (G.q (Quiet.fieldAddr rfl fo_101_2) rfl ?_)
   refine G.op (OpSpec.store rfl rfl rfl sz_3 ?c37 ?c38) (by (repeat' constructor)) rfl ?nx39
   case c37 => first | decide | (simp; omega) | simp
   case c38 => exact nfz0 _ _
   rintro v L' rfl
   refine G.nil ?_
   refine G.rfFold (x := x) (τ := (zxT (openS τ y.own y.num y.data) zx)) (l := l) hl (by (repeat' constructor)) rfl rfl rfl rfl rfl ?_
   refine G.then_n (G.seq (G.region (G.q (Quiet.move rfl) rfl (G.q (Quiet.move rfl) rfl (G.q (Quiet.assign rfl) rfl (G.q (Quiet.assign rfl) rfl (G.nil (G.then_n (G.ret ?_)))))))))
   refine G.rfCast (x := x) (τ' := (applyZ τ zx y subs).1) (by (repeat' constructor)) (by rw [hz]) ?_
   refine G.slCast (T := 75) (sz := 3) (m' := (applyZ τ zx y subs).2.1.length) (xs' := (applyZ τ zx y subs).2.1.flatMap evC) (by (repeat' constructor)) (by (rw [hz]; try rfl)) (by (rw [hz]; try rfl)) ?_
   exact G.done (l := [.tmp 4, .tmp 5]) rfl rfl ⟨_, _, rfl, by rw [hz], ⟨_, _, by (rw [hz]; try rfl)⟩, rfl⟩ (by (repeat' constructor)) (by (repeat' constructor))
  ·refine G.skip (G.blk_n (G.then_n (G.seq (G.add (slR_nil 75 3) ?_))))
   have hz : (applyZ τ zx y subs) = (zxT (τ) zx, ([], 0)) := by rw [apply_zx]; unfold applyZ0; rw [if_pos h20, if_neg (show ¬ 0 < y.own by omega)]
   refine G.rfOpen (x := x) (τ := (τ)) (by (repeat' constructor)) fun an cn as1 cs l hl => ?_
   refine G.region (G.q (Quiet.move rfl) rfl (G.q (Quiet.fieldAddr rfl fo_39_0) rfl ?_))
   refine G.q (Quiet.load rfl ag_3 (by (repeat' constructor)) (rfl)) rfl ?_
   refine G.q (Quiet.nilp rfl) rfl (G.q (Quiet.fieldAddr rfl fo_101_2) rfl ?_)
   refine G.op (OpSpec.store rfl rfl rfl sz_3 ?c45 ?c46) (by (repeat' constructor)) rfl ?nx47
   case c45 => first | decide | (simp; omega) | simp
   case c46 => exact nfz0 _ _
   rintro v L' rfl
   refine G.nil ?_
   refine G.rfFold (x := x) (τ := (zxT (τ) zx)) (l := l) hl (by (repeat' constructor)) rfl rfl rfl rfl rfl ?_
   refine G.then_n (G.seq (G.region (G.q (Quiet.move rfl) rfl (G.q (Quiet.move rfl) rfl (G.q (Quiet.assign rfl) rfl (G.q (Quiet.assign rfl) rfl (G.nil (G.then_n (G.ret ?_)))))))))
   refine G.rfCast (x := x) (τ' := (applyZ τ zx y subs).1) (by (repeat' constructor)) (by rw [hz]) ?_
   refine G.slCast (T := 75) (sz := 3) (m' := (applyZ τ zx y subs).2.1.length) (xs' := (applyZ τ zx y subs).2.1.flatMap evC) (by (repeat' constructor)) (by (rw [hz]; try rfl)) (by (rw [hz]; try rfl)) ?_
   exact G.done (l := [.tmp 4, .tmp 5]) rfl rfl ⟨_, _, rfl, by rw [hz], ⟨_, _, by (rw [hz]; try rfl)⟩, rfl⟩ (by (repeat' constructor)) (by (repeat' constructor))
 ·refine G.seq (G.seq (G.region ?_))
  rcases Decidable.em (y.kind = 6) with hk6 | hk6
  ·refine G.q (Quiet.as (v' := .bool true) (by exact congrArg Value.bool (decide_eq_true hk6)) (Quiet.int rfl rfl rfl)) rfl ?_
   refine G.q (Quiet.assign rfl) rfl (G.nil (G.then_n (G.condT rfl (G.skip (G.then_n (G.condT rfl (G.seq (G.seq (G.region (G.q (Quiet.assign rfl) rfl (G.nil (G.then_n (G.block (G.add (slR_nil 75 3) ?_))))))))))))))
   refine G.rfCast (x := x) (τ' := (partsZ τ zx ((subs.take 0).filter isDel)).1) (by (repeat' constructor)) (by rw [List.take_zero]; rfl) ?_
   refine G.slCast (T := 75) (sz := 3) (m' := (partsZ τ zx ((subs.take 0).filter isDel)).2.length) (xs' := (partsZ τ zx ((subs.take 0).filter isDel)).2.flatMap evC) (by (repeat' constructor)) (by rw [List.take_zero]; rfl) (by rw [List.take_zero]; rfl) ?_
   refine G.loopK (ι := Nat × Value) (fun q E => (9, vint q.1) :: (7, q.2) :: E) (fun q => [refR x (partsZ τ zx ((subs.take q.1).filter isDel)).1, slR 75 3 q.2 (partsZ τ zx ((subs.take q.1).filter isDel)).2.length ((partsZ τ zx ((subs.take q.1).filter isDel)).2.flatMap evC)]) (fun q => q.1 ≤ subs.length ∧ ∃ a c, q.2 = .slice a (partsZ τ zx ((subs.take q.1).filter isDel)).2.length c) (fun q => subs.length - q.1) (0, .slice none 0 0) (ts := [0, 3, 4, 5, 6, 8]) (.cons rfl (.cons rfl (.cons rfl (.cons rfl (.cons rfl (.cons rfl (.nil))))))) (⟨Nat.zero_le _, none, 0, by rw [List.take_zero]; rfl⟩) ⟨rfl, rfl, rfl, rfl, rfl, rfl, rfl, rfl, trivial⟩ (by (repeat' constructor)) ?_
   rintro ⟨i, u⟩ ⟨hi, au, cu, hu⟩
   dsimp only
   dsimp only at hi hu
   subst hu
   have hev := parts_ev τ zx ((subs.take i).filter isDel)
   have hfl := List.length_filter_le isDel (subs.take i)
   rw [List.length_take] at hfl
   have hok : (partsZ τ zx ((subs.take i).filter isDel)).1.Ok (N + subs.length) := (ho.parts zx _ (fun w hw => (hx.each w (List.mem_of_mem_take (List.mem_filter.1 hw).1)).few)).more (by omega)
   refine G.seq (G.seq (G.region (G.q (Quiet.move rfl) rfl (G.q (Quiet.fieldAddr rfl fo_37_7) rfl ?_))))
   refine G.q (Quiet.as (v' := .slice asb subs.length csb) (by exact esub) (Quiet.load rfl ag_35 (by (repeat' constructor)) (rfl))) rfl ?_
   refine G.q (Quiet.slen rfl Tryz.underlying35 rfl) rfl (G.q (Quiet.int rfl rfl rfl) rfl (G.nil (G.then_n ?_)))
   refine G.condD rfl (fun h41 => ?_) (fun h41 => ?_)
   ·have hi2 : i < subs.length := by omega
    refine G.rdShape (p := p) hrd (by (repeat' constructor)) (by omega) fun bs os e1 => ?_
    subst e1
    have hys := hx.each _ (List.getElem_mem hi2)
    refine G.skip (G.then_n (G.seq (G.block (G.seq (G.region (G.q (Quiet.fieldAddr rfl fo_37_0) rfl ?_))))))
    refine G.q (Quiet.load rfl ag_3 (by (repeat' constructor)) (rfl)) rfl ?_
    refine G.q (Quiet.as (v' := .bool false) (by exact congrArg Value.bool (decide_eq_false (by omega))) (Quiet.int rfl rfl rfl)) rfl ?_
    refine G.q (Quiet.move rfl) rfl (G.grun (t := 47) rfl rfl rfl (G.q (Quiet.fieldAddr rfl fo_37_7) rfl (G.grun (t := 47) rfl rfl rfl ?_)))
    refine G.q (Quiet.as (v' := .slice (some ⟨bs, os, none⟩) subs.length csb) (by exact esub) (Quiet.load rfl ag_35 (by (repeat' constructor)) (rfl))) rfl ?_
    refine G.grun (t := 47) rfl rfl rfl (G.q (Quiet.move rfl) rfl (G.grun (t := 47) rfl rfl rfl ?_))
    refine G.q (Quiet.indexAddr rfl rfl el_35 (by omega)) rfl ?_
    refine G.grun (t := 47) rfl rfl rfl (G.q (Quiet.fieldAddr rfl fo_37_0) rfl (G.grun (t := 47) rfl rfl rfl ?_))
    refine G.q (Quiet.loadRd (sz := 8) (j := i * 8 + 0) (p := p) rfl ag_3 (by (repeat' constructor)) hrd (by omega) ((flatMap_cell (f := ptC) (sz := 8) (l := subs) (i := i) (k := 0) (fun _ _ => rfl) (by omega) (by decide)).trans rfl)) rfl ?_
    refine G.grun (t := 47) rfl rfl rfl (G.q (Quiet.int rfl rfl rfl) rfl (G.q (Quiet.pickF rfl rfl) rfl (G.nil (G.then_n ?_))))
    refine G.condD rfl (fun h55 => ?_) (fun h55 => ?_)
    ·refine G.seq ?_
     refine G.draw [8] [[0, 1, 2, 3, 4, 5, 6, 7, 8], [9]] mixed (by kernel_rfl) ?_
     refine Phases.go [] (by (repeat' constructor)) ?_
     refine D.qw [8] rfl (by kernel_rfl) (Quiet.move rfl) ?_
     refine D.qw [2, 4, 5, 8] rfl (by kernel_rfl) (Quiet.fieldAddr rfl fo_37_7) ?_
     refine D.qw [4, 5, 8] rfl (by kernel_rfl) (Quiet.as (v' := .slice (some ⟨bs, os, none⟩) subs.length csb) (by exact esub) (Quiet.load rfl ag_35 (by (repeat' constructor)) (rfl))) ?_
     refine D.qw [4, 5, 8] rfl (by kernel_rfl) (Quiet.move rfl) ?_
     refine D.qw [5, 8] rfl (by kernel_rfl) (Quiet.indexAddr rfl rfl el_35 (by omega)) ?_
     refine D.qw [8] rfl (by kernel_rfl) (Quiet.loadRdA (sz := 8) (j := i * 8) (k := 8) (p := p) (vs := ptC subs[i]) rfl ag_37 (by (repeat' constructor)) hrd (by simp) (by omega) (by omega) (flatMap_at (f := ptC) (sz := 8) (fun _ _ => rfl) (by omega))) ?_
     refine D.qw [7, 8] rfl (by kernel_rfl) (Quiet.fieldAddr rfl fo_39_0) ?_
     refine D.qw [8] rfl (by kernel_rfl) (Quiet.load rfl ag_3 (by (repeat' constructor)) (rfl)) ?_
     refine D.h rfl (by kernel_rfl) (OpSpec.call Tryz.func60 rfl rfl (vs := [_, _, _]) rfl (rpart_spec x (partsZ τ zx ((subs.take i).filter isDel)).1 subs[i] zx p hys (N + subs.length) hok (by omega))) (by (repeat' constructor)) ?nx73
     rintro v L' ⟨a15, c15, rfl, rfl⟩
     refine D.ph ?_
     refine Phases.go [] (by (repeat' constructor)) ?_
     refine D.qw [] rfl (by kernel_rfl) (Quiet.assign rfl) ?_
     refine D.ph (Phases.fin (G.then_n (G.region (G.q (Quiet.move rfl) rfl (G.q (Quiet.move rfl) rfl ?_)))))
     refine G.op (OpSpec.append (n := (partsZ τ zx ((subs.take i).filter isDel)).2.length) (m := (partZ (partsZ τ zx ((subs.take i).filter isDel)).1 subs[i] zx).2.length) (ys := (partZ (partsZ τ zx ((subs.take i).filter isDel)).1 subs[i] zx).2.flatMap evC) (p := slR 75 3 (.slice a15 (partZ (partsZ τ zx ((subs.take i).filter isDel)).1 subs[i] zx).2.length c15) (partZ (partsZ τ zx ((subs.take i).filter isDel)).1 subs[i] zx).2.length ((partZ (partsZ τ zx ((subs.take i).filter isDel)).1 subs[i] zx).2.flatMap evC)) rfl rfl rfl el_30 (.inl ⟨_, Tryz.underlying30⟩) ze_75 rfl rfl ?hc76 ?hr77 ?hb78 (by decide)) (by (repeat' constructor)) rfl ?nx79
     case hc76 => exact evC_cells _
     case hr77 => exact fun h hp => slR_rd hp
     case hb78 => have := part_ev (partsZ τ zx ((subs.take i).filter isDel)).1 subs[i] zx; omega
     rintro v L' ⟨⟨a16_2, c16_2, rfl⟩, rfl⟩
     refine G.q (Quiet.assign rfl) rfl (G.nil (G.blk_n (G.then_n (G.region (G.q (Quiet.move rfl) rfl ?_)))))
     refine G.q (Quiet.add rfl rfl (by omega)) rfl ?_
     refine G.q (Quiet.assign rfl) rfl (G.nil (G.then_n ?_))
     have hst := filter_take_yes (f := isDel) hi2 (by unfold isDel; rw [decide_eq_true h55])
     refine G.rfCast (x := x) (τ' := (partsZ τ zx ((subs.take (i + 1)).filter isDel)).1) (by (repeat' constructor)) (by rw [hst, parts_snoc]) ?_
     refine G.slCast (T := 75) (sz := 3) (m' := (partsZ τ zx ((subs.take (i + 1)).filter isDel)).2.length) (xs' := (partsZ τ zx ((subs.take (i + 1)).filter isDel)).2.flatMap evC) (by (repeat' constructor)) (by rw [hst, parts_snoc]; simp) (by rw [hst, parts_snoc]; simp) ?_
     exact G.roundK ((i + 1, .slice a16_2 ((partsZ τ zx ((subs.take i).filter isDel)).2.length + (partZ (partsZ τ zx ((subs.take i).filter isDel)).1 subs[i] zx).2.length) c16_2)) (⟨by dsimp only; omega, _, _, by rw [hst, parts_snoc, List.length_append]⟩) (by dsimp only; omega) ⟨rfl, rfl, rfl, rfl, rfl, rfl, rfl, rfl, trivial⟩ (by (repeat' constructor)) (by ((repeat (apply Have.cons; (repeat (first | exact Pick.here | apply Pick.there)))); apply Have.base; repeat' constructor))
    ·refine G.skip (G.blk_n (G.then_n (G.region (G.q (Quiet.move rfl) rfl ?_))))
     refine G.q (Quiet.add rfl rfl (by omega)) rfl ?_
     refine G.q (Quiet.assign rfl) rfl (G.nil (G.then_n ?_))
     have hst := filter_take_no (f := isDel) hi2 (by unfold isDel; rw [decide_eq_false h55])
     refine G.rfCast (x := x) (τ' := (partsZ τ zx ((subs.take (i + 1)).filter isDel)).1) (by (repeat' constructor)) (by rw [hst]) ?_
     refine G.slCast (T := 75) (sz := 3) (m' := (partsZ τ zx ((subs.take (i + 1)).filter isDel)).2.length) (xs' := (partsZ τ zx ((subs.take (i + 1)).filter isDel)).2.flatMap evC) (by (repeat' constructor)) (by rw [hst]) (by rw [hst]) ?_
     exact G.roundK ((i + 1, .slice au (partsZ τ zx ((subs.take i).filter isDel)).2.length cu)) (⟨by dsimp only; omega, _, _, by rw [hst]⟩) (by dsimp only; omega) ⟨rfl, rfl, rfl, rfl, rfl, rfl, rfl, rfl, trivial⟩ (by (repeat' constructor)) (by ((repeat (apply Have.cons; (repeat (first | exact Pick.here | apply Pick.there)))); apply Have.base; repeat' constructor))
   ·have hii : i = subs.length := by omega
    rw [hii, List.take_length]
    refine G.exit (G.then_e (G.then_e (G.blk_e (G.then_n (G.seq (G.region (G.q (Quiet.fieldAddr rfl fo_37_0) rfl ?_)))))))
    refine G.q (Quiet.load rfl ag_3 (by (repeat' constructor)) (rfl)) rfl ?_
    refine G.q (Quiet.as (v' := .bool true) (by exact congrArg Value.bool (decide_eq_true hk6)) (Quiet.int rfl rfl rfl)) rfl ?_
    refine G.nil (G.then_n (G.condT rfl (G.region (G.q (Quiet.move rfl) rfl (G.q (Quiet.fieldAddr rfl fo_37_4) rfl ?_)))))
    refine G.q (Quiet.load rfl ag_3 (by (repeat' constructor)) (rfl)) rfl ?_
    refine G.op (OpSpec.call Tryz.func61 rfl rfl (vs := [_, _]) rfl (rdrop_spec x (partsZ τ zx (subs.filter isDel)).1 y.own (by have := (ho.parts zx (subs.filter isDel) (fun w hw => (hx.each w (List.mem_filter.1 hw).1).few)).sfew; have := List.length_filter_le isDel subs; omega))) (by (repeat' constructor)) rfl ?nx91
    rintro v L' ⟨rfl, rfl⟩
    refine G.nil (G.blk_n (G.then_n (G.seq ?_)))
    have hz : (applyZ τ zx y subs) = (zxT (dropS (partsZ τ zx (subs.filter isDel)).1 y.own) zx, ((partsZ τ zx (subs.filter isDel)).2, 0)) := by rw [apply_zx]; unfold applyZ0; rw [if_neg h20, if_pos hk6]
    refine G.rfOpen (x := x) (τ := (dropS (partsZ τ zx (subs.filter isDel)).1 y.own)) (by (repeat' constructor)) fun an cn as1 cs l hl => ?_
    refine G.region (G.q (Quiet.move rfl) rfl (G.q (Quiet.fieldAddr rfl fo_39_0) rfl ?_))
    refine G.q (Quiet.load rfl ag_3 (by (repeat' constructor)) (rfl)) rfl ?_
    refine G.q (Quiet.nilp rfl) rfl (G.q (Quiet.fieldAddr rfl fo_101_2) rfl ?_)
    refine G.op (OpSpec.store rfl rfl rfl sz_3 ?c98 ?c99) (by (repeat' constructor)) rfl ?nx100
    case c98 => first | decide | (simp; omega) | simp
    case c99 => exact nfz0 _ _
    rintro v L' rfl
    refine G.nil ?_
    refine G.rfFold (x := x) (τ := (zxT (dropS (partsZ τ zx (subs.filter isDel)).1 y.own) zx)) (l := l) hl (by (repeat' constructor)) rfl rfl rfl rfl rfl ?_
    refine G.then_n (G.seq (G.region (G.q (Quiet.move rfl) rfl (G.q (Quiet.move rfl) rfl (G.q (Quiet.assign rfl) rfl (G.q (Quiet.assign rfl) rfl (G.nil (G.then_n (G.ret ?_)))))))))
    refine G.rfCast (x := x) (τ' := (applyZ τ zx y subs).1) (by (repeat' constructor)) (by rw [hz]) ?_
    refine G.slCast (T := 75) (sz := 3) (m' := (applyZ τ zx y subs).2.1.length) (xs' := (applyZ τ zx y subs).2.1.flatMap evC) (by (repeat' constructor)) (by (rw [hz]; try rfl)) (by (rw [hz]; try rfl)) ?_
    exact G.done (l := [.tmp 4, .tmp 5]) rfl rfl ⟨_, _, rfl, by rw [hz], ⟨_, _, by (rw [hz]; try rfl)⟩, rfl⟩ (by (repeat' constructor)) (by (repeat' constructor))
  ·refine G.q (Quiet.as (v' := .bool false) (by exact congrArg Value.bool (decide_eq_false hk6)) (Quiet.int rfl rfl rfl)) rfl ?_
   refine G.q (Quiet.assign rfl) rfl (G.nil (G.then_n (G.condF rfl (G.region ?_))))
   rcases Decidable.em (y.kind = 7) with hk7 | hk7
   ·refine G.q (Quiet.as (v' := .bool true) (by exact congrArg Value.bool (decide_eq_true hk7)) (Quiet.int rfl rfl rfl)) rfl ?_
    refine G.q (Quiet.assign rfl) rfl (G.nil (G.then_n (G.condT rfl (G.seq (G.seq (G.region (G.q (Quiet.assign rfl) rfl (G.nil (G.then_n (G.block (G.add (slR_nil 75 3) ?_)))))))))))
    refine G.rfCast (x := x) (τ' := (partsZ τ zx (subs.take 0)).1) (by (repeat' constructor)) (by rw [List.take_zero]; rfl) ?_
    refine G.slCast (T := 75) (sz := 3) (m' := (partsZ τ zx (subs.take 0)).2.length) (xs' := (partsZ τ zx (subs.take 0)).2.flatMap evC) (by (repeat' constructor)) (by rw [List.take_zero]; rfl) (by rw [List.take_zero]; rfl) ?_
    refine G.loopK (ι := Nat × Value) (fun q E => (9, vint q.1) :: (7, q.2) :: E) (fun q => [refR x (partsZ τ zx (subs.take q.1)).1, slR 75 3 q.2 (partsZ τ zx (subs.take q.1)).2.length ((partsZ τ zx (subs.take q.1)).2.flatMap evC)]) (fun q => q.1 ≤ subs.length ∧ ∃ a c, q.2 = .slice a (partsZ τ zx (subs.take q.1)).2.length c) (fun q => subs.length - q.1) (0, .slice none 0 0) (ts := [0, 3, 4, 5, 6, 8]) (.cons rfl (.cons rfl (.cons rfl (.cons rfl (.cons rfl (.cons rfl (.nil))))))) (⟨Nat.zero_le _, none, 0, by rw [List.take_zero]; rfl⟩) ⟨rfl, rfl, rfl, rfl, rfl, rfl, rfl, rfl, trivial⟩ (by (repeat' constructor)) ?_
    rintro ⟨i, u⟩ ⟨hi, au, cu, hu⟩
    dsimp only
    dsimp only at hi hu
    subst hu
    have hev := parts_ev τ zx (subs.take i)
    have hfl := List.length_take_le i subs
    have hok : (partsZ τ zx (subs.take i)).1.Ok (N + subs.length) := (ho.parts zx _ (fun w hw => (hx.each w (List.mem_of_mem_take hw)).few)).more (by rw [List.length_take]; omega)
    refine G.seq (G.seq (G.region (G.q (Quiet.move rfl) rfl (G.q (Quiet.fieldAddr rfl fo_37_7) rfl ?_))))
    refine G.q (Quiet.as (v' := .slice asb subs.length csb) (by exact esub) (Quiet.load rfl ag_35 (by (repeat' constructor)) (rfl))) rfl ?_
    refine G.q (Quiet.slen rfl Tryz.underlying35 rfl) rfl (G.q (Quiet.int rfl rfl rfl) rfl (G.nil (G.then_n ?_)))
    refine G.condD rfl (fun h41 => ?_) (fun h41 => ?_)
    ·have hi2 : i < subs.length := by omega
     refine G.rdShape (p := p) hrd (by (repeat' constructor)) (by omega) fun bs os e1 => ?_
     subst e1
     have hys := hx.each _ (List.getElem_mem hi2)
     refine G.skip (G.then_n (G.seq (G.block (G.seq (G.region (G.q (Quiet.fieldAddr rfl fo_37_0) rfl ?_))))))
     refine G.q (Quiet.load rfl ag_3 (by (repeat' constructor)) (rfl)) rfl ?_
     refine G.q (Quiet.as (v' := .bool true) (by exact congrArg Value.bool (decide_eq_true hk7)) (Quiet.int rfl rfl rfl)) rfl ?_
     refine G.q (Quiet.move rfl) rfl (G.gskip (t := 47) rfl rfl rfl rfl (G.gskip (t := 47) rfl rfl rfl rfl (G.gskip (t := 47) rfl rfl rfl rfl (G.gskip (t := 47) rfl rfl rfl rfl (G.gskip (t := 47) rfl rfl rfl rfl (G.gskip (t := 47) rfl rfl rfl rfl (G.gskip (t := 47) rfl rfl rfl rfl (G.q (Quiet.pickT rfl rfl) rfl (G.nil (G.then_n (G.condT rfl (G.seq ?_))))))))))))
     refine G.draw [8] [[0, 1, 2, 3, 4, 5, 6, 7, 8], [9]] mixed (by kernel_rfl) ?_
     refine Phases.go [] (by (repeat' constructor)) ?_
     refine D.qw [8] rfl (by kernel_rfl) (Quiet.move rfl) ?_
     refine D.qw [2, 4, 5, 8] rfl (by kernel_rfl) (Quiet.fieldAddr rfl fo_37_7) ?_
     refine D.qw [4, 5, 8] rfl (by kernel_rfl) (Quiet.as (v' := .slice (some ⟨bs, os, none⟩) subs.length csb) (by exact esub) (Quiet.load rfl ag_35 (by (repeat' constructor)) (rfl))) ?_
     refine D.qw [4, 5, 8] rfl (by kernel_rfl) (Quiet.move rfl) ?_
     refine D.qw [5, 8] rfl (by kernel_rfl) (Quiet.indexAddr rfl rfl el_35 (by omega)) ?_
     refine D.qw [8] rfl (by kernel_rfl) (Quiet.loadRdA (sz := 8) (j := i * 8) (k := 8) (p := p) (vs := ptC subs[i]) rfl ag_37 (by (repeat' constructor)) hrd (by simp) (by omega) (by omega) (flatMap_at (f := ptC) (sz := 8) (fun _ _ => rfl) (by omega))) ?_
     refine D.qw [7, 8] rfl (by kernel_rfl) (Quiet.fieldAddr rfl fo_39_0) ?_
     refine D.qw [8] rfl (by kernel_rfl) (Quiet.load rfl ag_3 (by (repeat' constructor)) (rfl)) ?_
     refine D.h rfl (by kernel_rfl) (OpSpec.call Tryz.func60 rfl rfl (vs := [_, _, _]) rfl (rpart_spec x (partsZ τ zx (subs.take i)).1 subs[i] zx p hys (N + subs.length) hok (by omega))) (by (repeat' constructor)) ?nx123
     rintro v L' ⟨a15, c15, rfl, rfl⟩
     refine D.ph ?_
     refine Phases.go [] (by (repeat' constructor)) ?_
     refine D.qw [] rfl (by kernel_rfl) (Quiet.assign rfl) ?_
     refine D.ph (Phases.fin (G.then_n (G.region (G.q (Quiet.move rfl) rfl (G.q (Quiet.move rfl) rfl ?_)))))
     refine G.op (OpSpec.append (n := (partsZ τ zx (subs.take i)).2.length) (m := (partZ (partsZ τ zx (subs.take i)).1 subs[i] zx).2.length) (ys := (partZ (partsZ τ zx (subs.take i)).1 subs[i] zx).2.flatMap evC) (p := slR 75 3 (.slice a15 (partZ (partsZ τ zx (subs.take i)).1 subs[i] zx).2.length c15) (partZ (partsZ τ zx (subs.take i)).1 subs[i] zx).2.length ((partZ (partsZ τ zx (subs.take i)).1 subs[i] zx).2.flatMap evC)) rfl rfl rfl el_30 (.inl ⟨_, Tryz.underlying30⟩) ze_75 rfl rfl ?hc126 ?hr127 ?hb128 (by decide)) (by (repeat' constructor)) rfl ?nx129
     case hc126 => exact evC_cells _
     case hr127 => exact fun h hp => slR_rd hp
     case hb128 => have := part_ev (partsZ τ zx (subs.take i)).1 subs[i] zx; omega
     rintro v L' ⟨⟨a16_2, c16_2, rfl⟩, rfl⟩
     refine G.q (Quiet.assign rfl) rfl (G.nil (G.blk_n (G.then_n (G.region (G.q (Quiet.move rfl) rfl ?_)))))
     refine G.q (Quiet.add rfl rfl (by omega)) rfl ?_
     refine G.q (Quiet.assign rfl) rfl (G.nil (G.then_n ?_))
     have hst := List.take_succ_eq_append_getElem hi2
     refine G.rfCast (x := x) (τ' := (partsZ τ zx (subs.take (i + 1))).1) (by (repeat' constructor)) (by rw [hst, parts_snoc]) ?_
     refine G.slCast (T := 75) (sz := 3) (m' := (partsZ τ zx (subs.take (i + 1))).2.length) (xs' := (partsZ τ zx (subs.take (i + 1))).2.flatMap evC) (by (repeat' constructor)) (by rw [hst, parts_snoc]; simp) (by rw [hst, parts_snoc]; simp) ?_
     exact G.roundK ((i + 1, .slice a16_2 ((partsZ τ zx (subs.take i)).2.length + (partZ (partsZ τ zx (subs.take i)).1 subs[i] zx).2.length) c16_2)) (⟨by dsimp only; omega, _, _, by rw [hst, parts_snoc, List.length_append]⟩) (by dsimp only; omega) ⟨rfl, rfl, rfl, rfl, rfl, rfl, rfl, rfl, trivial⟩ (by (repeat' constructor)) (by ((repeat (apply Have.cons; (repeat (first | exact Pick.here | apply Pick.there)))); apply Have.base; repeat' constructor))
    ·have hii : i = subs.length := by omega
     rw [hii, List.take_length]
     refine G.exit (G.then_e (G.then_e (G.blk_e (G.then_n (G.seq (G.region (G.q (Quiet.fieldAddr rfl fo_37_0) rfl ?_)))))))
     refine G.q (Quiet.load rfl ag_3 (by (repeat' constructor)) (rfl)) rfl ?_
     refine G.q (Quiet.as (v' := .bool false) (by exact congrArg Value.bool (decide_eq_false (by omega))) (Quiet.int rfl rfl rfl)) rfl ?_
     refine G.nil (G.then_n (G.condF rfl (G.skip (G.blk_n (G.then_n (G.seq ?_))))))
     have hz : (applyZ τ zx y subs) = (zxT ((partsZ τ zx subs).1) zx, ((partsZ τ zx subs).2, 0)) := by rw [apply_zx]; unfold applyZ0; rw [if_neg h20, if_neg hk6, if_pos hk7]
     refine G.rfOpen (x := x) (τ := ((partsZ τ zx subs).1)) (by (repeat' constructor)) fun an cn as1 cs l hl => ?_
     refine G.region (G.q (Quiet.move rfl) rfl (G.q (Quiet.fieldAddr rfl fo_39_0) rfl ?_))
     refine G.q (Quiet.load rfl ag_3 (by (repeat' constructor)) (rfl)) rfl ?_
     refine G.q (Quiet.nilp rfl) rfl (G.q (Quiet.fieldAddr rfl fo_101_2) rfl ?_)
     refine G.op (OpSpec.store rfl rfl rfl sz_3 ?c141 ?c142) (by (repeat' constructor)) rfl ?nx143
     case c141 => first | decide | (simp; omega) | simp
     case c142 => exact nfz0 _ _
     rintro v L' rfl
     refine G.nil ?_
     refine G.rfFold (x := x) (τ := (zxT ((partsZ τ zx subs).1) zx)) (l := l) hl (by (repeat' constructor)) rfl rfl rfl rfl rfl ?_
     refine G.then_n (G.seq (G.region (G.q (Quiet.move rfl) rfl (G.q (Quiet.move rfl) rfl (G.q (Quiet.assign rfl) rfl (G.q (Quiet.assign rfl) rfl (G.nil (G.then_n (G.ret ?_)))))))))
     refine G.rfCast (x := x) (τ' := (applyZ τ zx y subs).1) (by (repeat' constructor)) (by rw [hz]) ?_
     refine G.slCast (T := 75) (sz := 3) (m' := (applyZ τ zx y subs).2.1.length) (xs' := (applyZ τ zx y subs).2.1.flatMap evC) (by (repeat' constructor)) (by (rw [hz]; try rfl)) (by (rw [hz]; try rfl)) ?_
     exact G.done (l := [.tmp 4, .tmp 5]) rfl rfl ⟨_, _, rfl, by rw [hz], ⟨_, _, by (rw [hz]; try rfl)⟩, rfl⟩ (by (repeat' constructor)) (by (repeat' constructor))
   ·refine G.q (Quiet.as (v' := .bool false) (by exact congrArg Value.bool (decide_eq_false hk7)) (Quiet.int rfl rfl rfl)) rfl ?_
    refine G.q (Quiet.assign rfl) rfl (G.nil (G.then_n (G.condF rfl (G.seq (G.region (G.q (Quiet.int rfl rfl rfl) rfl (G.q (Quiet.assign rfl) rfl (G.nil (G.then_n ?_)))))))))
    refine G.condD rfl (fun h75 => ?_) (fun h75 => ?_)
    ·refine G.region (G.q (Quiet.fieldAddr rfl fo_37_6) rfl ?_)
     refine G.q (Quiet.load rfl ag_31 (by (repeat' constructor)) (rfl)) rfl ?_
     refine G.q (Quiet.assign rfl) rfl (G.nil (G.blk_n (G.then_n (G.seq (G.add (slR_nil 75 3) ?_)))))
     have hz : (applyZ τ zx y subs) = (zxT (τ) zx, ([], y.err)) := by rw [apply_zx]; unfold applyZ0; rw [if_neg h20, if_neg hk6, if_neg hk7, if_pos h75]
     refine G.rfOpen (x := x) (τ := (τ)) (by (repeat' constructor)) fun an cn as1 cs l hl => ?_
     refine G.region (G.q (Quiet.move rfl) rfl (G.q (Quiet.fieldAddr rfl fo_39_0) rfl ?_))
     refine G.q (Quiet.load rfl ag_3 (by (repeat' constructor)) (rfl)) rfl ?_
     refine G.q (Quiet.nilp rfl) rfl (G.q (Quiet.fieldAddr rfl fo_101_2) rfl ?_)
     refine G.op (OpSpec.store rfl rfl rfl sz_3 ?c155 ?c156) (by (repeat' constructor)) rfl ?nx157
     case c155 => first | decide | (simp; omega) | simp
     case c156 => exact nfz0 _ _
     rintro v L' rfl
     refine G.nil ?_
     refine G.rfFold (x := x) (τ := (zxT (τ) zx)) (l := l) hl (by (repeat' constructor)) rfl rfl rfl rfl rfl ?_
     refine G.then_n (G.seq (G.region (G.q (Quiet.move rfl) rfl (G.q (Quiet.move rfl) rfl (G.q (Quiet.assign rfl) rfl (G.q (Quiet.assign rfl) rfl (G.nil (G.then_n (G.ret ?_)))))))))
     refine G.rfCast (x := x) (τ' := (applyZ τ zx y subs).1) (by (repeat' constructor)) (by rw [hz]) ?_
     refine G.slCast (T := 75) (sz := 3) (m' := (applyZ τ zx y subs).2.1.length) (xs' := (applyZ τ zx y subs).2.1.flatMap evC) (by (repeat' constructor)) (by (rw [hz]; try rfl)) (by (rw [hz]; try rfl)) ?_
     exact G.done (l := [.tmp 4, .tmp 5]) rfl rfl ⟨_, _, rfl, by rw [hz], ⟨_, _, by (rw [hz]; try rfl)⟩, rfl⟩ (by (repeat' constructor)) (by (repeat' constructor))
    ·refine G.region (G.q (Quiet.move rfl) rfl ?_)
     refine G.q (Quiet.loadAs (vs := ptC y) rfl ag_37 (by (repeat' constructor)) (by simp [ptC]) rfl) rfl ?_
     refine G.q (Quiet.fieldAddr rfl fo_39_0) rfl ?_
     refine G.q (Quiet.load rfl ag_3 (by (repeat' constructor)) (rfl)) rfl ?_
     refine G.op (OpSpec.call Tryz.func60 rfl rfl (vs := [_, _, _]) rfl (rpart_spec x τ y zx p hx.own N ho (by omega))) (by (repeat' constructor)) rfl ?nx162
     rintro v L' ⟨a5, c5, rfl, rfl⟩
     refine G.q (Quiet.assign rfl) rfl (G.nil (G.blk_n (G.then_n (G.seq ?_))))
     have hz : (applyZ τ zx y subs) = (zxT ((partZ τ y zx).1) zx, ((partZ τ y zx).2, 0)) := by rw [apply_zx]; unfold applyZ0; rw [if_neg h20, if_neg hk6, if_neg hk7, if_neg h75]
     refine G.rfOpen (x := x) (τ := ((partZ τ y zx).1)) (by (repeat' constructor)) fun an cn as1 cs l hl => ?_
     refine G.region (G.q (Quiet.move rfl) rfl (G.q (Quiet.fieldAddr rfl fo_39_0) rfl ?_))
     refine G.q (Quiet.load rfl ag_3 (by (repeat' constructor)) (rfl)) rfl ?_
     refine G.q (Quiet.nilp rfl) rfl (G.q (Quiet.fieldAddr rfl fo_101_2) rfl ?_)
     refine G.op (OpSpec.store rfl rfl rfl sz_3 ?c169 ?c170) (by (repeat' constructor)) rfl ?nx171
     case c169 => first | decide | (simp; omega) | simp
     case c170 => exact nfz0 _ _
     rintro v L' rfl
     refine G.nil ?_
     refine G.rfFold (x := x) (τ := (zxT ((partZ τ y zx).1) zx)) (l := l) hl (by (repeat' constructor)) rfl rfl rfl rfl rfl ?_
     refine G.then_n (G.seq (G.region (G.q (Quiet.move rfl) rfl (G.q (Quiet.move rfl) rfl (G.q (Quiet.assign rfl) rfl (G.q (Quiet.assign rfl) rfl (G.nil (G.then_n (G.ret ?_)))))))))
     refine G.rfCast (x := x) (τ' := (applyZ τ zx y subs).1) (by (repeat' constructor)) (by rw [hz]) ?_
     refine G.slCast (T := 75) (sz := 3) (m' := (applyZ τ zx y subs).2.1.length) (xs' := (applyZ τ zx y subs).2.1.flatMap evC) (by (repeat' constructor)) (by (rw [hz]; try rfl)) (by (rw [hz]; try rfl)) ?_
     exact G.done (l := [.tmp 4, .tmp 5]) rfl rfl ⟨_, _, rfl, by rw [hz], ⟨_, _, by (rw [hz]; try rfl)⟩, rfl⟩ (by (repeat' constructor)) (by (repeat' constructor))

end Go.Proofs.YtnnbelmpbmfdnaaGreatDoor

/- Own work, by program: law 07: transactions of a sound history: walked. -/
namespace Go.Proofs.YtnnbelmpbmfdnaaGreatDoor
open Go
set_option maxHeartbeats 1000000 in
set_option maxRecDepth 100000 in
theorem txn7_spec (x : Nat) (τ : Tr) (a : Ac0) (q : HP) (ss : List Ac0) (zx K : Int) (hinv : HInv τ K) (hK : K ≤ 1099511620000) (ha : IntsOk a) (hd : a.2.2.2.1.length ≤ 100) (hq : Acts0 q a.2.2.2.2 ss) (hsm : Smalls ss) : Fn Tryz.prog 43 #[vptr x, .agg (ac0C a).toArray, vint zx] [refR x τ, q] fun v L => ∃ (y : Pt) (subs : List Pt), v = .agg (ptC y).toArray ∧ ShapeH τ zx y subs K ∧ TxC y subs ∧ L = [refR x τ, q, txRd y subs] := by
 refine Fn.intro (vs := [vptr x, .agg (ac0C a).toArray, vint zx]) Tryz.func43 rfl rfl ?_
 intro F W
 refine G.rdAny (p := q) hq.cells (by (repeat' constructor)) fun ab cb eab _ => ?_
 have hrd := hq.cells
 rw [eab] at hrd
 have hfew := hinv.ok.few
 have hsf := hinv.ok.sfew
 have hs6 := hsm.few
 have hca : isCell a.2.2.2.2 = true := by rw [eab]; rfl
 have hp5 := pickZ_range a.2.1 (n := 5) (by decide)
 have hp50 := pickZ_range a.2.2.1 (n := 50) (by decide)
 have hp99 := pickZ_range a.2.1 (n := 99) (by decide)
 have hwl : (ownedZ τ (1 + pickZ a.2.1 5)).length ≤ 60 := Nat.le_trans (owned_len τ (1 + pickZ a.2.1 5)) hfew
 refine G.seq (G.region ?_)
 refine G.op (OpSpec.box rfl) (by (repeat' constructor)) rfl ?nx1
 rintro v L' ⟨ba, rfl, rfl⟩
 refine G.op (OpSpec.allocA ze_37) (by (repeat' constructor)) rfl ?nx3
 rintro v L' ⟨b6, rfl, rfl⟩
 refine G.nil ?_
 refine G.ptCast (b := ba) (l' := ac0C a) (by (repeat' constructor)) rfl ?_
 refine G.then_n (G.seq (G.seq (G.region (G.q (Quiet.fieldAddr rfl fo_94_0) rfl ?_))))
 refine G.q (Quiet.load rfl ag_3 (by (repeat' constructor)) (rfl)) rfl ?_
 refine G.op (OpSpec.call Tryz.func21 rfl rfl (vs := [_, _]) rfl (pick7_spec _ _ ha.h1 (by decide))) (by (repeat' constructor)) rfl ?nx7
 rintro v L' ⟨rfl, rfl⟩
 refine G.nil (G.then_n (G.block (G.seq (G.region (G.q (Quiet.int rfl rfl rfl) rfl (G.q (Quiet.assign rfl) rfl (G.nil (G.then_n ?_))))))))
 refine G.condD rfl (fun h23 => ?_) (fun h23 => ?_)
 ·refine G.seq ?_
  refine G.draw [11] [[0, 1, 2, 3, 4, 5, 6, 7, 8, 9, 10, 11]] mixed (by kernel_rfl) ?_
  refine Phases.go [ptc ba _ _] (by (repeat' constructor)) ?_
  refine D.qw [1, 2, 3, 6, 7, 10, 11] rfl (by kernel_rfl) (Quiet.fieldAddr rfl fo_94_1) ?_
  refine D.qw [2, 3, 6, 7, 10, 11] rfl (by kernel_rfl) (Quiet.load rfl ag_3 (by (repeat' constructor)) (rfl)) ?_
  refine D.m rfl (by kernel_rfl) (OpSpec.call Tryz.func21 rfl rfl (vs := [_, _]) rfl (pick7_spec _ _ ha.h2 (by decide))) (by (repeat' constructor)) ?nx12
  refine D.qw [10, 11] rfl (by kernel_rfl) (Quiet.add rfl rfl (by omega)) ?_
  refine D.qw [5, 6, 7, 10, 11] rfl (by kernel_rfl) (Quiet.fieldAddr rfl fo_94_2) ?_
  refine D.qw [6, 7, 10, 11] rfl (by kernel_rfl) (Quiet.load rfl ag_3 (by (repeat' constructor)) (rfl)) ?_
  refine D.m rfl (by kernel_rfl) (OpSpec.call Tryz.func21 rfl rfl (vs := [_, _]) rfl (pick7_spec _ _ ha.h3 (by decide))) (by (repeat' constructor)) ?nx17
  refine D.qw [10, 11] rfl (by kernel_rfl) (Quiet.add rfl rfl (by omega)) ?_
  refine D.qw [9, 10, 11] rfl (by kernel_rfl) (Quiet.fieldAddr rfl fo_94_3) ?_
  refine D.qw [10, 11] rfl (by kernel_rfl) (Quiet.load rfl ag_9 (by (repeat' constructor)) (rfl)) ?_
  refine D.qw [11] rfl (by kernel_rfl) (Quiet.to (v' := .agg (ptC (⟨5, [], a.2.2.2.1, .slice none 0 0, [], (1 + pickZ a.2.1 5), 4 + pickZ a.2.2.1 50, 0, .slice none 0 0⟩ : Pt)).toArray) (Quiet.build (us := [(0, _), (4, _), (5, _), (2, _)]) fl_37 ze_37 rfl rfl (by simp [isCell])) rfl) ?_
  refine D.h rfl (by kernel_rfl) (OpSpec.storeA rfl rfl ?c23 sz_37 ?c26 ?c24 ?c25) (by (repeat' constructor)) ?nx27
  case c23 => exact pt_cells rfl rfl
  case c26 => rfl
  case c24 => simp [ptC]
  case c25 => exact nfz0 _ _
  rintro v L' rfl
  refine D.ph (Phases.fin (G.then_n (G.ret (G.blk_r (G.then_r ?_)))))
  refine G.ptCast (b := b6) (l' := ptC (⟨5, [], a.2.2.2.1, .slice none 0 0, [], (1 + pickZ a.2.1 5), 4 + pickZ a.2.2.1 50, 0, .slice none 0 0⟩ : Pt)) (by (repeat' constructor)) rfl ?_
  refine G.add (p := txRd (⟨5, [], a.2.2.2.1, .slice none 0 0, [], (1 + pickZ a.2.1 5), 4 + pickZ a.2.2.1 50, 0, .slice none 0 0⟩ : Pt) []) (txRd_none rfl rfl rfl) ?_
  exact G.done1 rfl (.cellA rfl ag_37 (by (repeat' constructor)) (by simp [ptC]) rfl) ⟨(⟨5, [], a.2.2.2.1, .slice none 0 0, [], (1 + pickZ a.2.1 5), 4 + pickZ a.2.2.1 50, 0, .slice none 0 0⟩ : Pt), [], rfl, .opens rfl rfl ⟨by show 1 ≤ (1 + pickZ a.2.1 5); omega, by show (1 + pickZ a.2.1 5) ≤ 5; omega⟩ ⟨by show 4 ≤ 4 + pickZ a.2.2.1 50; omega, by show 4 + pickZ a.2.2.1 50 ≤ 53; omega⟩ hd rfl rfl, ⟨rfl, rfl, (fun w hw => by cases hw)⟩, rfl⟩ (by (repeat' constructor)) (by (repeat' constructor))
 ·refine G.seq (G.region (G.q (Quiet.int rfl rfl rfl) rfl (G.q (Quiet.assign rfl) rfl (G.nil (G.then_n ?_)))))
  refine G.condD rfl (fun h36 => ?_) (fun h36 => ?_)
  ·refine G.seq (G.region (G.q (Quiet.fieldAddr rfl fo_94_1) rfl ?_))
   refine G.q (Quiet.load rfl ag_3 (by (repeat' constructor)) (rfl)) rfl ?_
   refine G.op (OpSpec.call Tryz.func21 rfl rfl (vs := [_, _]) rfl (pick7_spec _ _ ha.h2 (by decide))) (by (repeat' constructor)) rfl ?nx31
   rintro v L' ⟨rfl, rfl⟩
   refine G.q (Quiet.add rfl rfl (by omega)) rfl ?_
   refine G.q (Quiet.to (v' := .agg (ptC (⟨6, [], [], .slice none 0 0, [], (1 + pickZ a.2.1 5), 0, 0, (.slice none 0 0)⟩ : Pt)).toArray) (Quiet.build (us := [(0, _), (4, _)]) fl_37 ze_37 rfl rfl (by simp [isCell])) rfl) rfl ?_
   refine G.op (OpSpec.allocA ze_37) (by (repeat' constructor)) rfl ?nx35
   rintro v L' ⟨bT, rfl, rfl⟩
   refine G.op (OpSpec.storeA rfl rfl ?c37 sz_37 ?c40 ?c38 ?c39) (by (repeat' constructor)) rfl ?nx41
   case c37 => exact pt_cells rfl rfl
   case c40 => rfl
   case c38 => simp [ptC]
   case c39 => exact nfz0 _ _
   rintro v L' rfl
   refine G.nil ?_
   refine G.ptCast (b := bT) (l' := ptC (⟨6, [], [], .slice none 0 0, [], (1 + pickZ a.2.1 5), 0, 0, (.slice none 0 0)⟩ : Pt)) (by (repeat' constructor)) rfl ?_
   refine G.then_n (G.seq (G.region (G.q (Quiet.move rfl) rfl ?_)))
   refine G.op (OpSpec.call Tryz.func91 rfl rfl (vs := [_]) rfl (rclone_spec x τ 60 hinv.ok (by omega))) (by (repeat' constructor)) rfl ?nx43
   rintro v L' ⟨u, rfl, rfl⟩
   refine G.q (Quiet.assign rfl) rfl (G.nil (G.then_n (G.seq (G.region (G.q (Quiet.move rfl) rfl (G.q (Quiet.fieldAddr rfl fo_37_4) rfl ?_))))))
   refine G.q (Quiet.load rfl ag_3 (by (repeat' constructor)) (rfl)) rfl ?_
   refine G.op (OpSpec.call Tryz.func66 rfl rfl (vs := [_, _]) rfl (rowned_spec x τ (1 + pickZ a.2.1 5) 60 hinv.ok (by omega))) (by (repeat' constructor)) rfl ?nx48
   rintro v L' ⟨⟨ao, co, rfl⟩, rfl⟩
   refine G.q (Quiet.assign rfl) rfl (G.nil (G.then_n (G.seq (G.seq (G.add (slR_nil 37 8) (G.region (G.q (Quiet.move rfl) rfl (G.q (Quiet.slen rfl Tryz.underlying40 rfl) rfl ?_))))))))
   refine G.q (Quiet.sub rfl rfl (by omega)) rfl ?_
   refine G.q (Quiet.assign rfl) rfl (G.nil (G.then_n (G.block ?_)))
   refine G.rfCast (x := u) (τ' := (zxT (partsZ τ zx []).1 τ.zx)) (by (repeat' constructor)) (rfl) ?_
   refine G.loopK (ι := Nat × (List Pt) × Int × Value) (fun q E => (10, vint ((q.1 : Int) - 1)) :: E) (fun q => [ptc bT (ptC (⟨6, [], [], .slice none 0 0, [], (1 + pickZ a.2.1 5), 0, 0, q.2.2.2⟩ : Pt)) 37, refR u (zxT (partsZ τ zx q.2.1).1 q.2.2.1), slR 37 8 q.2.2.2 q.2.1.length (q.2.1.flatMap ptC)]) (fun q => DelI τ zx K (1 + pickZ a.2.1 5) q.1 q.2.1 ∧ ∃ a c, q.2.2.2 = .slice a q.2.1.length c) (fun q => q.1) ((ownedZ τ (1 + pickZ a.2.1 5)).length, [], τ.zx, .slice none 0 0) (ts := [0, 2, 4, 6, 7, 8, 9]) (.cons rfl (.cons rfl (.cons rfl (.cons rfl (.cons rfl (.cons rfl (.cons rfl (.nil)))))))) (⟨DelI.init hinv _, none, 0, rfl⟩) ⟨rfl, rfl, rfl, rfl, rfl, rfl, rfl, rfl, trivial⟩ (by (repeat' constructor)) ?_
   rintro ⟨j, acc, z, w⟩ ⟨hdel, aw, cw, hw⟩
   dsimp only
   dsimp only at hdel hw
   subst hw
   have hdl := hdel.len
   have hal : ∀ w ∈ acc, w.acl.length ≤ 1 := fun w hw => by rw [(hdel.kinds w hw).2.2.1]; simp
   have hok := parts_ok hinv.ok zx hal z
   refine G.seq (G.seq (G.region (G.q (Quiet.move rfl) rfl (G.q (Quiet.int rfl rfl rfl) rfl (G.nil (G.then_n ?_))))))
   refine G.condD rfl (fun h53 => ?_) (fun h53 => ?_)
   ·obtain ⟨k, rfl⟩ : ∃ k, j = k + 1 := ⟨j - 1, by omega⟩
    rw [show (((k + 1 : Nat) : Int) - 1) = (k : Int) by omega]
    have hk2 : k < (ownedZ τ (1 + pickZ a.2.1 5)).length := by omega
    refine G.slShape (T := 9) (sz := 1) (v := .slice ao (ownedZ τ (1 + pickZ a.2.1 5)).length co) (xs := strs (ownedZ τ (1 + pickZ a.2.1 5))) (by (repeat' constructor)) (by omega) fun bo bo' e0 mbo _ => ?_
    simp only [Value.slice.injEq, true_and] at e0
    obtain ⟨rfl, rfl⟩ := e0
    have hth := hdel.parent hinv
    have hpl := able_len (.inr (owned_able hinv (List.getElem_mem hk2)).1)
    refine G.skip (G.then_n (G.seq (G.block (G.seq (G.region (G.q (Quiet.move rfl) rfl (G.q (Quiet.move rfl) rfl (G.q (Quiet.move rfl) rfl ?_))))))))
    refine G.q (Quiet.indexAddr rfl rfl el_40 (by omega)) rfl ?_
    refine G.q (Quiet.loadRd (sz := 1) (j := k * 1) (p := slR 9 1 _ (ownedZ τ (1 + pickZ a.2.1 5)).length (strs (ownedZ τ (1 + pickZ a.2.1 5)))) rfl ag_9 (by (repeat' constructor)) (fun h hp => slR_rd hp) (by omega) (strs_at hk2)) rfl ?_
    refine G.op (OpSpec.call Tryz.func51 rfl rfl (vs := [_]) rfl (rparent_spec _ ?hs59)) (by (repeat' constructor)) rfl ?nx60
    case hs59 => first | assumption | omega
    rintro v L' ⟨rfl, rfl⟩
    refine G.op (OpSpec.call Tryz.func69 rfl rfl (vs := [_, _]) rfl (rplace_spec u (zxT (partsZ τ zx acc).1 z) (parentZ (ownedZ τ (1 + pickZ a.2.1 5))[k]) (by have := hok.few; omega))) (by (repeat' constructor)) rfl ?nx62
    rintro v L' ⟨rfl, rfl⟩
    refine G.q (Quiet.assign rfl) rfl (G.nil ?_)
    obtain ⟨n, hn, hpn, hkn⟩ := place_get (l := (partsZ τ zx acc).1.nodes) (p := parentZ (ownedZ τ (1 + pickZ a.2.1 5))[k]) (place_iff.2 hth)
    have hpz : placeZ (zxT (partsZ τ zx acc).1 z) (parentZ (ownedZ τ (1 + pickZ a.2.1 5))[k]) = n := hpn
    rw [hpz]
    refine G.rfOpen (x := u) (τ := (zxT (partsZ τ zx acc).1 z)) (by (repeat' constructor)) fun am cm as2 cs2 m hm => ?_
    have hml := nds_len hm
    have hml2 : m.length = (partsZ τ zx acc).1.nodes.length := hml
    have hnm : n < m.length := by omega
    refine G.slShape (T := 131) (sz := 12) (v := .slice am m.length cm) (xs := m.flatMap rnC) (by (repeat' constructor)) (by omega) fun bm bm' e0 mbm _ => ?_
    simp only [Value.slice.injEq, true_and] at e0
    obtain ⟨rfl, rfl⟩ := e0
    have hlk : alook (partsZ τ zx acc).1.nodes (parentZ (ownedZ τ (1 + pickZ a.2.1 5))[k]) = some m[n].2.2 := by have g := nds_get hm (i := n) hnm; have g2 : alook (partsZ τ zx acc).1.nodes ((partsZ τ zx acc).1.nodes[n]).1 = some ((partsZ τ zx acc).1.nodes[n]).2 := al_get (hok.sorted.nodup linB) (i := n) hn; rw [hkn, show (partsZ τ zx acc).1.nodes[n] = (m[n].1, m[n].2.2) from g] at g2; exact g2
    have hv := hdel.ver _ _ hlk
    have hdel2 := hdel.step hinv hlk
    refine G.then_n (G.seq ?_)
    refine G.draw [15, 16] [[0, 1, 2, 3, 4, 5, 6, 7, 8, 9, 10, 11, 12, 13, 14, 15], [16]] mixed (by kernel_rfl) ?_
    refine Phases.go [rnR _ _, ptc u _ _, slR 9 1 _ _ _] (by (repeat' constructor)) ?_
    refine D.q rfl (by kernel_rfl) (Quiet.move rfl) ?_
    refine D.q rfl (by kernel_rfl) (Quiet.move rfl) ?_
    refine D.q rfl (by kernel_rfl) (Quiet.indexAddr rfl rfl el_40 (by omega)) ?_
    refine D.q rfl (by kernel_rfl) (Quiet.loadRd (sz := 1) (j := k * 1) (p := slR 9 1 _ (ownedZ τ (1 + pickZ a.2.1 5)).length (strs (ownedZ τ (1 + pickZ a.2.1 5)))) rfl ag_9 (by (repeat' constructor)) (fun h hp => slR_rd hp) (by omega) (strs_at hk2)) ?_
    refine D.q rfl (by kernel_rfl) (Quiet.move rfl) ?_
    refine D.q rfl (by kernel_rfl) (Quiet.nilp rfl) ?_
    refine D.q rfl (by kernel_rfl) (Quiet.fieldAddr rfl fo_101_0) ?_
    refine D.q rfl (by kernel_rfl) (Quiet.load rfl ag_98 (by (repeat' constructor)) (rfl)) ?_
    refine D.q rfl (by kernel_rfl) (Quiet.move rfl) ?_
    refine D.q rfl (by kernel_rfl) (Quiet.indexAddr rfl rfl el_98 (by omega)) ?_
    refine D.q rfl (by kernel_rfl) (Quiet.fieldAddr rfl fo_131_3) ?_
    refine D.q rfl (by kernel_rfl) (Quiet.fieldAddr rfl fo_43_4) ?_
    refine D.q rfl (by kernel_rfl) (Quiet.loadRd (sz := 12) (j := n * 12 + 7) (p := rnR _ m) rfl ag_3 (by (repeat' constructor)) (fun h hp => slR_rd hp) (by omega) ((rn_cell (l := m) (i := n) (k := 7) (by omega) (by decide)).trans rfl)) ?_
    refine D.q rfl (by kernel_rfl) (Quiet.add rfl rfl (by omega)) ?_
    refine D.q rfl (by kernel_rfl) (Quiet.to (v' := .agg (ptC (⟨2, (ownedZ τ (1 + pickZ a.2.1 5))[k], [], .slice none 0 0, [], 0, m[n].2.2.st.cver + 1, 0, .slice none 0 0⟩ : Pt)).toArray) (Quiet.build (us := [(0, _), (1, _), (5, _)]) fl_37 ze_37 rfl rfl (by simp [isCell])) rfl) ?_
    refine D.h rfl (by kernel_rfl) (OpSpec.allocA ze_37) (by (repeat' constructor)) ?nx78
    rintro v L' ⟨b12, rfl, rfl⟩
    refine D.ph ?_
    refine Phases.go [] (by (repeat' constructor)) ?_
    refine D.h rfl (by kernel_rfl) (OpSpec.storeA rfl rfl ?c80 sz_37 ?c83 ?c81 ?c82) (by (repeat' constructor)) ?nx84
    case c80 => exact pt_cells rfl rfl
    case c83 => rfl
    case c81 => simp [ptC]
    case c82 => exact nfz0 _ _
    rintro v L' rfl
    refine D.ph (Phases.fin ?_)
    refine G.ptCast (b := b12) (l' := ptC (⟨2, (ownedZ τ (1 + pickZ a.2.1 5))[k], [], .slice none 0 0, [], 0, m[n].2.2.st.cver + 1, 0, .slice none 0 0⟩ : Pt)) (by (repeat' constructor)) rfl ?_
    refine G.rfFold (x := u) (τ := (zxT (partsZ τ zx acc).1 z)) (l := m) hm (by (repeat' constructor)) rfl rfl rfl rfl rfl ?_
    refine G.then_n (G.seq (G.region (G.q (Quiet.fieldAddr rfl fo_37_7) rfl ?_)))
    refine G.q (Quiet.load rfl ag_35 (by (repeat' constructor)) (rfl)) rfl ?_
    refine G.q (Quiet.loadAs (vs := ptC (⟨2, (ownedZ τ (1 + pickZ a.2.1 5))[k], [], .slice none 0 0, [], 0, m[n].2.2.st.cver + 1, 0, .slice none 0 0⟩ : Pt)) rfl ag_37 (by (repeat' constructor)) (by simp [ptC]) rfl) rfl ?_
    refine G.op (OpSpec.buildSlice (vs := [_]) el_35 ze_37 rfl rfl rfl rfl (by first | (simp [Value.cells]; done) | (intro v hv; simp only [List.mem_cons, List.not_mem_nil, or_false] at hv; (repeat (first | (subst hv; rfl) | (rcases hv with hv | hv; (subst hv; rfl)))))) (by decide)) (by (repeat' constructor)) rfl ?nx88
    rintro v L' ⟨b13, rfl, rfl⟩
    refine G.op (OpSpec.append1 rfl rfl rfl el_35 ze_37 rfl rfl ?c90 ?c91 (Nat.le_refl _) ?c92 (by decide)) (by (repeat' constructor)) rfl ?nx93
    case c90 => simp only [List.map_cons, List.map_nil, List.flatten_cons, List.flatten_nil, List.append_nil]; exact pt_cells rfl rfl
    case c91 => rfl
    case c92 => first | omega | (simp; omega)
    rintro v L' ⟨⟨a13_4, c13_4, rfl⟩, rfl⟩
    refine G.q (Quiet.fieldAddr rfl fo_37_7) rfl ?_
    refine G.op (OpSpec.store rfl rfl rfl sz_35 ?c96 ?c97) (by (repeat' constructor)) rfl ?nx98
    case c96 => simp [ptC]
    case c97 => exact nfz0 _ _
    rintro v L' rfl
    refine G.nil ?_
    refine G.slCast (T := 37) (sz := 8) (m' := (acc ++ [(⟨2, (ownedZ τ (1 + pickZ a.2.1 5))[k], [], .slice none 0 0, [], 0, m[n].2.2.st.cver + 1, 0, .slice none 0 0⟩ : Pt)]).length) (xs' := (acc ++ [(⟨2, (ownedZ τ (1 + pickZ a.2.1 5))[k], [], .slice none 0 0, [], 0, m[n].2.2.st.cver + 1, 0, .slice none 0 0⟩ : Pt)]).flatMap ptC) (by (repeat' constructor)) (by rw [List.length_append]; rfl) (by rw [List.flatMap_append]; simp; rfl) ?_
    rw [show acc.length + 1 = (acc ++ [(⟨2, (ownedZ τ (1 + pickZ a.2.1 5))[k], [], .slice none 0 0, [], 0, m[n].2.2.st.cver + 1, 0, .slice none 0 0⟩ : Pt)]).length by rw [List.length_append]; rfl]
    refine G.then_n (G.add (p := nilA) nilA_ok (G.region (G.q (Quiet.move rfl) rfl (G.q (Quiet.move rfl) rfl ?_))))
    refine G.q (Quiet.loadAs (vs := ptC (⟨2, (ownedZ τ (1 + pickZ a.2.1 5))[k], [], .slice none 0 0, [], 0, m[n].2.2.st.cver + 1, 0, .slice none 0 0⟩ : Pt)) rfl ag_37 (by (repeat' constructor)) (by simp [ptC]) rfl) rfl ?_
    refine G.q (Quiet.buildN (pl := [(0, 1), (1, 1), (2, 1), (3, 8)]) (us := [(0, vint zx), (3, .agg (ptC (⟨2, (ownedZ τ (1 + pickZ a.2.1 5))[k], [], .slice none 0 0, [], 0, m[n].2.2.st.cver + 1, 0, .slice none 0 0⟩ : Pt)).toArray)]) (cells := [vint zx, vint 0, vint 0] ++ ptC (⟨2, (ownedZ τ (1 + pickZ a.2.1 5))[k], [], .slice none 0 0, [], 0, m[n].2.2.st.cver + 1, 0, .slice none 0 0⟩ : Pt)) Tryz.underlying39 (by kernel_rfl) ze_39 rfl (fill_entry _ _ _ _ _ _ _ _ _)) rfl ?_
    refine G.op (OpSpec.call Tryz.func26 rfl rfl (vs := [_, _]) rfl (rapply_spec u (zxT (partsZ τ zx acc).1 z) zx 0 0 (⟨2, (ownedZ τ (1 + pickZ a.2.1 5))[k], [], .slice none 0 0, [], 0, m[n].2.2.st.cver + 1, 0, .slice none 0 0⟩ : Pt) [] nilA ⟨⟨fun h _ => rd_none 2 h, by simp, by show ((ownedZ τ (1 + pickZ a.2.1 5))[k]).length ≤ 1048576; omega, rfl, rfl⟩, fun h _ => rd_none 8 h, by simp, fun w hw => by cases hw⟩ (60 + acc.length) hok (by simp; omega))) (by (repeat' constructor)) rfl ?nx103
    rintro v L' ⟨ue, ee, rfl, he, hue, rfl⟩
    refine G.nil ?_
    refine G.rfCast (x := u) (τ' := (zxT (partsZ τ zx (acc ++ [(⟨2, (ownedZ τ (1 + pickZ a.2.1 5))[k], [], .slice none 0 0, [], 0, m[n].2.2.st.cver + 1, 0, .slice none 0 0⟩ : Pt)])).1 zx)) (by (repeat' constructor)) (by have h1 := app_part (τ := (zxT (partsZ τ zx acc).1 z)) (e := ⟨zx, 0, 0, (⟨2, (ownedZ τ (1 + pickZ a.2.1 5))[k], [], .slice none 0 0, [], 0, m[n].2.2.st.cver + 1, 0, .slice none 0 0⟩ : Pt), []⟩) (.inl (by show (2 : Int) ≤ 4; decide)); rw [parts_snoc]; dsimp only; rw [part_zx'] at h1; exact h1.symm) ?_
    refine G.blk_n (G.then_n (G.region (G.q (Quiet.move rfl) rfl ?_)))
    refine G.q (Quiet.sub rfl rfl (by omega)) rfl ?_
    refine G.q (Quiet.assign rfl) rfl (G.nil (G.then_n ?_))
    refine G.ptCast (b := bT) (l' := ptC (⟨6, [], [], .slice none 0 0, [], (1 + pickZ a.2.1 5), 0, 0, (.slice a13_4 (acc ++ [(⟨2, (ownedZ τ (1 + pickZ a.2.1 5))[k], [], .slice none 0 0, [], 0, m[n].2.2.st.cver + 1, 0, .slice none 0 0⟩ : Pt)]).length c13_4)⟩ : Pt)) (by (repeat' constructor)) rfl ?_
    exact G.roundK ((k, acc ++ [(⟨2, (ownedZ τ (1 + pickZ a.2.1 5))[k], [], .slice none 0 0, [], 0, m[n].2.2.st.cver + 1, 0, .slice none 0 0⟩ : Pt)], zx, .slice a13_4 (acc ++ [(⟨2, (ownedZ τ (1 + pickZ a.2.1 5))[k], [], .slice none 0 0, [], 0, m[n].2.2.st.cver + 1, 0, .slice none 0 0⟩ : Pt)]).length c13_4)) (⟨hdel2, _, _, rfl⟩) (by dsimp only; omega) ⟨rfl, rfl, rfl, rfl, rfl, rfl, rfl, rfl, trivial⟩ (by (repeat' constructor)) (by ((repeat (apply Have.cons; (repeat (first | exact Pick.here | apply Pick.there)))); apply Have.base; repeat' constructor))
   ·have hj0 : j = 0 := by omega
    subst hj0
    refine G.exit (G.then_e (G.then_e (G.blk_e (G.then_n (G.seq (G.region ?_))))))
    refine G.q (Quiet.loadAs (vs := ptC (⟨6, [], [], .slice none 0 0, [], (1 + pickZ a.2.1 5), 0, 0, (.slice aw acc.length cw)⟩ : Pt)) rfl ag_37 (by (repeat' constructor)) (by simp [ptC]) rfl) rfl ?_
    refine G.op (OpSpec.storeA rfl rfl ?c108 sz_37 ?c111 ?c109 ?c110) (by (repeat' constructor)) rfl ?nx112
    case c108 => exact pt_cells rfl rfl
    case c111 => rfl
    case c109 => simp [ptC]
    case c110 => exact nfz0 _ _
    rintro v L' rfl
    refine G.nil (G.then_n (G.ret (G.blk_r (G.then_r ?_))))
    refine G.add (p := aclsA acc) (fun h w hw => by obtain ⟨-, e1, e2, -⟩ := hdel.kinds w hw; rw [e1, e2]; exact rd_none 2 h) ?_
    refine G.ptCast (b := b6) (l' := ptC (⟨6, [], [], .slice none 0 0, [], (1 + pickZ a.2.1 5), 0, 0, (.slice aw acc.length cw)⟩ : Pt)) (by (repeat' constructor)) rfl ?_
    refine G.fold (p := txRd (⟨6, [], [], .slice none 0 0, [], (1 + pickZ a.2.1 5), 0, 0, (.slice aw acc.length cw)⟩ : Pt) acc) (by (repeat' constructor)) (fun _ hp => txRd_of (T := 37) (x := (⟨6, [], [], .slice none 0 0, [], (1 + pickZ a.2.1 5), 0, 0, (.slice aw acc.length cw)⟩ : Pt)) rfl rfl hp) ?_
    exact G.done1 rfl (.cellA rfl ag_37 (by (repeat' constructor)) (by simp [ptC]) rfl) ⟨(⟨6, [], [], .slice none 0 0, [], (1 + pickZ a.2.1 5), 0, 0, (.slice aw acc.length cw)⟩ : Pt), acc, rfl, .close rfl (DelI.closeH (x := (⟨6, [], [], .slice none 0 0, [], (1 + pickZ a.2.1 5), 0, 0, (.slice aw acc.length cw)⟩ : Pt)) hdel ⟨by show 1 ≤ (1 + pickZ a.2.1 5); omega, by show (1 + pickZ a.2.1 5) ≤ 5; omega⟩) hdel.parts rfl rfl (by have := hdel.len; omega) rfl, ⟨rfl, rfl, (fun w hw => by obtain ⟨-, e1, -, e2⟩ := hdel.kinds w hw; rw [e1, e2]; exact ⟨rfl, rfl⟩)⟩, rfl⟩ (by (repeat' constructor)) (by (repeat' constructor))
  ·refine G.seq (G.region (G.q (Quiet.int rfl rfl rfl) rfl (G.q (Quiet.assign rfl) rfl (G.nil (G.then_n ?_)))))
   refine G.condD rfl (fun h90 => ?_) (fun h90 => ?_)
   ·refine G.seq (G.region ?_)
    refine G.q (Quiet.to (v' := .agg (ptC (⟨7, [], [], .slice none 0 0, [], 0, 0, 0, (.slice none 0 0)⟩ : Pt)).toArray) (Quiet.build (us := [(0, _)]) fl_37 ze_37 rfl rfl (by simp [isCell])) rfl) rfl ?_
    refine G.op (OpSpec.allocA ze_37) (by (repeat' constructor)) rfl ?nx115
    rintro v L' ⟨bT, rfl, rfl⟩
    refine G.op (OpSpec.storeA rfl rfl ?c117 sz_37 ?c120 ?c118 ?c119) (by (repeat' constructor)) rfl ?nx121
    case c117 => exact pt_cells rfl rfl
    case c120 => rfl
    case c118 => simp [ptC]
    case c119 => exact nfz0 _ _
    rintro v L' rfl
    refine G.nil ?_
    refine G.ptCast (b := bT) (l' := ptC (⟨7, [], [], .slice none 0 0, [], 0, 0, 0, (.slice none 0 0)⟩ : Pt)) (by (repeat' constructor)) rfl ?_
    refine G.then_n (G.seq (G.region (G.q (Quiet.move rfl) rfl ?_)))
    refine G.op (OpSpec.call Tryz.func91 rfl rfl (vs := [_]) rfl (rclone_spec x τ 60 hinv.ok (by omega))) (by (repeat' constructor)) rfl ?nx123
    rintro v L' ⟨u, rfl, rfl⟩
    refine G.q (Quiet.assign rfl) rfl (G.nil (G.then_n (G.seq (G.seq (G.add (slR_nil 37 8) (G.add (p := aclsA []) aclsA_nil (G.region (G.q (Quiet.assign rfl) rfl (G.nil (G.then_n (G.block ?_)))))))))))
    refine G.rfCast (x := u) (τ' := (zxT (partsZ τ zx []).1 τ.zx)) (by (repeat' constructor)) (rfl) ?_
    refine G.loopK (ι := Nat × (List Pt) × Int × Value) (fun q E => (15, vint q.1) :: E) (fun q => [ptc bT (ptC (⟨7, [], [], .slice none 0 0, [], 0, 0, 0, q.2.2.2⟩ : Pt)) 37, refR u (zxT (partsZ τ zx q.2.1).1 q.2.2.1), slR 37 8 q.2.2.2 q.2.1.length (q.2.1.flatMap ptC), aclsA q.2.1]) (fun q => (q.1 ≤ ss.length ∧ q.1 ≤ 6 ∧ q.2.1.length ≤ q.1) ∧ PartsH τ zx q.2.1 K ∧ HInv (partsZ τ zx q.2.1).1 (K + q.2.1.length) ∧ (∀ y ∈ q.2.1, isCell y.aclV = true ∧ isCell y.subsV = true) ∧ ∃ a c, q.2.2.2 = .slice a q.2.1.length c) (fun q => ss.length - q.1) (0, [], τ.zx, .slice none 0 0) (ts := [0, 2, 4, 6, 13, 14]) (.cons rfl (.cons rfl (.cons rfl (.cons rfl (.cons rfl (.cons rfl (.nil))))))) (⟨⟨Nat.zero_le _, Nat.zero_le _, Nat.le_refl _⟩, (fun i hi => by simp at hi), hinv.more (by simp), (fun w hw => by cases hw), none, 0, rfl⟩) ⟨rfl, rfl, rfl, rfl, rfl, rfl, rfl, trivial⟩ (by (repeat' constructor)) ?_
    rintro ⟨i, acc, z, w⟩ ⟨⟨hi, hi6, hai⟩, hps, hiv, hcs, aw, cw, hw⟩
    dsimp only
    dsimp only at hi hi6 hai hps hiv hcs hw
    subst hw
    have hivz := hiv.zx z
    refine G.seq (G.seq (G.region (G.q (Quiet.move rfl) rfl (G.q (Quiet.fieldAddr rfl fo_94_4) rfl ?_))))
    refine G.q (Quiet.as (v' := .slice ab ss.length cb) (by exact eab) (Quiet.load rfl ag_22 (by (repeat' constructor)) (rfl))) rfl ?_
    refine G.q (Quiet.slen rfl Tryz.underlying22 rfl) rfl (G.q (Quiet.int rfl rfl rfl) rfl (G.q (Quiet.move rfl) rfl ?_))
    refine G.dec (t := 100) rfl (fun h20_100 => ?_) (fun h20_100 => ?_)
    ·refine G.kDT (t := 99) rfl h20_100 (G.grun (t := 100) rfl rfl rfl (G.q (Quiet.move rfl) rfl (G.grun (t := 100) rfl rfl rfl (G.q (Quiet.int rfl rfl rfl) rfl (G.q (Quiet.pickT rfl rfl) rfl (G.nil (G.then_n ?_)))))))
     refine G.condD rfl (fun h103 => ?_) (fun h103 => ?_)
     ·have hi2 : i < ss.length := by omega
      refine G.rdShape (p := q) hrd (by (repeat' constructor)) (by omega) fun bb ob e1 => ?_
      subst e1
      obtain ⟨hio, hdo⟩ := hsm.ok _ (List.getElem_mem hi2)
      refine G.skip (G.then_n (G.seq (G.block (G.seq (G.region (G.q (Quiet.move rfl) rfl (G.q (Quiet.fieldAddr rfl fo_94_4) rfl ?_)))))))
      refine G.q (Quiet.as (v' := .slice (some ⟨bb, ob, none⟩) ss.length cb) (by exact eab) (Quiet.load rfl ag_22 (by (repeat' constructor)) (rfl))) rfl ?_
      refine G.q (Quiet.move rfl) rfl ?_
      refine G.q (Quiet.indexAddr rfl rfl el_22 (by omega)) rfl ?_
      refine G.q (Quiet.loadRdA (sz := 5) (j := i * 5) (k := 5) (p := q) (vs := ac0C ss[i]) rfl ag_94 (by (repeat' constructor)) hrd (by simp) (by omega) (by omega) (flatMap_at (f := ac0C) (sz := 5) (fun _ _ => rfl) (by omega))) rfl ?_
      refine G.op (OpSpec.call Tryz.func92 rfl rfl (vs := [_, _, _]) rfl (part7_spec u (zxT (partsZ τ zx acc).1 z) ss[i] (K + acc.length) hivz (by omega) hio hdo)) (by (repeat' constructor)) rfl ?nx139
      rintro v L' ⟨y, b, rfl, hP, hB, rfl⟩
      refine G.q (Quiet.move rfl) rfl (G.q (Quiet.extract rfl rfl) rfl (G.q (Quiet.extract rfl rfl) rfl ?_))
      refine G.op (OpSpec.allocA ze_37) (by (repeat' constructor)) rfl ?nx143
      rintro v L' ⟨b16, rfl, rfl⟩
      refine G.op (OpSpec.storeA rfl rfl ?c145 sz_37 ?c148 ?c146 ?c147) (by (repeat' constructor)) rfl ?nx149
      case c145 => exact pt_cells hB.cell (by rw [hB.subs]; rfl)
      case c148 => rfl
      case c146 => simp [ptC]
      case c147 => exact nfz0 _ _
      rintro v L' rfl
      refine G.q (Quiet.assign rfl) rfl (G.nil ?_)
      refine G.ptCast (b := b16) (l' := ptC y) (by (repeat' constructor)) rfl ?_
      have htx : TxA (rdO 2 y.aclV y.acl.length (y.acl.flatMap acC)) y [] := ⟨⟨fun h hp => hp, by have := hB.acl; omega, by have := hB.path; omega, by rw [hB.subs]; rfl, hB.cell⟩, fun h _ => by rw [hB.subs]; exact rd_none 8 h, by simp, fun w hw => by cases hw⟩
      refine G.then_n (G.seq (G.region (G.q (Quiet.move rfl) rfl (G.q (Quiet.move rfl) rfl ?_))))
      refine G.bool (t := 117) rfl (fun h23_117 => ?_) (fun h23_117 => ?_)
      ·have hb1 : b = true := h23_117
       have hPH := (hP hb1).congr (υ := (partsZ τ zx acc).1) rfl (by rfl)
       refine G.kB (t := 115) rfl h23_117 (G.kB (t := 17) rfl h23_117 (G.kB (t := 116) rfl h23_117 (G.grun (t := 117) rfl rfl rfl (G.q (Quiet.move rfl) rfl (G.grun (t := 117) rfl rfl rfl (G.q (Quiet.move rfl) rfl (G.grun (t := 117) rfl rfl rfl ?_)))))))
       refine G.q (Quiet.loadAs (vs := ptC y) rfl ag_37 (by (repeat' constructor)) (by simp [ptC]) rfl) rfl ?_
       refine G.grun (t := 117) rfl rfl rfl ?_
       refine G.q (Quiet.buildN (pl := [(0, 1), (1, 1), (2, 1), (3, 8)]) (us := [(0, vint zx), (3, .agg (ptC y).toArray)]) (cells := [vint zx, vint 0, vint 0] ++ ptC y) Tryz.underlying39 (by kernel_rfl) ze_39 rfl (fill_entry _ _ _ _ _ _ _ _ _)) rfl ?_
       refine G.grun (t := 117) rfl rfl rfl ?_
       refine G.op (OpSpec.call Tryz.func45 rfl rfl (vs := [_, _]) rfl (rsound_spec u (zxT (partsZ τ zx acc).1 z) zx 0 0 y [] _ htx 60 hivz.ok (by simp))) (by (repeat' constructor)) rfl ?nx154
       rintro v L' ⟨rfl, rfl⟩
       refine G.q (Quiet.pickT rfl rfl) rfl (G.nil (G.then_n ?_))
       refine G.condB rfl (fun h123 => ?_) (fun h123 => ?_)
       ·have hsd : soundZ (partsZ τ zx acc).1 zx y [] = true := (sound_zx hPH.kind.2).symm.trans h123
        have hiv2 : HInv (partsZ τ zx (acc ++ [y])).1 (K + (acc ++ [y]).length) := by rw [parts_snoc, List.length_append]; exact (hiv.part' hsd hPH).more (by simp; omega)
        have hps2 := hps.snoc hPH
        refine G.seq (G.region (G.q (Quiet.fieldAddr rfl fo_37_7) rfl ?_))
        refine G.q (Quiet.load rfl ag_35 (by (repeat' constructor)) (rfl)) rfl ?_
        refine G.q (Quiet.loadAs (vs := ptC y) rfl ag_37 (by (repeat' constructor)) (by simp [ptC]) rfl) rfl ?_
        refine G.op (OpSpec.buildSlice (vs := [_]) el_35 ze_37 rfl rfl rfl rfl (by first | (simp [Value.cells]; done) | (intro v hv; simp only [List.mem_cons, List.not_mem_nil, or_false] at hv; (repeat (first | (subst hv; rfl) | (rcases hv with hv | hv; (subst hv; rfl)))))) (by decide)) (by (repeat' constructor)) rfl ?nx159
        rintro v L' ⟨b24, rfl, rfl⟩
        refine G.op (OpSpec.append1 rfl rfl rfl el_35 ze_37 rfl rfl ?c161 ?c162 (Nat.le_refl _) ?c163 (by decide)) (by (repeat' constructor)) rfl ?nx164
        case c161 => simp only [List.map_cons, List.map_nil, List.flatten_cons, List.flatten_nil, List.append_nil]; exact pt_cells hB.cell (by rw [hB.subs]; rfl)
        case c162 => rfl
        case c163 => first | omega | (simp; omega)
        rintro v L' ⟨⟨a24_4, c24_4, rfl⟩, rfl⟩
        refine G.q (Quiet.fieldAddr rfl fo_37_7) rfl ?_
        refine G.op (OpSpec.store rfl rfl rfl sz_35 ?c167 ?c168) (by (repeat' constructor)) rfl ?nx169
        case c167 => simp [ptC]
        case c168 => exact nfz0 _ _
        rintro v L' rfl
        refine G.nil ?_
        refine G.slCast (T := 37) (sz := 8) (m' := (acc ++ [y]).length) (xs' := (acc ++ [y]).flatMap ptC) (by (repeat' constructor)) (by rw [List.length_append]; rfl) (by rw [List.flatMap_append]; simp; rfl) ?_
        rw [show acc.length + 1 = (acc ++ [y]).length by rw [List.length_append]; rfl]
        refine G.then_n (G.region (G.q (Quiet.move rfl) rfl (G.q (Quiet.move rfl) rfl ?_)))
        refine G.q (Quiet.loadAs (vs := ptC y) rfl ag_37 (by (repeat' constructor)) (by simp [ptC]) rfl) rfl ?_
        refine G.q (Quiet.buildN (pl := [(0, 1), (1, 1), (2, 1), (3, 8)]) (us := [(0, vint zx), (3, .agg (ptC y).toArray)]) (cells := [vint zx, vint 0, vint 0] ++ ptC y) Tryz.underlying39 (by kernel_rfl) ze_39 rfl (fill_entry _ _ _ _ _ _ _ _ _)) rfl ?_
        refine G.op (OpSpec.call Tryz.func26 rfl rfl (vs := [_, _]) rfl (rapply_spec u (zxT (partsZ τ zx acc).1 z) zx 0 0 y [] _ htx 60 hivz.ok (by simp))) (by (repeat' constructor)) rfl ?nx174
        rintro v L' ⟨ue, ee, rfl, he, hue, rfl⟩
        refine G.nil ?_
        refine G.rfCast (x := u) (τ' := (zxT (partsZ τ zx (acc ++ [y])).1 zx)) (by (repeat' constructor)) (by have h1 := app_part (τ := (zxT (partsZ τ zx acc).1 z)) (e := ⟨zx, 0, 0, y, []⟩) (.inl hPH.kind.2); rw [parts_snoc]; dsimp only; rw [part_zx'] at h1; exact h1.symm) ?_
        refine G.fold (p := aclsA (acc ++ [y])) (by (repeat' constructor)) (fun _ hp => aclsA_snoc hp) ?_
        refine G.blk_n (G.then_n (G.region (G.q (Quiet.move rfl) rfl ?_)))
        refine G.q (Quiet.add rfl rfl (by omega)) rfl ?_
        refine G.q (Quiet.assign rfl) rfl (G.nil (G.then_n ?_))
        refine G.ptCast (b := bT) (l' := ptC (⟨7, [], [], .slice none 0 0, [], 0, 0, 0, (.slice a24_4 (acc ++ [y]).length c24_4)⟩ : Pt)) (by (repeat' constructor)) rfl ?_
        exact G.roundK ((i + 1, acc ++ [y], zx, .slice a24_4 (acc ++ [y]).length c24_4)) (⟨⟨by dsimp only; omega, by dsimp only; omega, by dsimp only; rw [List.length_append]; simp; omega⟩, hps2, hiv2, (fun w hw => by rcases List.mem_append.1 hw with hw | hw; exact hcs w hw; rw [List.mem_singleton] at hw; subst hw; exact ⟨hB.cell, by rw [hB.subs]; rfl⟩), _, _, rfl⟩) (by dsimp only; omega) ⟨rfl, rfl, rfl, rfl, rfl, rfl, rfl, trivial⟩ (by (repeat' constructor)) (by ((repeat (apply Have.cons; (repeat (first | exact Pick.here | apply Pick.there)))); apply Have.base; repeat' constructor))
       ·refine G.skip (G.blk_n (G.then_n (G.region (G.q (Quiet.move rfl) rfl ?_))))
        refine G.q (Quiet.add rfl rfl (by omega)) rfl ?_
        refine G.q (Quiet.assign rfl) rfl (G.nil (G.then_n ?_))
        exact G.roundK ((i + 1, acc, z, .slice aw acc.length cw)) (⟨⟨by dsimp only; omega, by dsimp only; omega, by dsimp only; omega⟩, hps, hiv, hcs, _, _, rfl⟩) (by dsimp only; omega) ⟨rfl, rfl, rfl, rfl, rfl, rfl, rfl, trivial⟩ (by (repeat' constructor)) (by ((repeat (apply Have.cons; (repeat (first | exact Pick.here | apply Pick.there)))); apply Have.base; repeat' constructor))
      ·refine G.kB (t := 115) rfl h23_117 (G.kB (t := 17) rfl h23_117 (G.kB (t := 116) rfl h23_117 (G.gskip (t := 117) rfl rfl rfl rfl (G.gskip (t := 117) rfl rfl rfl rfl (G.gskip (t := 117) rfl rfl rfl rfl (G.gskip (t := 117) rfl rfl rfl rfl (G.gskip (t := 117) rfl rfl rfl rfl (G.q (Quiet.pickF rfl rfl) rfl (G.nil (G.then_n (G.condF rfl (G.skip (G.blk_n (G.then_n (G.region (G.q (Quiet.move rfl) rfl ?_))))))))))))))))
       refine G.q (Quiet.add rfl rfl (by omega)) rfl ?_
       refine G.q (Quiet.assign rfl) rfl (G.nil (G.then_n ?_))
       exact G.roundK ((i + 1, acc, z, .slice aw acc.length cw)) (⟨⟨by dsimp only; omega, by dsimp only; omega, by dsimp only; omega⟩, hps, hiv, hcs, _, _, rfl⟩) (by dsimp only; omega) ⟨rfl, rfl, rfl, rfl, rfl, rfl, rfl, trivial⟩ (by (repeat' constructor)) (by ((repeat (apply Have.cons; (repeat (first | exact Pick.here | apply Pick.there)))); apply Have.base; repeat' constructor))
     ·refine G.exit (G.then_e (G.then_e (G.blk_e (G.then_n (G.seq (G.region ?_))))))
      refine G.q (Quiet.loadAs (vs := ptC (⟨7, [], [], .slice none 0 0, [], 0, 0, 0, (.slice aw acc.length cw)⟩ : Pt)) rfl ag_37 (by (repeat' constructor)) (by simp [ptC]) rfl) rfl ?_
      refine G.op (OpSpec.storeA rfl rfl ?c184 sz_37 ?c187 ?c185 ?c186) (by (repeat' constructor)) rfl ?nx188
      case c184 => exact pt_cells rfl rfl
      case c187 => rfl
      case c185 => simp [ptC]
      case c186 => exact nfz0 _ _
      rintro v L' rfl
      refine G.nil (G.then_n (G.ret (G.blk_r (G.then_r ?_))))
      refine G.ptCast (b := b6) (l' := ptC (⟨7, [], [], .slice none 0 0, [], 0, 0, 0, (.slice aw acc.length cw)⟩ : Pt)) (by (repeat' constructor)) rfl ?_
      refine G.fold (p := txRd (⟨7, [], [], .slice none 0 0, [], 0, 0, 0, (.slice aw acc.length cw)⟩ : Pt) acc) (by (repeat' constructor)) (fun _ hp => txRd_of (T := 37) (x := (⟨7, [], [], .slice none 0 0, [], 0, 0, 0, (.slice aw acc.length cw)⟩ : Pt)) rfl rfl hp) ?_
      exact G.done1 rfl (.cellA rfl ag_37 (by (repeat' constructor)) (by simp [ptC]) rfl) ⟨(⟨7, [], [], .slice none 0 0, [], 0, 0, 0, (.slice aw acc.length cw)⟩ : Pt), acc, rfl, .multi rfl hps rfl rfl (by omega) rfl, ⟨rfl, rfl, hcs⟩, rfl⟩ (by (repeat' constructor)) (by (repeat' constructor))
    ·refine G.kDF (t := 99) rfl h20_100 (G.gskip (t := 100) rfl rfl rfl rfl (G.gskip (t := 100) rfl rfl rfl rfl (G.q (Quiet.pickF rfl rfl) rfl (G.nil (G.then_n (G.condF rfl (G.exit (G.then_e (G.then_e (G.blk_e (G.then_n (G.seq (G.region ?_)))))))))))))
     refine G.q (Quiet.loadAs (vs := ptC (⟨7, [], [], .slice none 0 0, [], 0, 0, 0, (.slice aw acc.length cw)⟩ : Pt)) rfl ag_37 (by (repeat' constructor)) (by simp [ptC]) rfl) rfl ?_
     refine G.op (OpSpec.storeA rfl rfl ?c191 sz_37 ?c194 ?c192 ?c193) (by (repeat' constructor)) rfl ?nx195
     case c191 => exact pt_cells rfl rfl
     case c194 => rfl
     case c192 => simp [ptC]
     case c193 => exact nfz0 _ _
     rintro v L' rfl
     refine G.nil (G.then_n (G.ret (G.blk_r (G.then_r ?_))))
     refine G.ptCast (b := b6) (l' := ptC (⟨7, [], [], .slice none 0 0, [], 0, 0, 0, (.slice aw acc.length cw)⟩ : Pt)) (by (repeat' constructor)) rfl ?_
     refine G.fold (p := txRd (⟨7, [], [], .slice none 0 0, [], 0, 0, 0, (.slice aw acc.length cw)⟩ : Pt) acc) (by (repeat' constructor)) (fun _ hp => txRd_of (T := 37) (x := (⟨7, [], [], .slice none 0 0, [], 0, 0, 0, (.slice aw acc.length cw)⟩ : Pt)) rfl rfl hp) ?_
     exact G.done1 rfl (.cellA rfl ag_37 (by (repeat' constructor)) (by simp [ptC]) rfl) ⟨(⟨7, [], [], .slice none 0 0, [], 0, 0, 0, (.slice aw acc.length cw)⟩ : Pt), acc, rfl, .multi rfl hps rfl rfl (by omega) rfl, ⟨rfl, rfl, hcs⟩, rfl⟩ (by (repeat' constructor)) (by (repeat' constructor))
   ·refine G.seq (G.region (G.q (Quiet.int rfl rfl rfl) rfl (G.q (Quiet.assign rfl) rfl (G.nil (G.then_n ?_)))))
    refine G.condD rfl (fun h136 => ?_) (fun h136 => ?_)
    ·refine G.seq (G.region (G.q (Quiet.fieldAddr rfl fo_94_1) rfl ?_))
     refine G.q (Quiet.load rfl ag_3 (by (repeat' constructor)) (rfl)) rfl ?_
     refine G.op (OpSpec.call Tryz.func21 rfl rfl (vs := [_, _]) rfl (pick7_spec _ _ ha.h2 (by decide))) (by (repeat' constructor)) rfl ?nx199
     rintro v L' ⟨rfl, rfl⟩
     refine G.q (Quiet.to (v' := .agg (ptC (⟨8, [], [], .slice none 0 0, [], 0, -1, pickZ a.2.1 99, .slice none 0 0⟩ : Pt)).toArray) (Quiet.build (us := [(0, _), (6, _), (5, _)]) fl_37 ze_37 rfl rfl (by simp [isCell])) rfl) rfl ?_
     refine G.op (OpSpec.storeA rfl rfl ?c202 sz_37 ?c205 ?c203 ?c204) (by (repeat' constructor)) rfl ?nx206
     case c202 => exact pt_cells rfl rfl
     case c205 => rfl
     case c203 => simp [ptC]
     case c204 => exact nfz0 _ _
     rintro v L' rfl
     refine G.nil (G.then_n (G.ret (G.blk_r (G.then_r ?_))))
     refine G.ptCast (b := b6) (l' := ptC (⟨8, [], [], .slice none 0 0, [], 0, -1, pickZ a.2.1 99, .slice none 0 0⟩ : Pt)) (by (repeat' constructor)) rfl ?_
     refine G.add (p := txRd (⟨8, [], [], .slice none 0 0, [], 0, -1, pickZ a.2.1 99, .slice none 0 0⟩ : Pt) []) (txRd_none rfl rfl rfl) ?_
     exact G.done1 rfl (.cellA rfl ag_37 (by (repeat' constructor)) (by simp [ptC]) rfl) ⟨(⟨8, [], [], .slice none 0 0, [], 0, -1, pickZ a.2.1 99, .slice none 0 0⟩ : Pt), [], rfl, .error rfl rfl ⟨by show 0 ≤ pickZ a.2.1 99; omega, by show pickZ a.2.1 99 < 99; omega⟩ rfl rfl rfl rfl, ⟨rfl, rfl, (fun w hw => by cases hw)⟩, rfl⟩ (by (repeat' constructor)) (by (repeat' constructor))
    ·refine G.seq (G.region (G.q (Quiet.int rfl rfl rfl) rfl (G.q (Quiet.assign rfl) rfl (G.nil (G.then_n ?_)))))
     refine G.condD rfl (fun h142 => ?_) (fun h142 => ?_)
     ·refine G.seq (G.region ?_)
      refine G.q (Quiet.to (v' := .agg (ptC (⟨0, [], [], .slice none 0 0, [], 0, 0, 0, .slice none 0 0⟩ : Pt)).toArray) (Quiet.build (us := [(0, _)]) fl_37 ze_37 rfl rfl (by simp [isCell])) rfl) rfl ?_
      refine G.op (OpSpec.storeA rfl rfl ?c209 sz_37 ?c212 ?c210 ?c211) (by (repeat' constructor)) rfl ?nx213
      case c209 => exact pt_cells rfl rfl
      case c212 => rfl
      case c210 => simp [ptC]
      case c211 => exact nfz0 _ _
      rintro v L' rfl
      refine G.nil (G.then_n (G.ret (G.blk_r (G.then_r ?_))))
      refine G.ptCast (b := b6) (l' := ptC (⟨0, [], [], .slice none 0 0, [], 0, 0, 0, .slice none 0 0⟩ : Pt)) (by (repeat' constructor)) rfl ?_
      refine G.add (p := txRd (⟨0, [], [], .slice none 0 0, [], 0, 0, 0, .slice none 0 0⟩ : Pt) []) (txRd_none rfl rfl rfl) ?_
      exact G.done1 rfl (.cellA rfl ag_37 (by (repeat' constructor)) (by simp [ptC]) rfl) ⟨(⟨0, [], [], .slice none 0 0, [], 0, 0, 0, .slice none 0 0⟩ : Pt), [], rfl, .part rfl ⟨⟨by show (0 : Int) ≤ 0; decide, by show (0 : Int) ≤ 4; decide⟩, by simp, by simp, .inl rfl, .inl rfl, ⟨by show (0 : Int) ≤ 0; decide, by show (0 : Int) ≤ K + 1; have := hinv.zx0; omega⟩, rfl, (fun e => by cases e)⟩, ⟨rfl, rfl, (fun w hw => by cases hw)⟩, rfl⟩ (by (repeat' constructor)) (by (repeat' constructor))
     ·refine G.skip (G.blk_n (G.then_n (G.seq (G.region (G.q (Quiet.move rfl) rfl ?_)))))
      refine G.q (Quiet.loadAs (vs := ac0C a) rfl ag_94 (by (repeat' constructor)) (by simp [ac0C]) rfl) rfl ?_
      refine G.op (OpSpec.call Tryz.func92 rfl rfl (vs := [_, _, _]) rfl (part7_spec x τ a K hinv (by omega) ha hd)) (by (repeat' constructor)) rfl ?nx216
      rintro v L' ⟨y, b, rfl, hP, hB, rfl⟩
      refine G.q (Quiet.move rfl) rfl (G.q (Quiet.extract rfl rfl) rfl (G.q (Quiet.extract rfl rfl) rfl ?_))
      refine G.op (OpSpec.allocA ze_37) (by (repeat' constructor)) rfl ?nx220
      rintro v L' ⟨b18, rfl, rfl⟩
      refine G.op (OpSpec.storeA rfl rfl ?c222 sz_37 ?c225 ?c223 ?c224) (by (repeat' constructor)) rfl ?nx226
      case c222 => exact pt_cells hB.cell (by rw [hB.subs]; rfl)
      case c225 => rfl
      case c223 => simp [ptC]
      case c224 => exact nfz0 _ _
      rintro v L' rfl
      refine G.q (Quiet.assign rfl) rfl (G.nil ?_)
      refine G.ptCast (b := b18) (l' := ptC y) (by (repeat' constructor)) rfl ?_
      refine G.then_n (G.seq (G.seq (G.region (G.q (Quiet.move rfl) rfl (G.q (Quiet.not rfl) rfl (G.nil (G.then_n ?_)))))))
      refine G.condB rfl (fun h152 => ?_) (fun h152 => ?_)
      ·refine G.seq (G.region ?_)
       refine G.q (Quiet.to (v' := .agg (ptC (⟨0, [], [], .slice none 0 0, [], 0, 0, 0, .slice none 0 0⟩ : Pt)).toArray) (Quiet.build (us := []) fl_37 ze_37 rfl rfl (by simp [isCell])) rfl) rfl ?_
       refine G.op (OpSpec.storeA rfl rfl ?c229 sz_37 ?c232 ?c230 ?c231) (by (repeat' constructor)) rfl ?nx233
       case c229 => exact pt_cells rfl rfl
       case c232 => rfl
       case c230 => simp [ptC]
       case c231 => exact nfz0 _ _
       rintro v L' rfl
       refine G.nil (G.then_n (G.ret (G.then_r ?_)))
       refine G.ptCast (b := b6) (l' := ptC (⟨0, [], [], .slice none 0 0, [], 0, 0, 0, .slice none 0 0⟩ : Pt)) (by (repeat' constructor)) rfl ?_
       refine G.add (p := txRd (⟨0, [], [], .slice none 0 0, [], 0, 0, 0, .slice none 0 0⟩ : Pt) []) (txRd_none rfl rfl rfl) ?_
       exact G.done1 rfl (.cellA rfl ag_37 (by (repeat' constructor)) (by simp [ptC]) rfl) ⟨(⟨0, [], [], .slice none 0 0, [], 0, 0, 0, .slice none 0 0⟩ : Pt), [], rfl, .part rfl ⟨⟨by show (0 : Int) ≤ 0; decide, by show (0 : Int) ≤ 4; decide⟩, by simp, by simp, .inl rfl, .inl rfl, ⟨by show (0 : Int) ≤ 0; decide, by show (0 : Int) ≤ K + 1; have := hinv.zx0; omega⟩, rfl, (fun e => by cases e)⟩, ⟨rfl, rfl, (fun w hw => by cases hw)⟩, rfl⟩ (by (repeat' constructor)) (by (repeat' constructor))
      ·refine G.skip (G.then_n (G.seq (G.region ?_)))
       refine G.q (Quiet.loadAs (vs := ptC y) rfl ag_37 (by (repeat' constructor)) (by simp [ptC]) rfl) rfl ?_
       refine G.op (OpSpec.storeA rfl rfl ?c235 sz_37 ?c238 ?c236 ?c237) (by (repeat' constructor)) rfl ?nx239
       case c235 => exact pt_cells hB.cell (by rw [hB.subs]; rfl)
       case c238 => rfl
       case c236 => simp [ptC]
       case c237 => exact nfz0 _ _
       rintro v L' rfl
       refine G.nil (G.then_n (G.ret ?_))
       refine G.ptCast (b := b6) (l' := ptC y) (by (repeat' constructor)) rfl ?_
       refine G.fold (p := txRd y []) (L := _) (by (repeat' constructor)) (fun _ hp => txRd_one hB.subs hp) ?_
       exact G.done1 rfl (.cellA rfl ag_37 (by (repeat' constructor)) (by simp [ptC]) rfl) ⟨y, [], rfl, .part rfl (hP (by simpa using h152)), ⟨hB.cell, by rw [hB.subs]; rfl, (fun w hw => by cases hw)⟩, rfl⟩ (by (repeat' constructor)) (by (repeat' constructor))

theorem fill_entry4 (zx ss xi : Int) (s0 s1 s2 s3 s4 s5 s6 s7 : Value) : Instr.fill (fun i => [(0, 1), (1, 1), (2, 1), (3, 8)].toArray[i]?) ([.int .i64 0, .int .i64 0, .int .i64 0, .int .i64 0, .string (bs []), .string (bs []), .slice none 0 0, .int .i64 0, .int .i64 0, .int .i64 0, .slice none 0 0] : List Value).toArray [(0, vint zx), (1, vint ss), (2, vint xi), (3, .agg ([s0, s1, s2, s3, s4, s5, s6, s7] : List Value).toArray)] = some (([vint zx, vint ss, vint xi] ++ [s0, s1, s2, s3, s4, s5, s6, s7] : List Value).toArray) := by kernel_rfl
theorem en_cells {e : En} (h : TxC e.x e.subs) : ∀ v ∈ enC e, isCell v = true := by
  intro v hv
  unfold enC at hv
  rcases List.mem_append.1 hv with hv | hv
  · simp only [List.mem_cons, List.not_mem_nil, or_false] at hv
    rcases hv with rfl | rfl | rfl <;> rfl
  · exact pt_cells h.1 h.2.1 v hv
set_option maxHeartbeats 1000000 in
set_option maxRecDepth 100000 in
theorem history7_spec (v : Value) (xs : List Ac0) (z0 : Int) (p : HP) (hx : Acts1 p v xs) (hz : 0 ≤ z0 ∧ z0 ≤ 2199023255552) : Fn Tryz.prog 12 #[v, vint z0] [p] fun v L => ∃ (es : List En) (τ : Tr) (x : Nat) (u : Value), v = .tuple #[u, vptr x] ∧ Hist z0 es τ ∧ (es.length ≤ 150 ∧ ∃ a c, u = .slice a es.length c) ∧ L = [p, refR x τ, slR 39 11 u es.length (es.flatMap enC), ensA es] := by
 refine Fn.intro (vs := [v, vint z0]) Tryz.func12 rfl rfl ?_
 intro F W
 refine G.rdAny (p := p) hx.own.cells (by (repeat' constructor)) fun av cv ev0 _ => ?_
 subst ev0
 have hrd := hx.own.cells
 have hlen := hx.own.len
 refine G.seq (G.region (G.q (Quiet.assign rfl) rfl (G.q (Quiet.assign rfl) rfl (G.nil (G.then_n (G.seq (G.region ?_)))))))
 refine G.op (OpSpec.call Tryz.func25 rfl rfl (vs := []) rfl (rfnew_spec)) (by (repeat' constructor)) rfl ?nx3
 rintro v L' ⟨x, rfl, rfl⟩
 refine G.q (Quiet.assign rfl) rfl (G.nil (G.then_n (G.seq (G.add (slR_nil 39 11) ?_))))
 refine G.add (p := ensA []) (fun h e he => by cases he) ?_
 refine G.region (G.q (Quiet.assign rfl) rfl (G.nil (G.then_n (G.seq (G.seq (G.region (G.q (Quiet.assign rfl) rfl (G.nil (G.then_n (G.block ?_))))))))))
 refine G.loopK (ι := Nat × (List En) × Tr × Value) (fun q E => (8, vint q.1) :: (7, q.2.2.2) :: E) (fun q => [refR x q.2.2.1, slR 39 11 q.2.2.2 q.2.1.length (q.2.1.flatMap enC), ensA q.2.1]) (fun q => (q.1 ≤ xs.length ∧ q.1 ≤ 150 ∧ q.2.1.length ≤ q.1) ∧ Hist z0 q.2.1 q.2.2.1 ∧ ∃ a c, q.2.2.2 = .slice a q.2.1.length c) (fun q => xs.length - q.1) (0, [], newT, .slice none 0 0) (ts := [0, 1, 4, 5, 6]) (.cons rfl (.cons rfl (.cons rfl (.cons rfl (.cons rfl (.nil)))))) (⟨⟨Nat.zero_le _, Nat.zero_le _, Nat.le_refl _⟩, .nil, none, 0, rfl⟩) ⟨rfl, rfl, rfl, rfl, rfl, rfl, rfl, trivial⟩ (by (repeat' constructor)) ?_
 rintro ⟨i, es, τ, u⟩ ⟨⟨hi, hi150, hei⟩, hh, au, cu, hu⟩
 dsimp only
 dsimp only at hi hi150 hei hh hu
 subst hu
 have hinv := hh.inv
 have hfew := hinv.ok.few
 refine G.seq (G.seq (G.region (G.q (Quiet.move rfl) rfl (G.q (Quiet.move rfl) rfl (G.q (Quiet.slen rfl Tryz.underlying22 rfl) rfl (G.q (Quiet.int rfl rfl rfl) rfl (G.q (Quiet.move rfl) rfl ?_)))))))
 refine G.dec (t := 16) rfl (fun h4_16 => ?_) (fun h4_16 => ?_)
 ·refine G.kDT (t := 15) rfl h4_16 (G.grun (t := 16) rfl rfl rfl (G.q (Quiet.move rfl) rfl (G.grun (t := 16) rfl rfl rfl (G.q (Quiet.int rfl rfl rfl) rfl (G.q (Quiet.pickT rfl rfl) rfl (G.nil (G.then_n ?_)))))))
  refine G.condD rfl (fun h19 => ?_) (fun h19 => ?_)
  ·have hi2 : i < xs.length := by omega
   refine G.rdShape (p := p) hrd (by (repeat' constructor)) (by omega) fun bv ov e1 => ?_
   subst e1
   obtain ⟨hk1, hk2, hk3, hk4⟩ := hx.own.ok _ (List.getElem_mem hi2)
   obtain ⟨ss, hss, hcs⟩ := hx.subs _ (List.getElem_mem hi2)
   have hp9 := pickZ_range xs[i].2.1 (n := 9) (by decide)
   refine G.skip (G.then_n (G.seq (G.block (G.seq ?_))))
   refine G.draw [16, 21, 23, 24] [[0, 1, 2, 3, 4, 5, 6, 7, 8, 9, 10, 11, 12, 13, 14, 15, 17, 18, 19, 20, 16, 21, 22, 23], [24]] mixed (by kernel_rfl) ?_
   refine Phases.go [p] (by (repeat' constructor)) ?_
   refine D.q rfl (by kernel_rfl) (Quiet.move rfl) ?_
   refine D.q rfl (by kernel_rfl) (Quiet.move rfl) ?_
   refine D.q rfl (by kernel_rfl) (Quiet.slen rfl Tryz.underlying24 rfl) ?_
   refine D.q rfl (by kernel_rfl) (Quiet.add rfl rfl (by omega)) ?_
   refine D.q rfl (by kernel_rfl) (Quiet.move rfl) ?_
   refine D.q rfl (by kernel_rfl) (Quiet.move rfl) ?_
   refine D.q rfl (by kernel_rfl) (Quiet.indexAddr rfl rfl el_22 (by omega)) ?_
   refine D.q rfl (by kernel_rfl) (Quiet.fieldAddr rfl fo_94_1) ?_
   refine D.q rfl (by kernel_rfl) (Quiet.loadRd (sz := 5) (j := i * 5 + 1) (p := p) rfl ag_3 (by (repeat' constructor)) hrd (by omega) ((ac0_cell (l := xs) (i := i) (k := 1) (by omega) (by decide)).trans rfl)) ?_
   refine D.m rfl (by kernel_rfl) (OpSpec.call Tryz.func21 rfl rfl (vs := [_, _]) rfl (pick7_spec _ _ hk2 (by decide))) (by (repeat' constructor)) ?nx22
   refine D.q rfl (by kernel_rfl) (Quiet.move rfl) ?_
   refine D.q rfl (by kernel_rfl) (Quiet.move rfl) ?_
   refine D.q rfl (by kernel_rfl) (Quiet.move rfl) ?_
   refine D.q rfl (by kernel_rfl) (Quiet.move rfl) ?_
   refine D.q rfl (by kernel_rfl) (Quiet.indexAddr rfl rfl el_22 (by omega)) ?_
   refine D.q rfl (by kernel_rfl) (Quiet.loadRdA (sz := 5) (j := i * 5) (k := 5) (p := p) (vs := ac0C xs[i]) rfl ag_94 (by (repeat' constructor)) hrd (by simp) (by omega) (by omega) (flatMap_at (f := ac0C) (sz := 5) (fun _ _ => rfl) (by omega))) ?_
   refine D.q rfl (by kernel_rfl) (Quiet.move rfl) ?_
   refine D.q rfl (by kernel_rfl) (Quiet.move rfl) ?_
   refine D.q rfl (by kernel_rfl) (Quiet.slen rfl Tryz.underlying24 rfl) ?_
   refine D.q rfl (by kernel_rfl) (Quiet.add rfl rfl (by omega)) ?_
   refine D.h2R (k := 23) rfl rfl (by kernel_rfl) rfl (SpecR.ro [p] (OpSpec.call Tryz.func44 rfl rfl (vs := [_]) rfl (small7_ro xs[i] p ss hss hcs (by omega))) (by (repeat' constructor))) (by (repeat' constructor)) (SpecR.own (OpSpec.allocA ze_39)) (by (repeat' constructor)) ?nx34 ?nx35
   ·rintro v L' ⟨uv, us, rfl, hsm, rfl⟩
    refine D.h2 (k := 23) rfl rfl (by kernel_rfl) rfl (OpSpec.call Tryz.func43 rfl rfl (vs := [_, _, _]) rfl (txn7_spec x τ (xs[i].1, (xs[i].2.1, (xs[i].2.2.1, (xs[i].2.2.2.1.take 100, uv)))) _ us (z0 + es.length) (60 * es.length) hinv (by omega) ⟨hk1, hk2, hk3⟩ (by rw [List.length_take]; omega) (acts0_own hsm) hsm)) (by (repeat' constructor)) (OpSpec.allocA ze_39) (by (repeat' constructor)) ?nx37 ?nx38
    ·rintro v L' ⟨y, subs, rfl, hsh, hcc, rfl⟩
     refine D.q rfl (by kernel_rfl) (Quiet.buildN (pl := [(0, 1), (1, 1), (2, 1), (3, 8)]) (us := [(0, vint (z0 + es.length)), (1, vint (pickZ xs[i].2.1 9)), (2, vint i), (3, .agg (ptC y).toArray)]) (cells := enC (⟨z0 + es.length, pickZ xs[i].2.1 9, i, y, subs⟩ : En)) Tryz.underlying39 (by kernel_rfl) ze_39 rfl (fill_entry4 _ _ _ _ _ _ _ _ _ _ _)) ?_
     refine D.h rfl (by kernel_rfl) (OpSpec.allocA ze_39) (by (repeat' constructor)) ?nx41
     rintro v L' ⟨b9, rfl, rfl⟩
     refine D.ph ?_
     refine Phases.go [] (by (repeat' constructor)) ?_
     refine D.h rfl (by kernel_rfl) (OpSpec.storeA rfl rfl ?c43 sz_39 ?c46 ?c44 ?c45) (by (repeat' constructor)) ?nx47
     case c43 => exact en_cells (e := (⟨z0 + es.length, pickZ xs[i].2.1 9, i, y, subs⟩ : En)) hcc
     case c46 => rfl
     case c44 => simp [enC, ptC]
     case c45 => exact nfz0 _ _
     rintro v L' rfl
     refine D.ph (Phases.fin ?_)
     refine G.ptCast (b := b9) (l' := enC (⟨z0 + es.length, pickZ xs[i].2.1 9, i, y, subs⟩ : En)) (by (repeat' constructor)) rfl ?_
     have htx := ShapeH.tx (e := (⟨z0 + es.length, pickZ xs[i].2.1 9, i, y, subs⟩ : En)) hsh hcc (p := txRd y subs) (fun h hp => hp)
     have hfs := (ShapeH.sz (e := (⟨z0 + es.length, pickZ xs[i].2.1 9, i, y, subs⟩ : En)) hsh).few
     have hfs2 : subs.length ≤ 60 := hfs
     refine G.then_n (G.seq (G.region (G.q (Quiet.move rfl) rfl ?_)))
     refine G.q (Quiet.loadAs (vs := enC (⟨z0 + es.length, pickZ xs[i].2.1 9, i, y, subs⟩ : En)) rfl ag_39 (by (repeat' constructor)) (by simp [enC, ptC]) rfl) rfl ?_
     refine G.op (OpSpec.call Tryz.func45 rfl rfl (vs := [_, _]) rfl (rsound_spec x τ (z0 + es.length) (pickZ xs[i].2.1 9) i y subs _ htx 60 hinv.ok (by omega))) (by (repeat' constructor)) rfl ?nx50
     rintro v L' ⟨rfl, rfl⟩
     refine G.q (Quiet.assign rfl) rfl (G.nil (G.then_n (G.seq (G.seq ?_))))
     refine G.rfOpen (x := x) (τ := τ) (by (repeat' constructor)) fun an cn as1 cs l hl => ?_
     have hll := nds_len hl
     refine G.region (G.q (Quiet.move rfl) rfl (G.q (Quiet.not rfl) rfl (G.q (Quiet.move rfl) rfl ?_)))
     refine G.bool (t := 50) rfl (fun h8_50 => ?_) (fun h8_50 => ?_)
     ·refine G.kB (t := 49) rfl h8_50 (G.gskip (t := 50) rfl rfl rfl rfl (G.gskip (t := 50) rfl rfl rfl rfl (G.gskip (t := 50) rfl rfl rfl rfl (G.gskip (t := 50) rfl rfl rfl rfl (G.gskip (t := 50) rfl rfl rfl rfl (G.gskip (t := 50) rfl rfl rfl rfl (G.gskip (t := 50) rfl rfl rfl rfl (G.gskipU (t := 57) rfl rfl rfl (G.gskipU (t := 57) rfl rfl rfl (G.gskipU (t := 57) rfl rfl rfl (G.gskipU (t := 57) rfl rfl rfl (G.gskipU (t := 57) rfl rfl rfl (G.gskipU (t := 62) rfl rfl rfl (G.gskipU (t := 62) rfl rfl rfl (G.gskipU (t := 62) rfl rfl rfl (G.gskipU (t := 62) rfl rfl rfl (G.gskipU (t := 57) rfl rfl rfl (G.gskip (t := 50) rfl rfl rfl rfl (G.q (Quiet.pickT rfl rfl) rfl (G.nil ?_))))))))))))))))))))
      refine G.rfFold (x := x) (τ := τ) (l := l) hl (by (repeat' constructor)) rfl rfl rfl rfl rfl ?_
      refine G.then_n (G.condT rfl (G.exit (G.then_e (G.blk_e (G.then_n (G.region (G.q (Quiet.move rfl) rfl ?_)))))))
      refine G.q (Quiet.add rfl rfl (by omega)) rfl ?_
      refine G.q (Quiet.assign rfl) rfl (G.nil (G.then_n ?_))
      exact G.roundK ((i + 1, es, τ, .slice au es.length cu)) (⟨⟨by dsimp only; omega, by dsimp only; omega, by dsimp only; omega⟩, hh, _, _, rfl⟩) (by dsimp only; omega) ⟨rfl, rfl, rfl, rfl, rfl, rfl, rfl, trivial⟩ (by (repeat' constructor)) (by ((repeat (apply Have.cons; (repeat (first | exact Pick.here | apply Pick.there)))); apply Have.base; repeat' constructor))
     ·refine G.kB (t := 49) rfl h8_50 (G.grun (t := 50) rfl rfl rfl (G.q (Quiet.move rfl) rfl (G.grun (t := 50) rfl rfl rfl (G.q (Quiet.nilp rfl) rfl (G.grun (t := 50) rfl rfl rfl (G.q (Quiet.fieldAddr rfl fo_101_0) rfl (G.grun (t := 50) rfl rfl rfl ?_)))))))
      refine G.q (Quiet.load rfl ag_98 (by (repeat' constructor)) (rfl)) rfl ?_
      refine G.grun (t := 50) rfl rfl rfl (G.q (Quiet.slen rfl Tryz.underlying98 rfl) rfl (G.grun (t := 50) rfl rfl rfl ?_))
      refine G.q (Quiet.as (v' := .bool false) (by exact congrArg Value.bool (decide_eq_false (by omega))) (Quiet.int rfl rfl rfl)) rfl ?_
      refine G.grun (t := 50) rfl rfl rfl (G.q (Quiet.move rfl) rfl (G.gskip (t := 57) rfl rfl rfl rfl (G.gskip (t := 57) rfl rfl rfl rfl (G.gskip (t := 57) rfl rfl rfl rfl (G.gskip (t := 57) rfl rfl rfl rfl (G.gskip (t := 57) rfl rfl rfl rfl (G.gskipU (t := 62) rfl rfl rfl (G.gskipU (t := 62) rfl rfl rfl (G.gskipU (t := 62) rfl rfl rfl (G.gskipU (t := 62) rfl rfl rfl (G.gskip (t := 57) rfl rfl rfl rfl (G.grun (t := 50) rfl rfl rfl (G.q (Quiet.pickF rfl rfl) rfl (G.q (Quiet.pickF rfl rfl) rfl (G.nil ?_)))))))))))))))
      refine G.rfFold (x := x) (τ := τ) (l := l) hl (by (repeat' constructor)) rfl rfl rfl rfl rfl ?_
      refine G.then_n (G.condF rfl (G.skip (G.then_n (G.seq ?_))))
      have hsd : soundZ τ (z0 + es.length) y subs = true := by simpa using h8_50
      have hE : EntH τ (⟨z0 + es.length, pickZ xs[i].2.1 9, i, y, subs⟩ : En) (60 * es.length) := ⟨hsd, hsh, ⟨hp9.1, hp9.2⟩, hcc⟩
      refine G.region (G.q (Quiet.move rfl) rfl ?_)
      refine G.q (Quiet.loadAs (vs := enC (⟨z0 + es.length, pickZ xs[i].2.1 9, i, y, subs⟩ : En)) rfl ag_39 (by (repeat' constructor)) (by simp [enC, ptC]) rfl) rfl ?_
      refine G.op (OpSpec.call Tryz.func26 rfl rfl (vs := [_, _]) rfl (rapply_spec x τ (z0 + es.length) (pickZ xs[i].2.1 9) i y subs _ htx 60 hinv.ok (by omega))) (by (repeat' constructor)) rfl ?nx65
      rintro v L' ⟨ue, ee, rfl, he, hue, rfl⟩
      refine G.nil ?_
      refine G.rfCast (x := x) (τ' := (appE τ (⟨z0 + es.length, pickZ xs[i].2.1 9, i, y, subs⟩ : En))) (by (repeat' constructor)) (rfl) ?_
      refine G.fold (p := ensA (es ++ [(⟨z0 + es.length, pickZ xs[i].2.1 9, i, y, subs⟩ : En)])) (.cons (p := ensA es) (by (repeat' constructor)) (.cons (p := txRd y subs) (by (repeat' constructor)) .nil)) (fun _ hp => ensA_snoc hp) ?_
      refine G.then_n (G.region (G.q (Quiet.move rfl) rfl ?_))
      refine G.q (Quiet.loadAs (vs := enC (⟨z0 + es.length, pickZ xs[i].2.1 9, i, y, subs⟩ : En)) rfl ag_39 (by (repeat' constructor)) (by simp [enC, ptC]) rfl) rfl ?_
      refine G.op (OpSpec.buildSlice (vs := [_]) el_24 ze_39 rfl rfl rfl rfl (by first | (simp [Value.cells]; done) | (intro v hv; simp only [List.mem_cons, List.not_mem_nil, or_false] at hv; (repeat (first | (subst hv; rfl) | (rcases hv with hv | hv; (subst hv; rfl)))))) (by decide)) (by (repeat' constructor)) rfl ?nx69
      rintro v L' ⟨b10, rfl, rfl⟩
      refine G.op (OpSpec.append1 rfl rfl rfl el_24 ze_39 rfl rfl ?c71 ?c72 (Nat.le_refl _) ?c73 (by decide)) (by (repeat' constructor)) rfl ?nx74
      case c71 => simp only [List.map_cons, List.map_nil, List.flatten_cons, List.flatten_nil, List.append_nil]; exact en_cells (e := (⟨z0 + es.length, pickZ xs[i].2.1 9, i, y, subs⟩ : En)) hcc
      case c72 => rfl
      case c73 => first | omega | (simp; omega)
      rintro v L' ⟨⟨a10_3, c10_3, rfl⟩, rfl⟩
      refine G.q (Quiet.assign rfl) rfl (G.nil (G.blk_n (G.then_n (G.region (G.q (Quiet.move rfl) rfl ?_)))))
      refine G.q (Quiet.add rfl rfl (by omega)) rfl ?_
      refine G.q (Quiet.assign rfl) rfl (G.nil (G.then_n ?_))
      refine G.slCast (T := 39) (sz := 11) (m' := (es ++ [(⟨z0 + es.length, pickZ xs[i].2.1 9, i, y, subs⟩ : En)]).length) (xs' := (es ++ [(⟨z0 + es.length, pickZ xs[i].2.1 9, i, y, subs⟩ : En)]).flatMap enC) (by (repeat' constructor)) (by rw [List.length_append]; rfl) (by rw [List.flatMap_append]; simp; rfl) ?_
      exact G.roundK ((i + 1, es ++ [(⟨z0 + es.length, pickZ xs[i].2.1 9, i, y, subs⟩ : En)], appE τ (⟨z0 + es.length, pickZ xs[i].2.1 9, i, y, subs⟩ : En), .slice a10_3 (es.length + 1) c10_3)) (⟨⟨by dsimp only; omega, by dsimp only; omega, by dsimp only; rw [List.length_append]; simp; omega⟩, .snoc hh hE rfl ⟨by show (0 : Int) ≤ (i : Int); omega, by show (i : Int) < 150; omega⟩, _, _, by rw [List.length_append]; rfl⟩) (by dsimp only; omega) ⟨rfl, rfl, rfl, rfl, rfl, rfl, rfl, trivial⟩ (by (repeat' constructor)) (by ((repeat (apply Have.cons; (repeat (first | exact Pick.here | apply Pick.there)))); apply Have.base; repeat' constructor))
    ·rintro v L' ⟨b9, rfl, rfl⟩
     refine D.h rfl (by kernel_rfl) (OpSpec.call Tryz.func43 rfl rfl (vs := [_, _, _]) rfl (txn7_spec x τ (xs[i].1, (xs[i].2.1, (xs[i].2.2.1, (xs[i].2.2.2.1.take 100, uv)))) _ us (z0 + es.length) (60 * es.length) hinv (by omega) ⟨hk1, hk2, hk3⟩ (by rw [List.length_take]; omega) (acts0_own hsm) hsm)) (by (repeat' constructor)) ?nx79
     rintro v L' ⟨y, subs, rfl, hsh, hcc, rfl⟩
     refine D.qw [] rfl (by kernel_rfl) (Quiet.buildN (pl := [(0, 1), (1, 1), (2, 1), (3, 8)]) (us := [(0, vint (z0 + es.length)), (1, vint (pickZ xs[i].2.1 9)), (2, vint i), (3, .agg (ptC y).toArray)]) (cells := enC (⟨z0 + es.length, pickZ xs[i].2.1 9, i, y, subs⟩ : En)) Tryz.underlying39 (by kernel_rfl) ze_39 rfl (fill_entry4 _ _ _ _ _ _ _ _ _ _ _)) ?_
     refine D.ph ?_
     refine Phases.go [] (by (repeat' constructor)) ?_
     refine D.h rfl (by kernel_rfl) (OpSpec.storeA rfl rfl ?c82 sz_39 ?c85 ?c83 ?c84) (by (repeat' constructor)) ?nx86
     case c82 => exact en_cells (e := (⟨z0 + es.length, pickZ xs[i].2.1 9, i, y, subs⟩ : En)) hcc
     case c85 => rfl
     case c83 => simp [enC, ptC]
     case c84 => exact nfz0 _ _
     rintro v L' rfl
     refine D.ph (Phases.fin ?_)
     refine G.ptCast (b := b9) (l' := enC (⟨z0 + es.length, pickZ xs[i].2.1 9, i, y, subs⟩ : En)) (by (repeat' constructor)) rfl ?_
     have htx := ShapeH.tx (e := (⟨z0 + es.length, pickZ xs[i].2.1 9, i, y, subs⟩ : En)) hsh hcc (p := txRd y subs) (fun h hp => hp)
     have hfs := (ShapeH.sz (e := (⟨z0 + es.length, pickZ xs[i].2.1 9, i, y, subs⟩ : En)) hsh).few
     have hfs2 : subs.length ≤ 60 := hfs
     refine G.then_n (G.seq (G.region (G.q (Quiet.move rfl) rfl ?_)))
     refine G.q (Quiet.loadAs (vs := enC (⟨z0 + es.length, pickZ xs[i].2.1 9, i, y, subs⟩ : En)) rfl ag_39 (by (repeat' constructor)) (by simp [enC, ptC]) rfl) rfl ?_
     refine G.op (OpSpec.call Tryz.func45 rfl rfl (vs := [_, _]) rfl (rsound_spec x τ (z0 + es.length) (pickZ xs[i].2.1 9) i y subs _ htx 60 hinv.ok (by omega))) (by (repeat' constructor)) rfl ?nx89
     rintro v L' ⟨rfl, rfl⟩
     refine G.q (Quiet.assign rfl) rfl (G.nil (G.then_n (G.seq (G.seq ?_))))
     refine G.rfOpen (x := x) (τ := τ) (by (repeat' constructor)) fun an cn as1 cs l hl => ?_
     have hll := nds_len hl
     refine G.region (G.q (Quiet.move rfl) rfl (G.q (Quiet.not rfl) rfl (G.q (Quiet.move rfl) rfl ?_)))
     refine G.bool (t := 50) rfl (fun h8_50 => ?_) (fun h8_50 => ?_)
     ·refine G.kB (t := 49) rfl h8_50 (G.gskip (t := 50) rfl rfl rfl rfl (G.gskip (t := 50) rfl rfl rfl rfl (G.gskip (t := 50) rfl rfl rfl rfl (G.gskip (t := 50) rfl rfl rfl rfl (G.gskip (t := 50) rfl rfl rfl rfl (G.gskip (t := 50) rfl rfl rfl rfl (G.gskip (t := 50) rfl rfl rfl rfl (G.gskipU (t := 57) rfl rfl rfl (G.gskipU (t := 57) rfl rfl rfl (G.gskipU (t := 57) rfl rfl rfl (G.gskipU (t := 57) rfl rfl rfl (G.gskipU (t := 57) rfl rfl rfl (G.gskipU (t := 62) rfl rfl rfl (G.gskipU (t := 62) rfl rfl rfl (G.gskipU (t := 62) rfl rfl rfl (G.gskipU (t := 62) rfl rfl rfl (G.gskipU (t := 57) rfl rfl rfl (G.gskip (t := 50) rfl rfl rfl rfl (G.q (Quiet.pickT rfl rfl) rfl (G.nil ?_))))))))))))))))))))
      refine G.rfFold (x := x) (τ := τ) (l := l) hl (by (repeat' constructor)) rfl rfl rfl rfl rfl ?_
      refine G.then_n (G.condT rfl (G.exit (G.then_e (G.blk_e (G.then_n (G.region (G.q (Quiet.move rfl) rfl ?_)))))))
      refine G.q (Quiet.add rfl rfl (by omega)) rfl ?_
      refine G.q (Quiet.assign rfl) rfl (G.nil (G.then_n ?_))
      exact G.roundK ((i + 1, es, τ, .slice au es.length cu)) (⟨⟨by dsimp only; omega, by dsimp only; omega, by dsimp only; omega⟩, hh, _, _, rfl⟩) (by dsimp only; omega) ⟨rfl, rfl, rfl, rfl, rfl, rfl, rfl, trivial⟩ (by (repeat' constructor)) (by ((repeat (apply Have.cons; (repeat (first | exact Pick.here | apply Pick.there)))); apply Have.base; repeat' constructor))
     ·refine G.kB (t := 49) rfl h8_50 (G.grun (t := 50) rfl rfl rfl (G.q (Quiet.move rfl) rfl (G.grun (t := 50) rfl rfl rfl (G.q (Quiet.nilp rfl) rfl (G.grun (t := 50) rfl rfl rfl (G.q (Quiet.fieldAddr rfl fo_101_0) rfl (G.grun (t := 50) rfl rfl rfl ?_)))))))
      refine G.q (Quiet.load rfl ag_98 (by (repeat' constructor)) (rfl)) rfl ?_
      refine G.grun (t := 50) rfl rfl rfl (G.q (Quiet.slen rfl Tryz.underlying98 rfl) rfl (G.grun (t := 50) rfl rfl rfl ?_))
      refine G.q (Quiet.as (v' := .bool false) (by exact congrArg Value.bool (decide_eq_false (by omega))) (Quiet.int rfl rfl rfl)) rfl ?_
      refine G.grun (t := 50) rfl rfl rfl (G.q (Quiet.move rfl) rfl (G.gskip (t := 57) rfl rfl rfl rfl (G.gskip (t := 57) rfl rfl rfl rfl (G.gskip (t := 57) rfl rfl rfl rfl (G.gskip (t := 57) rfl rfl rfl rfl (G.gskip (t := 57) rfl rfl rfl rfl (G.gskipU (t := 62) rfl rfl rfl (G.gskipU (t := 62) rfl rfl rfl (G.gskipU (t := 62) rfl rfl rfl (G.gskipU (t := 62) rfl rfl rfl (G.gskip (t := 57) rfl rfl rfl rfl (G.grun (t := 50) rfl rfl rfl (G.q (Quiet.pickF rfl rfl) rfl (G.q (Quiet.pickF rfl rfl) rfl (G.nil ?_)))))))))))))))
      refine G.rfFold (x := x) (τ := τ) (l := l) hl (by (repeat' constructor)) rfl rfl rfl rfl rfl ?_
      refine G.then_n (G.condF rfl (G.skip (G.then_n (G.seq ?_))))
      have hsd : soundZ τ (z0 + es.length) y subs = true := by simpa using h8_50
      have hE : EntH τ (⟨z0 + es.length, pickZ xs[i].2.1 9, i, y, subs⟩ : En) (60 * es.length) := ⟨hsd, hsh, ⟨hp9.1, hp9.2⟩, hcc⟩
      refine G.region (G.q (Quiet.move rfl) rfl ?_)
      refine G.q (Quiet.loadAs (vs := enC (⟨z0 + es.length, pickZ xs[i].2.1 9, i, y, subs⟩ : En)) rfl ag_39 (by (repeat' constructor)) (by simp [enC, ptC]) rfl) rfl ?_
      refine G.op (OpSpec.call Tryz.func26 rfl rfl (vs := [_, _]) rfl (rapply_spec x τ (z0 + es.length) (pickZ xs[i].2.1 9) i y subs _ htx 60 hinv.ok (by omega))) (by (repeat' constructor)) rfl ?nx104
      rintro v L' ⟨ue, ee, rfl, he, hue, rfl⟩
      refine G.nil ?_
      refine G.rfCast (x := x) (τ' := (appE τ (⟨z0 + es.length, pickZ xs[i].2.1 9, i, y, subs⟩ : En))) (by (repeat' constructor)) (rfl) ?_
      refine G.fold (p := ensA (es ++ [(⟨z0 + es.length, pickZ xs[i].2.1 9, i, y, subs⟩ : En)])) (.cons (p := ensA es) (by (repeat' constructor)) (.cons (p := txRd y subs) (by (repeat' constructor)) .nil)) (fun _ hp => ensA_snoc hp) ?_
      refine G.then_n (G.region (G.q (Quiet.move rfl) rfl ?_))
      refine G.q (Quiet.loadAs (vs := enC (⟨z0 + es.length, pickZ xs[i].2.1 9, i, y, subs⟩ : En)) rfl ag_39 (by (repeat' constructor)) (by simp [enC, ptC]) rfl) rfl ?_
      refine G.op (OpSpec.buildSlice (vs := [_]) el_24 ze_39 rfl rfl rfl rfl (by first | (simp [Value.cells]; done) | (intro v hv; simp only [List.mem_cons, List.not_mem_nil, or_false] at hv; (repeat (first | (subst hv; rfl) | (rcases hv with hv | hv; (subst hv; rfl)))))) (by decide)) (by (repeat' constructor)) rfl ?nx108
      rintro v L' ⟨b10, rfl, rfl⟩
      refine G.op (OpSpec.append1 rfl rfl rfl el_24 ze_39 rfl rfl ?c110 ?c111 (Nat.le_refl _) ?c112 (by decide)) (by (repeat' constructor)) rfl ?nx113
      case c110 => simp only [List.map_cons, List.map_nil, List.flatten_cons, List.flatten_nil, List.append_nil]; exact en_cells (e := (⟨z0 + es.length, pickZ xs[i].2.1 9, i, y, subs⟩ : En)) hcc
      case c111 => rfl
      case c112 => first | omega | (simp; omega)
      rintro v L' ⟨⟨a10_3, c10_3, rfl⟩, rfl⟩
      refine G.q (Quiet.assign rfl) rfl (G.nil (G.blk_n (G.then_n (G.region (G.q (Quiet.move rfl) rfl ?_)))))
      refine G.q (Quiet.add rfl rfl (by omega)) rfl ?_
      refine G.q (Quiet.assign rfl) rfl (G.nil (G.then_n ?_))
      refine G.slCast (T := 39) (sz := 11) (m' := (es ++ [(⟨z0 + es.length, pickZ xs[i].2.1 9, i, y, subs⟩ : En)]).length) (xs' := (es ++ [(⟨z0 + es.length, pickZ xs[i].2.1 9, i, y, subs⟩ : En)]).flatMap enC) (by (repeat' constructor)) (by rw [List.length_append]; rfl) (by rw [List.flatMap_append]; simp; rfl) ?_
      exact G.roundK ((i + 1, es ++ [(⟨z0 + es.length, pickZ xs[i].2.1 9, i, y, subs⟩ : En)], appE τ (⟨z0 + es.length, pickZ xs[i].2.1 9, i, y, subs⟩ : En), .slice a10_3 (es.length + 1) c10_3)) (⟨⟨by dsimp only; omega, by dsimp only; omega, by dsimp only; rw [List.length_append]; simp; omega⟩, .snoc hh hE rfl ⟨by show (0 : Int) ≤ (i : Int); omega, by show (i : Int) < 150; omega⟩, _, _, by rw [List.length_append]; rfl⟩) (by dsimp only; omega) ⟨rfl, rfl, rfl, rfl, rfl, rfl, rfl, trivial⟩ (by (repeat' constructor)) (by ((repeat (apply Have.cons; (repeat (first | exact Pick.here | apply Pick.there)))); apply Have.base; repeat' constructor))
   ·rintro v L' ⟨b9, rfl, rfl⟩
    refine D.hR rfl (by kernel_rfl) (SpecR.ro [p] (OpSpec.call Tryz.func44 rfl rfl (vs := [_]) rfl (small7_ro xs[i] p ss hss hcs (by omega))) (by (repeat' constructor))) (by (repeat' constructor)) ?nx118
    rintro v L' ⟨uv, us, rfl, hsm, rfl⟩
    refine D.h rfl (by kernel_rfl) (OpSpec.call Tryz.func43 rfl rfl (vs := [_, _, _]) rfl (txn7_spec x τ (xs[i].1, (xs[i].2.1, (xs[i].2.2.1, (xs[i].2.2.2.1.take 100, uv)))) _ us (z0 + es.length) (60 * es.length) hinv (by omega) ⟨hk1, hk2, hk3⟩ (by rw [List.length_take]; omega) (acts0_own hsm) hsm)) (by (repeat' constructor)) ?nx120
    rintro v L' ⟨y, subs, rfl, hsh, hcc, rfl⟩
    refine D.qw [] rfl (by kernel_rfl) (Quiet.buildN (pl := [(0, 1), (1, 1), (2, 1), (3, 8)]) (us := [(0, vint (z0 + es.length)), (1, vint (pickZ xs[i].2.1 9)), (2, vint i), (3, .agg (ptC y).toArray)]) (cells := enC (⟨z0 + es.length, pickZ xs[i].2.1 9, i, y, subs⟩ : En)) Tryz.underlying39 (by kernel_rfl) ze_39 rfl (fill_entry4 _ _ _ _ _ _ _ _ _ _ _)) ?_
    refine D.ph ?_
    refine Phases.go [] (by (repeat' constructor)) ?_
    refine D.h rfl (by kernel_rfl) (OpSpec.storeA rfl rfl ?c123 sz_39 ?c126 ?c124 ?c125) (by (repeat' constructor)) ?nx127
    case c123 => exact en_cells (e := (⟨z0 + es.length, pickZ xs[i].2.1 9, i, y, subs⟩ : En)) hcc
    case c126 => rfl
    case c124 => simp [enC, ptC]
    case c125 => exact nfz0 _ _
    rintro v L' rfl
    refine D.ph (Phases.fin ?_)
    refine G.ptCast (b := b9) (l' := enC (⟨z0 + es.length, pickZ xs[i].2.1 9, i, y, subs⟩ : En)) (by (repeat' constructor)) rfl ?_
    have htx := ShapeH.tx (e := (⟨z0 + es.length, pickZ xs[i].2.1 9, i, y, subs⟩ : En)) hsh hcc (p := txRd y subs) (fun h hp => hp)
    have hfs := (ShapeH.sz (e := (⟨z0 + es.length, pickZ xs[i].2.1 9, i, y, subs⟩ : En)) hsh).few
    have hfs2 : subs.length ≤ 60 := hfs
    refine G.then_n (G.seq (G.region (G.q (Quiet.move rfl) rfl ?_)))
    refine G.q (Quiet.loadAs (vs := enC (⟨z0 + es.length, pickZ xs[i].2.1 9, i, y, subs⟩ : En)) rfl ag_39 (by (repeat' constructor)) (by simp [enC, ptC]) rfl) rfl ?_
    refine G.op (OpSpec.call Tryz.func45 rfl rfl (vs := [_, _]) rfl (rsound_spec x τ (z0 + es.length) (pickZ xs[i].2.1 9) i y subs _ htx 60 hinv.ok (by omega))) (by (repeat' constructor)) rfl ?nx130
    rintro v L' ⟨rfl, rfl⟩
    refine G.q (Quiet.assign rfl) rfl (G.nil (G.then_n (G.seq (G.seq ?_))))
    refine G.rfOpen (x := x) (τ := τ) (by (repeat' constructor)) fun an cn as1 cs l hl => ?_
    have hll := nds_len hl
    refine G.region (G.q (Quiet.move rfl) rfl (G.q (Quiet.not rfl) rfl (G.q (Quiet.move rfl) rfl ?_)))
    refine G.bool (t := 50) rfl (fun h8_50 => ?_) (fun h8_50 => ?_)
    ·refine G.kB (t := 49) rfl h8_50 (G.gskip (t := 50) rfl rfl rfl rfl (G.gskip (t := 50) rfl rfl rfl rfl (G.gskip (t := 50) rfl rfl rfl rfl (G.gskip (t := 50) rfl rfl rfl rfl (G.gskip (t := 50) rfl rfl rfl rfl (G.gskip (t := 50) rfl rfl rfl rfl (G.gskip (t := 50) rfl rfl rfl rfl (G.gskipU (t := 57) rfl rfl rfl (G.gskipU (t := 57) rfl rfl rfl (G.gskipU (t := 57) rfl rfl rfl (G.gskipU (t := 57) rfl rfl rfl (G.gskipU (t := 57) rfl rfl rfl (G.gskipU (t := 62) rfl rfl rfl (G.gskipU (t := 62) rfl rfl rfl (G.gskipU (t := 62) rfl rfl rfl (G.gskipU (t := 62) rfl rfl rfl (G.gskipU (t := 57) rfl rfl rfl (G.gskip (t := 50) rfl rfl rfl rfl (G.q (Quiet.pickT rfl rfl) rfl (G.nil ?_))))))))))))))))))))
     refine G.rfFold (x := x) (τ := τ) (l := l) hl (by (repeat' constructor)) rfl rfl rfl rfl rfl ?_
     refine G.then_n (G.condT rfl (G.exit (G.then_e (G.blk_e (G.then_n (G.region (G.q (Quiet.move rfl) rfl ?_)))))))
     refine G.q (Quiet.add rfl rfl (by omega)) rfl ?_
     refine G.q (Quiet.assign rfl) rfl (G.nil (G.then_n ?_))
     exact G.roundK ((i + 1, es, τ, .slice au es.length cu)) (⟨⟨by dsimp only; omega, by dsimp only; omega, by dsimp only; omega⟩, hh, _, _, rfl⟩) (by dsimp only; omega) ⟨rfl, rfl, rfl, rfl, rfl, rfl, rfl, trivial⟩ (by (repeat' constructor)) (by ((repeat (apply Have.cons; (repeat (first | exact Pick.here | apply Pick.there)))); apply Have.base; repeat' constructor))
    ·refine G.kB (t := 49) rfl h8_50 (G.grun (t := 50) rfl rfl rfl (G.q (Quiet.move rfl) rfl (G.grun (t := 50) rfl rfl rfl (G.q (Quiet.nilp rfl) rfl (G.grun (t := 50) rfl rfl rfl (G.q (Quiet.fieldAddr rfl fo_101_0) rfl (G.grun (t := 50) rfl rfl rfl ?_)))))))
     refine G.q (Quiet.load rfl ag_98 (by (repeat' constructor)) (rfl)) rfl ?_
     refine G.grun (t := 50) rfl rfl rfl (G.q (Quiet.slen rfl Tryz.underlying98 rfl) rfl (G.grun (t := 50) rfl rfl rfl ?_))
     refine G.q (Quiet.as (v' := .bool false) (by exact congrArg Value.bool (decide_eq_false (by omega))) (Quiet.int rfl rfl rfl)) rfl ?_
     refine G.grun (t := 50) rfl rfl rfl (G.q (Quiet.move rfl) rfl (G.gskip (t := 57) rfl rfl rfl rfl (G.gskip (t := 57) rfl rfl rfl rfl (G.gskip (t := 57) rfl rfl rfl rfl (G.gskip (t := 57) rfl rfl rfl rfl (G.gskip (t := 57) rfl rfl rfl rfl (G.gskipU (t := 62) rfl rfl rfl (G.gskipU (t := 62) rfl rfl rfl (G.gskipU (t := 62) rfl rfl rfl (G.gskipU (t := 62) rfl rfl rfl (G.gskip (t := 57) rfl rfl rfl rfl (G.grun (t := 50) rfl rfl rfl (G.q (Quiet.pickF rfl rfl) rfl (G.q (Quiet.pickF rfl rfl) rfl (G.nil ?_)))))))))))))))
     refine G.rfFold (x := x) (τ := τ) (l := l) hl (by (repeat' constructor)) rfl rfl rfl rfl rfl ?_
     refine G.then_n (G.condF rfl (G.skip (G.then_n (G.seq ?_))))
     have hsd : soundZ τ (z0 + es.length) y subs = true := by simpa using h8_50
     have hE : EntH τ (⟨z0 + es.length, pickZ xs[i].2.1 9, i, y, subs⟩ : En) (60 * es.length) := ⟨hsd, hsh, ⟨hp9.1, hp9.2⟩, hcc⟩
     refine G.region (G.q (Quiet.move rfl) rfl ?_)
     refine G.q (Quiet.loadAs (vs := enC (⟨z0 + es.length, pickZ xs[i].2.1 9, i, y, subs⟩ : En)) rfl ag_39 (by (repeat' constructor)) (by simp [enC, ptC]) rfl) rfl ?_
     refine G.op (OpSpec.call Tryz.func26 rfl rfl (vs := [_, _]) rfl (rapply_spec x τ (z0 + es.length) (pickZ xs[i].2.1 9) i y subs _ htx 60 hinv.ok (by omega))) (by (repeat' constructor)) rfl ?nx145
     rintro v L' ⟨ue, ee, rfl, he, hue, rfl⟩
     refine G.nil ?_
     refine G.rfCast (x := x) (τ' := (appE τ (⟨z0 + es.length, pickZ xs[i].2.1 9, i, y, subs⟩ : En))) (by (repeat' constructor)) (rfl) ?_
     refine G.fold (p := ensA (es ++ [(⟨z0 + es.length, pickZ xs[i].2.1 9, i, y, subs⟩ : En)])) (.cons (p := ensA es) (by (repeat' constructor)) (.cons (p := txRd y subs) (by (repeat' constructor)) .nil)) (fun _ hp => ensA_snoc hp) ?_
     refine G.then_n (G.region (G.q (Quiet.move rfl) rfl ?_))
     refine G.q (Quiet.loadAs (vs := enC (⟨z0 + es.length, pickZ xs[i].2.1 9, i, y, subs⟩ : En)) rfl ag_39 (by (repeat' constructor)) (by simp [enC, ptC]) rfl) rfl ?_
     refine G.op (OpSpec.buildSlice (vs := [_]) el_24 ze_39 rfl rfl rfl rfl (by first | (simp [Value.cells]; done) | (intro v hv; simp only [List.mem_cons, List.not_mem_nil, or_false] at hv; (repeat (first | (subst hv; rfl) | (rcases hv with hv | hv; (subst hv; rfl)))))) (by decide)) (by (repeat' constructor)) rfl ?nx149
     rintro v L' ⟨b10, rfl, rfl⟩
     refine G.op (OpSpec.append1 rfl rfl rfl el_24 ze_39 rfl rfl ?c151 ?c152 (Nat.le_refl _) ?c153 (by decide)) (by (repeat' constructor)) rfl ?nx154
     case c151 => simp only [List.map_cons, List.map_nil, List.flatten_cons, List.flatten_nil, List.append_nil]; exact en_cells (e := (⟨z0 + es.length, pickZ xs[i].2.1 9, i, y, subs⟩ : En)) hcc
     case c152 => rfl
     case c153 => first | omega | (simp; omega)
     rintro v L' ⟨⟨a10_3, c10_3, rfl⟩, rfl⟩
     refine G.q (Quiet.assign rfl) rfl (G.nil (G.blk_n (G.then_n (G.region (G.q (Quiet.move rfl) rfl ?_)))))
     refine G.q (Quiet.add rfl rfl (by omega)) rfl ?_
     refine G.q (Quiet.assign rfl) rfl (G.nil (G.then_n ?_))
     refine G.slCast (T := 39) (sz := 11) (m' := (es ++ [(⟨z0 + es.length, pickZ xs[i].2.1 9, i, y, subs⟩ : En)]).length) (xs' := (es ++ [(⟨z0 + es.length, pickZ xs[i].2.1 9, i, y, subs⟩ : En)]).flatMap enC) (by (repeat' constructor)) (by rw [List.length_append]; rfl) (by rw [List.flatMap_append]; simp; rfl) ?_
     exact G.roundK ((i + 1, es ++ [(⟨z0 + es.length, pickZ xs[i].2.1 9, i, y, subs⟩ : En)], appE τ (⟨z0 + es.length, pickZ xs[i].2.1 9, i, y, subs⟩ : En), .slice a10_3 (es.length + 1) c10_3)) (⟨⟨by dsimp only; omega, by dsimp only; omega, by dsimp only; rw [List.length_append]; simp; omega⟩, .snoc hh hE rfl ⟨by show (0 : Int) ≤ (i : Int); omega, by show (i : Int) < 150; omega⟩, _, _, by rw [List.length_append]; rfl⟩) (by dsimp only; omega) ⟨rfl, rfl, rfl, rfl, rfl, rfl, rfl, trivial⟩ (by (repeat' constructor)) (by ((repeat (apply Have.cons; (repeat (first | exact Pick.here | apply Pick.there)))); apply Have.base; repeat' constructor))
  ·refine G.exit (G.then_e (G.then_e (G.blk_e (G.then_n (G.seq (G.region (G.q (Quiet.move rfl) rfl (G.q (Quiet.move rfl) rfl (G.q (Quiet.assign rfl) rfl (G.q (Quiet.assign rfl) rfl (G.nil (G.then_n (G.ret ?_)))))))))))))
   exact G.done (l := [.tmp 4, .tmp 5]) rfl rfl ⟨es, τ, x, _, rfl, hh, ⟨by omega, _, _, rfl⟩, rfl⟩ (by (repeat' constructor)) (by (repeat' constructor))
 ·refine G.kDF (t := 15) rfl h4_16 (G.gskip (t := 16) rfl rfl rfl rfl (G.gskip (t := 16) rfl rfl rfl rfl (G.q (Quiet.pickF rfl rfl) rfl (G.nil (G.then_n (G.condF rfl (G.exit (G.then_e (G.then_e (G.blk_e (G.then_n (G.seq (G.region (G.q (Quiet.move rfl) rfl (G.q (Quiet.move rfl) rfl (G.q (Quiet.assign rfl) rfl (G.q (Quiet.assign rfl) rfl (G.nil (G.then_n (G.ret ?_))))))))))))))))))))
  exact G.done (l := [.tmp 4, .tmp 5]) rfl rfl ⟨es, τ, x, _, rfl, hh, ⟨by omega, _, _, rfl⟩, rfl⟩ (by (repeat' constructor)) (by (repeat' constructor))

end Go.Proofs.YtnnbelmpbmfdnaaGreatDoor

/- Own work, by program: package tree: Owned, Session, Kids: walked. -/

namespace Go.Proofs.YtnnbelmpbmfdnaaGreatDoor
open Go
def ownK (l : List (Bs × Nd)) (s : Int) : List Bs := (l.filter fun y => !decide (s = 0) && decide (y.2.st.own = s)).map (·.1)
theorem ownK_len (l : List (Bs × Nd)) (s : Int) : (ownK l s).length ≤ l.length := by unfold ownK; rw [List.length_map]; exact List.length_filter_le _ _
theorem ownK_yes {l : List (Bs × Nd)} {s : Int} {i : Nat} (hi : i < l.length) (h0 : s ≠ 0) (h : l[i].2.st.own = s) : ownK (l.take (i + 1)) s = ownK (l.take i) s ++ [l[i].1] := by
  unfold ownK; rw [List.take_succ_eq_append_getElem hi, List.filter_append, List.map_append]; simp [h0, h]
theorem ownK_no {l : List (Bs × Nd)} {s : Int} {i : Nat} (hi : i < l.length) (h : s ≠ 0 → l[i].2.st.own ≠ s) : ownK (l.take (i + 1)) s = ownK (l.take i) s := by
  unfold ownK; rw [List.take_succ_eq_append_getElem hi, List.filter_append, List.map_append]
  simp; intro h0; exact h h0
theorem TrI.getAt {τ : Tr} {m : NmM} {s : SsM} (h : TrI τ m s) {N : Nat} (ho : τ.Ok N) {i : Nat} (hi : i < τ.nodes.length) : ∃ px, alook m τ.nodes[i].1 = some px ∧ px.2.2 = τ.nodes[i].2 := by
  have h1 : alook τ.nodes τ.nodes[i].1 = some τ.nodes[i].2 := al_of_mem (ho.sorted.nodup linB) (List.getElem_mem hi)
  rw [← h.look] at h1
  rcases e : alook m τ.nodes[i].1 with _ | px
  · rw [e] at h1; cases h1
  · rw [e] at h1; exact ⟨px, rfl, by simpa using h1⟩
def sesD (τ : Tr) (id : Int) : Int × Bs := (alook τ.sess id).getD (0, [])
def sesT (τ : Tr) (id : Int) : Prop := (alook τ.sess id).isSome = true
instance (τ : Tr) (id : Int) : Decidable (sesT τ id) := inferInstanceAs (Decidable (_ = _))
set_option maxRecDepth 100000 in
theorem trowned_spec (t : Nat) (τ : Tr) (id : Int) (N : Nat) (ho : τ.Ok N) (hN : N ≤ 1099511627776) : Fn Tryz.prog 18 #[vptr t, vint id] [treeR t τ] fun v L => (∃ a c, v = .slice a (ownedZ τ id).length c) ∧ L = [treeR t τ, slR 9 1 v (ownedZ τ id).length (strs (ownedZ τ id))] := by
 refine Fn.intro (vs := [vptr t, vint id]) Tryz.func18 rfl rfl ?_
 intro F W
 have hfew := ho.few
 have hpz : (pathsZ τ).length = τ.nodes.length := List.length_map _
 refine G.seq (G.region (G.q (Quiet.assign rfl) rfl (G.nil (G.then_n (G.seq (G.add (slR_nil 9 1) (G.region (G.q (Quiet.assign rfl) rfl (G.nil (G.then_n (G.seq (G.seq (G.region (G.q (Quiet.move rfl) rfl ?_))))))))))))))
 refine G.op (OpSpec.call Tryz.func15 rfl rfl (vs := [_]) rfl (trpaths_spec t τ N ho hN)) (by (repeat' constructor)) rfl ?nx4
 rintro v L' ⟨⟨ap, cp, rfl⟩, rfl⟩
 refine G.q (Quiet.slen rfl Tryz.underlying40 rfl) rfl (G.q (Quiet.move rfl) rfl (G.nil (G.then_n (G.block ?_))))
 refine G.loopK (ι := Nat × Value) (fun q E => (11, vint q.1) :: (5, q.2) :: E) (fun q => [treeR t τ, slR 9 1 q.2 (ownK (τ.nodes.take q.1) id).length (strs (ownK (τ.nodes.take q.1) id))]) (fun q => q.1 ≤ (pathsZ τ).length ∧ ∃ a c, q.2 = .slice a (ownK (τ.nodes.take q.1) id).length c) (fun q => (pathsZ τ).length - q.1) (0, .slice none 0 0) (ts := [0, 1, 4, 9, 10]) (.cons rfl (.cons rfl (.cons rfl (.cons rfl (.cons rfl (.nil)))))) (⟨Nat.zero_le _, none, 0, rfl⟩) ⟨rfl, rfl, rfl, rfl, rfl, rfl, rfl, trivial⟩ (by (repeat' constructor)) ?_
 rintro ⟨i, u⟩ ⟨hi, au, cu, hu⟩
 dsimp only
 dsimp only at hi hu
 subst hu
 have hkl := ownK_len (τ.nodes.take i) id
 rw [List.length_take] at hkl
 refine G.seq (G.region (G.q (Quiet.int rfl rfl rfl) rfl (G.nil (G.then_n (G.seq ?_)))))
 refine G.condD rfl (fun h12 => ?_) (fun h12 => ?_)
 ·have hi2 : i < (pathsZ τ).length := by omega
  have hin : i < τ.nodes.length := by omega
  refine G.slShape (v := .slice ap _ cp) (by (repeat' constructor)) (by omega) fun bp cp' e0 mp _ => ?_
  simp only [Value.slice.injEq, true_and] at e0
  obtain ⟨rfl, rfl⟩ := e0
  have hpi : (pathsZ τ)[i] = τ.nodes[i].1 := by simp [pathsZ]
  refine G.skip (G.then_n (G.seq (G.block (G.seq (G.region ?_)))))
  refine G.q (Quiet.indexAddr rfl rfl el_40 (by omega)) rfl ?_
  refine G.q (Quiet.loadSl (v := vstr (pathsZ τ)[i]) (i := i * 1) rfl ag_9 (by (repeat' constructor)) (by simp [hi2])) rfl ?_
  refine G.q (Quiet.assign rfl) rfl (G.nil (G.then_n (G.seq ?_)))
  refine G.trOpen (τ := τ) (by (repeat' constructor)) fun rn rs m s hI => ?_
  obtain ⟨px, hal, hpx⟩ := hI.getAt ho hin
  rw [← hpi] at hal
  refine G.bigTake hal (by (repeat' constructor)) ?_
  refine G.ndOpen (x := ((pathsZ τ)[i], px)) (by (repeat' constructor)) ?_
  refine G.region (G.q (Quiet.move rfl) rfl (G.q (Quiet.int rfl rfl rfl) rfl (G.q (Quiet.move rfl) rfl ?_)))
  refine G.ndec (t := 17) rfl (fun h5_17 => ?_) (fun h5_17 => ?_)
  ·refine G.kNT (t := 16) rfl h5_17 (G.grun (t := 17) rfl rfl rfl (G.q (Quiet.move rfl) rfl (G.grun (t := 17) rfl rfl rfl (G.q (Quiet.nilp rfl) rfl (G.grun (t := 17) rfl rfl rfl (G.q (Quiet.fieldAddr rfl fo_110_0) rfl (G.grun (t := 17) rfl rfl rfl ?_)))))))
   refine G.q (Quiet.load rfl ag_107 (by (repeat' constructor)) (rfl)) rfl ?_
   refine G.grun (t := 17) rfl rfl rfl (G.q (Quiet.move rfl) rfl (G.grun (t := 17) rfl rfl rfl ?_))
   refine G.q (Quiet.lookupY (m := m) (enc := ndV) (KeyLaw.str Tryz.underlying9) (hal) rfl rfl Tryz.underlying107 ze_102 (by (repeat' constructor)) rfl) rfl ?_
   refine G.grun (t := 17) rfl rfl rfl (G.q (Quiet.nilp rfl) rfl (G.grun (t := 17) rfl rfl rfl (G.q (Quiet.fieldAddr rfl fo_106_2) rfl (G.grun (t := 17) rfl rfl rfl (G.q (Quiet.fieldAddr rfl fo_43_6) rfl (G.grun (t := 17) rfl rfl rfl ?_))))))
   refine G.q (Quiet.to (v' := vint τ.nodes[i].2.st.own) (Quiet.load rfl ag_3 (by (repeat' constructor)) rfl) (by rw [← hpx])) rfl ?_
   refine G.grun (t := 17) rfl rfl rfl (G.q (Quiet.move rfl) rfl (G.grun (t := 17) rfl rfl rfl (G.q (Quiet.int rfl rfl rfl) rfl (G.q (Quiet.pickT rfl rfl) rfl (G.nil ?_)))))
   refine G.ndFold (x := ((pathsZ τ)[i], px)) (by (repeat' constructor)) rfl rfl rfl rfl ?_
   refine G.bigPut (f := inN) (m := m) (pathsZ τ)[i] px rfl (by (repeat' constructor)) ?_
   rw [aset_self hal]
   refine G.trFold (τ := τ) hI (by (repeat' constructor)) rfl rfl rfl ?_
   refine G.then_n ?_
   refine G.condD rfl (fun h30 => ?_) (fun h30 => ?_)
   ·refine G.region (G.q (Quiet.move rfl) rfl (G.q (Quiet.move rfl) rfl ?_))
    refine G.op (OpSpec.buildSlice1 (vs := [_]) el_40 ze_9 rfl rfl rfl rfl rfl (by decide)) (by (repeat' constructor)) rfl ?nx25
    rintro v L' ⟨b6_2, rfl, rfl⟩
    refine G.op (OpSpec.append1 rfl rfl rfl el_40 ze_9 rfl rfl ?c27 ?c28 (Nat.le_refl _) ?c29 (by decide)) (by (repeat' constructor)) rfl ?nx30
    case c27 => (first | (simp [isCell]; done) | (simp [isCell, setAll, Value.cells]; done))
    case c28 => rfl
    case c29 => first | omega | (simp; omega)
    rintro v L' ⟨⟨a6_3, c6_3, rfl⟩, rfl⟩
    refine G.q (Quiet.assign rfl) rfl (G.nil (G.blk_n (G.then_n (G.region ?_))))
    refine G.q (Quiet.add rfl rfl (by omega)) rfl ?_
    refine G.q (Quiet.move rfl) rfl (G.nil (G.then_n ?_))
    have hst := ownK_yes hin h5_17 h30
    rw [show strs (ownK (τ.nodes.take i) id) ++ [vstr (pathsZ τ)[i]] = strs (ownK (τ.nodes.take (i + 1)) id) by rw [hst]; simp [strs, pathsZ], show (ownK (τ.nodes.take i) id).length + 1 = (ownK (τ.nodes.take (i + 1)) id).length by rw [hst, List.length_append]; rfl]
    exact G.roundK ((i + 1, .slice a6_3 (ownK (τ.nodes.take (i + 1)) id).length c6_3)) (⟨by dsimp only; omega, _, _, rfl⟩) (by dsimp only; omega) ⟨rfl, rfl, rfl, rfl, rfl, rfl, rfl, trivial⟩ (by (repeat' constructor)) (by ((repeat (apply Have.cons; (repeat (first | exact Pick.here | apply Pick.there)))); apply Have.base; repeat' constructor))
   ·refine G.skip (G.blk_n (G.then_n (G.region ?_)))
    refine G.q (Quiet.add rfl rfl (by omega)) rfl ?_
    refine G.q (Quiet.move rfl) rfl (G.nil (G.then_n ?_))
    have hst := ownK_no (s := id) hin (fun g => h30)
    rw [← hst]
    exact G.roundK ((i + 1, .slice au (ownK (τ.nodes.take (i + 1)) id).length cu)) (⟨by dsimp only; omega, _, _, rfl⟩) (by dsimp only; omega) ⟨rfl, rfl, rfl, rfl, rfl, rfl, rfl, trivial⟩ (by (repeat' constructor)) (by ((repeat (apply Have.cons; (repeat (first | exact Pick.here | apply Pick.there)))); apply Have.base; repeat' constructor))
  ·refine G.kNF (t := 16) rfl h5_17 (G.gskip (t := 17) rfl rfl rfl rfl (G.gskip (t := 17) rfl rfl rfl rfl (G.gskip (t := 17) rfl rfl rfl rfl (G.gskip (t := 17) rfl rfl rfl rfl (G.gskip (t := 17) rfl rfl rfl rfl (G.gskip (t := 17) rfl rfl rfl rfl (G.gskip (t := 17) rfl rfl rfl rfl (G.gskip (t := 17) rfl rfl rfl rfl (G.gskip (t := 17) rfl rfl rfl rfl (G.gskip (t := 17) rfl rfl rfl rfl (G.gskip (t := 17) rfl rfl rfl rfl (G.gskip (t := 17) rfl rfl rfl rfl (G.q (Quiet.pickF rfl rfl) rfl (G.nil ?_))))))))))))))
   refine G.ndFold (x := ((pathsZ τ)[i], px)) (by (repeat' constructor)) rfl rfl rfl rfl ?_
   refine G.bigPut (f := inN) (m := m) (pathsZ τ)[i] px rfl (by (repeat' constructor)) ?_
   rw [aset_self hal]
   refine G.trFold (τ := τ) hI (by (repeat' constructor)) rfl rfl rfl ?_
   refine G.then_n (G.condF rfl (G.skip (G.blk_n (G.then_n (G.region ?_)))))
   refine G.q (Quiet.add rfl rfl (by omega)) rfl ?_
   refine G.q (Quiet.move rfl) rfl (G.nil (G.then_n ?_))
   have hst := ownK_no (s := id) hin (fun g => absurd h5_17 g)
   rw [← hst]
   exact G.roundK ((i + 1, .slice au (ownK (τ.nodes.take (i + 1)) id).length cu)) (⟨by dsimp only; omega, _, _, rfl⟩) (by dsimp only; omega) ⟨rfl, rfl, rfl, rfl, rfl, rfl, rfl, trivial⟩ (by (repeat' constructor)) (by ((repeat (apply Have.cons; (repeat (first | exact Pick.here | apply Pick.there)))); apply Have.base; repeat' constructor))
 ·have hii : i = τ.nodes.length := by omega
  rw [hii, List.take_length]
  refine G.exit (G.then_e (G.then_e (G.blk_e (G.then_n (G.seq (G.region (G.q (Quiet.move rfl) rfl (G.q (Quiet.assign rfl) rfl (G.nil (G.then_n (G.ret ?_)))))))))))
  exact G.done (l := [.tmp 4]) rfl rfl ⟨⟨_, _, rfl⟩, rfl⟩ (by (repeat' constructor)) (by (repeat' constructor))

set_option maxRecDepth 100000 in
theorem trsession_spec (t : Nat) (τ : Tr) (id : Int) : Fn Tryz.prog 19 #[vptr t, vint id] [treeR t τ] fun v L => v = .tuple #[vint (sesD τ id).1, vstr (sesD τ id).2, .bool (decide (sesT τ id))] ∧ L = [treeR t τ] := by
 refine Fn.intro (vs := [vptr t, vint id]) Tryz.func19 rfl rfl ?_
 intro F W
 refine G.trOpen (τ := τ) (by (repeat' constructor)) fun rn rs m s hI => ?_
 refine G.seq (G.region (G.q (Quiet.assign rfl) rfl (G.q (Quiet.assign rfl) rfl (G.q (Quiet.assign rfl) rfl (G.nil (G.then_n (G.seq (G.region ?_))))))))
 rcases hal : alook s id with _ | y
 ·have hz : sesD τ id = (0, []) ∧ ¬ sesT τ id := by unfold sesD sesT; rw [← hI.slook, hal]; exact ⟨rfl, by simp⟩
  refine G.q (Quiet.move rfl) rfl (G.q (Quiet.nilp rfl) rfl (G.q (Quiet.fieldAddr rfl fo_110_1) rfl ?_))
  refine G.q (Quiet.load rfl ag_108 (by (repeat' constructor)) (rfl)) rfl ?_
  refine G.q (Quiet.move rfl) rfl ?_
  refine G.q (Quiet.lookupOkN (m := s) (enc := ssV) (KeyLaw.int Tryz.underlying3) hal rfl rfl Tryz.underlying108 ze_112 (by (repeat' constructor)) rfl) rfl ?_
  refine G.q (Quiet.move rfl) rfl (G.q (Quiet.extract rfl rfl) rfl (G.q (Quiet.extract rfl rfl) rfl ?_))
  refine G.op (OpSpec.allocA ze_112) (by (repeat' constructor)) rfl ?nx12
  rintro v L' ⟨b7, rfl, rfl⟩
  refine G.op (OpSpec.storeA rfl rfl ?c14 sz_112 ?c17 ?c15 ?c16) (by (repeat' constructor)) rfl ?nx18
  case c14 => (first | (simp [isCell]; done) | (simp [isCell, setAll, Value.cells]; done))
  case c17 => rfl
  case c15 => simp
  case c16 => exact nfz0 _ _
  rintro v L' rfl
  refine G.q (Quiet.assign rfl) rfl (G.nil ?_)
  refine G.ptCast (b := b7) (l' := [vint (sesD τ id).1, vstr (sesD τ id).2]) (by (repeat' constructor)) (by rw [hz.1]; rfl) ?_
  refine G.then_n (G.seq ?_)
  refine G.draw [] [[0, 1, 2, 3, 4, 5, 6, 7]] mixed (by kernel_rfl) ?_
  refine Phases.go [] (by (repeat' constructor)) ?_
  refine D.qw [1, 5, 6, 7] rfl (by kernel_rfl) (Quiet.fieldAddr rfl fo_112_0) ?_
  refine D.qw [5, 6, 7] rfl (by kernel_rfl) (Quiet.load rfl ag_3 (by (repeat' constructor)) (rfl)) ?_
  refine D.qw [3, 6, 7] rfl (by kernel_rfl) (Quiet.fieldAddr rfl fo_112_1) ?_
  refine D.qw [6, 7] rfl (by kernel_rfl) (Quiet.load rfl ag_9 (by (repeat' constructor)) (rfl)) ?_
  refine D.qw [7] rfl (by kernel_rfl) (Quiet.move rfl) ?_
  refine D.qw [6, 7] rfl (by kernel_rfl) (Quiet.assign rfl) ?_
  refine D.qw [7] rfl (by kernel_rfl) (Quiet.assign rfl) ?_
  refine D.qw [] rfl (by kernel_rfl) (Quiet.assign rfl) ?_
  refine D.ph (Phases.fin (G.then_n (G.ret ?_)))
  refine G.trFold (τ := τ) hI (by (repeat' constructor)) rfl rfl rfl ?_
  exact G.done (l := [.tmp 4, .tmp 5, .tmp 6]) rfl rfl ⟨by rw [decide_eq_false hz.2], rfl⟩ (by (repeat' constructor)) (by (repeat' constructor))
 ·have hz : sesD τ id = y ∧ sesT τ id := by unfold sesD sesT; rw [← hI.slook, hal]; exact ⟨rfl, rfl⟩
  refine G.q (Quiet.move rfl) rfl (G.q (Quiet.nilp rfl) rfl (G.q (Quiet.fieldAddr rfl fo_110_1) rfl ?_))
  refine G.q (Quiet.load rfl ag_108 (by (repeat' constructor)) (rfl)) rfl ?_
  refine G.q (Quiet.move rfl) rfl ?_
  refine G.q (Quiet.lookupOkY (m := s) (enc := ssV) (KeyLaw.int Tryz.underlying3) hal rfl rfl Tryz.underlying108 ze_112 (by (repeat' constructor)) rfl) rfl ?_
  refine G.q (Quiet.move rfl) rfl (G.q (Quiet.extract rfl rfl) rfl (G.q (Quiet.extract rfl rfl) rfl ?_))
  refine G.op (OpSpec.allocA ze_112) (by (repeat' constructor)) rfl ?nx31
  rintro v L' ⟨b7, rfl, rfl⟩
  refine G.op (OpSpec.storeA rfl rfl ?c33 sz_112 ?c36 ?c34 ?c35) (by (repeat' constructor)) rfl ?nx37
  case c33 => (first | (simp [isCell]; done) | (simp [isCell, setAll, Value.cells]; done))
  case c36 => rfl
  case c34 => simp
  case c35 => exact nfz0 _ _
  rintro v L' rfl
  refine G.q (Quiet.assign rfl) rfl (G.nil ?_)
  refine G.ptCast (b := b7) (l' := [vint (sesD τ id).1, vstr (sesD τ id).2]) (by (repeat' constructor)) (by rw [hz.1]; rfl) ?_
  refine G.then_n (G.seq ?_)
  refine G.draw [] [[0, 1, 2, 3, 4, 5, 6, 7]] mixed (by kernel_rfl) ?_
  refine Phases.go [] (by (repeat' constructor)) ?_
  refine D.qw [1, 5, 6, 7] rfl (by kernel_rfl) (Quiet.fieldAddr rfl fo_112_0) ?_
  refine D.qw [5, 6, 7] rfl (by kernel_rfl) (Quiet.load rfl ag_3 (by (repeat' constructor)) (rfl)) ?_
  refine D.qw [3, 6, 7] rfl (by kernel_rfl) (Quiet.fieldAddr rfl fo_112_1) ?_
  refine D.qw [6, 7] rfl (by kernel_rfl) (Quiet.load rfl ag_9 (by (repeat' constructor)) (rfl)) ?_
  refine D.qw [7] rfl (by kernel_rfl) (Quiet.move rfl) ?_
  refine D.qw [6, 7] rfl (by kernel_rfl) (Quiet.assign rfl) ?_
  refine D.qw [7] rfl (by kernel_rfl) (Quiet.assign rfl) ?_
  refine D.qw [] rfl (by kernel_rfl) (Quiet.assign rfl) ?_
  refine D.ph (Phases.fin (G.then_n (G.ret ?_)))
  refine G.trFold (τ := τ) hI (by (repeat' constructor)) rfl rfl rfl ?_
  exact G.done (l := [.tmp 4, .tmp 5, .tmp 6]) rfl rfl ⟨by rw [decide_eq_true hz.2], rfl⟩ (by (repeat' constructor)) (by (repeat' constructor))

set_option maxRecDepth 100000 in
theorem trkids_spec (t : Nat) (τ : Tr) (p : Bs) (N : Nat) (ho : τ.Ok N) (hN : N ≤ 1099511627776) : Fn Tryz.prog 50 #[vptr t, vstr p] [treeR t τ] fun v L => ∃ (u : Value) (l : List Bs), v = .tuple #[u, vint (if thereT τ p then 0 else 60)] ∧ True ∧ l = (if thereT τ p then kidsZ τ p else []) ∧ (∃ a c, u = .slice a l.length c) ∧ L = [treeR t τ, slR 9 1 u l.length (strs l)] := by
 refine Fn.intro (vs := [vptr t, vstr p]) Tryz.func50 rfl rfl ?_
 intro F W
 refine G.trOpen (τ := τ) (by (repeat' constructor)) fun rn rs m s hI => ?_
 have hlen := hI.len ho
 have hfew := ho.few
 refine G.seq (G.region (G.q (Quiet.assign rfl) rfl (G.q (Quiet.assign rfl) rfl (G.nil (G.then_n (G.seq (G.seq (G.region ?_))))))))
 rcases hal : alook m p with _ | px
 ·refine G.q (Quiet.move rfl) rfl (G.q (Quiet.nilp rfl) rfl (G.q (Quiet.fieldAddr rfl fo_110_0) rfl ?_))
  refine G.q (Quiet.load rfl ag_107 (by (repeat' constructor)) (rfl)) rfl ?_
  refine G.q (Quiet.move rfl) rfl ?_
  refine G.q (Quiet.lookupN (m := m) (enc := ndV) (KeyLaw.str Tryz.underlying9) (hal) rfl rfl Tryz.underlying107 ze_102 (by (repeat' constructor)) rfl) rfl ?_
  refine G.q (Quiet.as (v' := .bool true) (by rfl) (Quiet.ptreq rfl rfl Tryz.underlying102)) rfl ?_
  refine G.nil (G.then_n (G.condT rfl (G.seq (G.region (G.q (Quiet.assign rfl) rfl (G.q (Quiet.assign rfl) rfl (G.nil (G.then_n (G.ret (G.then_r ?_))))))))))
  refine G.trFold (τ := τ) hI (by (repeat' constructor)) rfl rfl rfl ?_
  refine G.add (slR_nil 9 1) ?_
  have hth : ¬ thereT τ p := hI.none_iff.1 hal
  exact G.done (l := [.tmp 4, .tmp 5]) rfl rfl ⟨.slice none 0 0, [], by rw [if_neg hth]; try rfl, trivial, (by rw [if_neg hth]), ⟨none, 0, rfl⟩, rfl⟩ (by (repeat' constructor)) (by (repeat' constructor))
 ·refine G.q (Quiet.move rfl) rfl (G.q (Quiet.nilp rfl) rfl (G.q (Quiet.fieldAddr rfl fo_110_0) rfl ?_))
  refine G.q (Quiet.load rfl ag_107 (by (repeat' constructor)) (rfl)) rfl ?_
  refine G.q (Quiet.move rfl) rfl ?_
  refine G.q (Quiet.lookupY (m := m) (enc := ndV) (KeyLaw.str Tryz.underlying9) (hal) rfl rfl Tryz.underlying107 ze_102 (by (repeat' constructor)) rfl) rfl ?_
  refine G.q (Quiet.as (v' := .bool false) (by rfl) (Quiet.ptreq rfl rfl Tryz.underlying102)) rfl ?_
  refine G.nil (G.then_n (G.condF rfl (G.skip (G.then_n (G.seq (G.region (G.q (Quiet.move rfl) rfl (G.q (Quiet.move rfl) rfl ?_))))))))
  refine G.op (OpSpec.call Tryz.func49 rfl rfl (vs := [_, _]) rfl (trkids0_spec t rn (.map (some rs)) (vint τ.zx) m p (hI.plen ho) (by omega))) (by (repeat' constructor)) rfl ?nx21
  rintro v L' ⟨⟨a5, c5, rfl⟩, rfl⟩
  refine G.q (Quiet.assign rfl) rfl (G.q (Quiet.assign rfl) rfl (G.nil (G.then_n (G.ret ?_))))
  refine G.trFold (τ := τ) hI (by (repeat' constructor)) rfl rfl rfl ?_
  have hth : thereT τ p := hI.some_iff hal
  have hkl : (kidsM m p).length = (kidsZ τ p).length := by rw [← hI.kids ho p, sortS_length]
  rw [hI.kids ho p, hkl]
  exact G.done (l := [.tmp 4, .tmp 5]) rfl rfl ⟨_, kidsZ τ p, by rw [if_pos hth], trivial, by rw [if_pos hth], ⟨_, _, rfl⟩, rfl⟩ (by (repeat' constructor)) (by (repeat' constructor))

end Go.Proofs.YtnnbelmpbmfdnaaGreatDoor

/- Own work: who owns what in a sound history: plain. -/
namespace Go.Proofs.YtnnbelmpbmfdnaaGreatDoor
open Go

def manyTo (τ : Tr) : Nat → Nat
  | 0 => 0
  | s + 1 => manyTo τ s + if s = 0 then 0 else (ownedZ τ s).length
def freeK (l : List (Bs × Nd)) : Nat := (l.filter fun y => decide (y.2.st.own = 0)).length
theorem stat_at {τ : Tr} {N : Nat} (ho : τ.Ok N) {i : Nat} (hi : i < τ.nodes.length) : statD τ τ.nodes[i].1 = { τ.nodes[i].2.st with len := τ.nodes[i].2.data.length, kids := (kidsZ τ τ.nodes[i].1).length } ∧ thereT τ τ.nodes[i].1 := by
  have h1 : alook τ.nodes τ.nodes[i].1 = some τ.nodes[i].2 := al_of_mem (ho.sorted.nodup linB) (List.getElem_mem hi)
  unfold statD statZ thereT
  rw [h1]; exact ⟨rfl, rfl⟩
theorem Hist.ok {z0 : Int} {l : List En} {τ : Tr} (h : Hist z0 l τ) {i : Nat} (hi : i ≤ l.length) : (appL newT (l.take i)).Ok 60 := (h.take i hi).inv.ok
theorem Hist.few {z0 : Int} {l : List En} {τ : Tr} (h : Hist z0 l τ) {i : Nat} (hi : i < l.length) : l[i].subs.length ≤ 60 := (h.at i hi).1.shape.sz.few
theorem en_cell {l : List En} {i k : Nat} (hi : i < l.length) (hk : k < 11) : (l.flatMap enC)[i * 11 + k]? = (enC l[i])[k]? := flatMap_cell (f := enC) (sz := 11) (fun _ _ => rfl) hi hk
end Go.Proofs.YtnnbelmpbmfdnaaGreatDoor

/- Own work: a tree of a sound history holds together; a closed session owns nothing: plain. -/

namespace Go.Proofs.YtnnbelmpbmfdnaaGreatDoor
open Go

def toldK (τ : Tr) (l : List Bs) : Nat := (l.map fun p => (kidsZ τ p).length).sum
def nonK (l : List Bs) : Nat := (l.filter fun p => !decide (p = [47])).length
theorem told_snoc (τ : Tr) {l : List Bs} {i : Nat} (hi : i < l.length) : toldK τ (l.take (i + 1)) = toldK τ (l.take i) + (kidsZ τ l[i]).length := by
  unfold toldK; rw [List.take_succ_eq_append_getElem hi, List.map_append, List.sum_append]; simp
theorem told_len (τ : Tr) (l : List Bs) : toldK τ l ≤ l.length * τ.nodes.length := by
  unfold toldK
  induction l with
  | nil => simp
  | cons x l ih =>
    have := kidsZ_len τ x
    rw [List.map_cons, List.sum_cons, List.length_cons, Nat.succ_mul]; omega
theorem non_yes {l : List Bs} {i : Nat} (hi : i < l.length) (h : l[i] ≠ [47]) : nonK (l.take (i + 1)) = nonK (l.take i) + 1 := by
  unfold nonK; rw [List.take_succ_eq_append_getElem hi, List.filter_append]; simp [h]
theorem non_no {l : List Bs} {i : Nat} (hi : i < l.length) (h : l[i] = [47]) : nonK (l.take (i + 1)) = nonK (l.take i) := by
  unfold nonK; rw [List.take_succ_eq_append_getElem hi, List.filter_append]; simp [h]
theorem non_len (l : List Bs) : nonK l ≤ l.length := List.length_filter_le _ _
theorem non_all {l : List Bs} (hn : l.Nodup) (h : [47] ∈ l) : nonK l + 1 = l.length := by
  induction l with
  | nil => cases h
  | cons x l ih =>
    obtain ⟨h1, h2⟩ := List.nodup_cons.1 hn
    by_cases e : x = [47]
    · subst e
      have : l.filter (fun p => !decide (p = [47])) = l := List.filter_eq_self.2 fun p hp => by
        have : p ≠ [47] := fun g => h1 (g ▸ hp)
        simp [this]
      unfold nonK; rw [List.filter_cons]; simp [this]
    · have := ih h2 ((List.mem_cons.1 h).resolve_left fun g => e g.symm)
      unfold nonK at this ⊢
      rw [List.filter_cons]
      simp only [e, decide_false, Bool.not_false, if_true, List.length_cons]
      omega
theorem sum_one {l : List Bs} (hn : l.Nodup) {x : Bs} (h : x ∈ l) : (l.map fun p => if x = p then 1 else 0).sum = 1 := by
  induction l with
  | nil => cases h
  | cons y l ih =>
    obtain ⟨h1, h2⟩ := List.nodup_cons.1 hn
    rw [List.map_cons, List.sum_cons]
    by_cases e : x = y
    · subst e
      have : (l.map fun p => if x = p then 1 else 0).sum = 0 := by
        have : (l.map fun p => if x = p then 1 else 0) = l.map fun _ => 0 := List.map_congr_left fun p hp => by
          rw [if_neg (fun (g : x = p) => h1 (by rw [g]; exact hp))]
        rw [this]
        clear this ih hn h h1 h2
        induction l with
        | nil => rfl
        | cons a l ih => rw [List.map_cons, List.sum_cons, ih]
      rw [if_pos rfl, this]
    · rw [if_neg e, ih h2 ((List.mem_cons.1 h).resolve_left e)]
theorem count_kids {keys : List Bs} (hn : keys.Nodup) : ∀ (l : List (Bs × Nd)), (∀ y ∈ l, y.1 ≠ [47] → parentZ y.1 ∈ keys) → (keys.map fun p => (l.filter fun y => !decide (y.1 = [47]) && decide (parentZ y.1 = p)).length).sum = nonK (l.map (·.1)) := by
  intro l
  induction l with
  | nil =>
    intro _
    clear hn
    have h0 : (keys.map fun p => (([] : List (Bs × Nd)).filter fun y => !decide (y.1 = [47]) && decide (parentZ y.1 = p)).length) = keys.map fun _ => 0 := List.map_congr_left fun p _ => rfl
    rw [h0]
    have h9 : ∀ ks : List Bs, (ks.map fun _ => 0).sum = 0 := by
      intro ks
      induction ks with
      | nil => rfl
      | cons a l ih => rw [List.map_cons, List.sum_cons, ih]
    rw [h9]; rfl
  | cons y l ih =>
    intro h
    have ih2 := ih fun z hz => h z (List.mem_cons_of_mem _ hz)
    by_cases e : y.1 = [47]
    · have h1 : (keys.map fun p => ((y :: l).filter fun y => !decide (y.1 = [47]) && decide (parentZ y.1 = p)).length) = keys.map fun p => (l.filter fun y => !decide (y.1 = [47]) && decide (parentZ y.1 = p)).length := List.map_congr_left fun p _ => by
        rw [List.filter_cons]; simp [e]
      rw [h1, ih2]
      unfold nonK
      rw [List.map_cons, List.filter_cons]; simp [e]
    · have h1 : (keys.map fun p => ((y :: l).filter fun y => !decide (y.1 = [47]) && decide (parentZ y.1 = p)).length) = keys.map fun p => (l.filter fun y => !decide (y.1 = [47]) && decide (parentZ y.1 = p)).length + if parentZ y.1 = p then 1 else 0 := List.map_congr_left fun p _ => by
        rw [List.filter_cons]
        by_cases g : parentZ y.1 = p <;> simp [e, g]
      have h2 : ∀ (ks : List Bs) (f g : Bs → Nat), (ks.map fun p => f p + g p).sum = (ks.map f).sum + (ks.map g).sum := by
        intro ks f g
        induction ks with
        | nil => rfl
        | cons a ks ih => rw [List.map_cons, List.sum_cons, ih, List.map_cons, List.map_cons, List.sum_cons, List.sum_cons]; omega
      rw [h1, h2, ih2, sum_one hn (h y List.mem_cons_self e)]
      unfold nonK
      rw [List.map_cons, List.filter_cons]; simp [e]
theorem there_paths {τ : Tr} {p : Bs} : thereT τ p ↔ p ∈ pathsZ τ := al_isSome
theorem told_all {τ : Tr} {K : Int} (h : HInv τ K) : toldK τ (pathsZ τ) = nonK (pathsZ τ) := by
  have h1 : toldK τ (pathsZ τ) = ((pathsZ τ).map fun p => (τ.nodes.filter fun y => !decide (y.1 = [47]) && decide (parentZ y.1 = p)).length).sum := by
    unfold toldK kidsZ
    congr 1
    exact List.map_congr_left fun p _ => List.length_map _
  rw [h1]
  exact count_kids (h.ok.sorted.nodup linB) τ.nodes fun y hy hne => by
    have : thereT τ y.1 := there_paths.2 (List.mem_map_of_mem hy)
    exact there_paths.1 (h.closed _ this hne)
theorem non_paths {τ : Tr} {K : Int} (h : HInv τ K) : nonK (pathsZ τ) + 1 = (pathsZ τ).length := non_all (h.ok.sorted.nodup linB) (there_paths.1 h.rootT)
theorem paths_lt {τ : Tr} {N : Nat} (ho : τ.Ok N) {i : Nat} (h0 : 0 < i) (hi : i < (pathsZ τ).length) : (pathsZ τ)[i - 1] < (pathsZ τ)[i] :=
  List.pairwise_iff_getElem.1 (show (pathsZ τ).Pairwise (· < ·) from ho.sorted) (i - 1) i (by omega) hi (by omega)
theorem kids_lt {τ : Tr} {N : Nat} (ho : τ.Ok N) {p : Bs} {i : Nat} (h0 : 0 < i) (hi : i < (kidsZ τ p).length) : (kidsZ τ p)[i - 1] < (kidsZ τ p)[i] :=
  List.pairwise_iff_getElem.1 (kids_sorted ho p) (i - 1) i (by omega) hi (by omega)
theorem kid_there' {τ : Tr} {K : Int} (h : HInv τ K) {p : Bs} {k : Nat} (hk : k < (kidsZ τ p).length) : thereT τ (kidZ p (kidsZ τ p)[k]) ∧ ((kidsZ τ p)[k]).length ≤ 60 := by
  have hm := List.getElem_mem hk
  unfold kidsZ at hm
  obtain ⟨y, hy, e⟩ := List.mem_map.1 hm
  obtain ⟨h1, h2⟩ := List.mem_filter.1 hy
  simp at h2
  have ht : thereT τ y.1 := there_paths.2 (List.mem_map_of_mem h1)
  have ha := h.able ht h2.1
  have e2 : (kidsZ τ p)[k] = baseZ y.1 := e.symm
  have hl := able_len (.inr ha)
  have hb := base_len y.1
  rw [e2]
  refine ⟨?_, by omega⟩
  rw [← h2.2, ← kid_parent ha]; exact ht
theorem no_own {τ : Tr} {N : Nat} (ho : τ.Ok N) {s : Int} (h : ∀ q n, alook τ.nodes q = some n → n.st.own ≠ s) : ownedZ τ s = [] := by
  rw [List.eq_nil_iff_forall_not_mem]
  intro q hq
  obtain ⟨-, n, h1, h2⟩ := (owned_mem (ho.sorted.nodup linB)).1 hq
  exact h q n h1 h2
theorem closed_none {τ : Tr} {K : Int} (h : HInv τ K) {e : En} (he : EntH τ e K) (hk : e.x.kind = 6) : ownedZ (appE τ e) e.x.own = [] ∧ ¬ sesT (appE τ e) e.x.own := by
  have hall := h.app he
  rcases he.shape with ⟨hs, hp⟩ | ⟨hk2, -⟩ | ⟨-, hc, hps, -⟩ | ⟨hk2, -⟩ | ⟨hk2, -⟩
  · have := hp.kind; omega
  · omega
  · have hsl := sound_parts he.sound (.inl hk)
    rw [decide_eq_true hk] at hsl
    have hno := close_none h hsl hps hc
    refine ⟨no_own hall.ok fun q n hq => ?_, ?_⟩
    · rw [app_close hk hc.kinds] at hq
      exact hno q n hq
    · rw [app_close hk hc.kinds]
      unfold sesT
      show ¬ (alook ((partsZ τ e.zx e.subs).1.sess.filter fun y => !decide (y.1 = e.x.own)) e.x.own).isSome = true
      rw [al_filter (fun k => !decide (k = e.x.own))]; simp
  · omega
  · omega
theorem Hist.closed {z0 : Int} {l : List En} {τ : Tr} (h : Hist z0 l τ) {i : Nat} (hi : i < l.length) (hk : l[i].x.kind = 6) : ownedZ (appL newT (l.take (i + 1))) l[i].x.own = [] ∧ ¬ sesT (appL newT (l.take (i + 1))) l[i].x.own := by
  rw [appL_step _ hi]
  exact closed_none ((h.take i (by omega)).inv.more (by rw [List.length_take]; omega)) (h.at i hi).1 hk
end Go.Proofs.YtnnbelmpbmfdnaaGreatDoor

/- Own work, by program: law 07: a tree holds together: walked. -/
namespace Go.Proofs.YtnnbelmpbmfdnaaGreatDoor
open Go
set_option maxHeartbeats 2000000 in
set_option maxRecDepth 100000 in
theorem stands7_spec (t : Nat) (τ : Tr) (K : Int) (hinv : HInv τ K) : Fn Tryz.prog 20 #[vptr t] [treeR t τ] fun r L => r = .bool true ∧ L = [treeR t τ] := by
 refine Fn.intro (vs := [vptr t]) Tryz.func20 rfl rfl ?_
 intro F W
 have hok := hinv.ok
 have hfew := hok.few
 have hpz : (pathsZ τ).length = τ.nodes.length := List.length_map _
 have htold := told_all hinv
 have hnon := non_paths hinv
 refine G.seq (G.region (G.q (Quiet.assign rfl) rfl (G.nil (G.then_n (G.seq (G.region (G.q (Quiet.move rfl) rfl ?_)))))))
 refine G.op (OpSpec.call Tryz.func15 rfl rfl (vs := [_]) rfl (trpaths_spec t τ 60 hok (by decide))) (by (repeat' constructor)) rfl ?nx3
 rintro v L' ⟨⟨ap, cp, rfl⟩, rfl⟩
 refine G.q (Quiet.assign rfl) rfl (G.nil (G.then_n (G.seq (G.region (G.q (Quiet.assign rfl) rfl (G.nil (G.then_n (G.seq (G.region (G.q (Quiet.assign rfl) rfl (G.nil (G.then_n (G.seq (G.seq (G.region (G.q (Quiet.assign rfl) rfl (G.nil (G.then_n (G.block ?_)))))))))))))))))))
 refine G.loopK (ι := Nat) (fun q E => (6, vint q) :: (5, vint (toldK τ ((pathsZ τ).take q))) :: (4, vint (nonK ((pathsZ τ).take q))) :: E) (fun q => [treeR t τ]) (fun q => q ≤ (pathsZ τ).length) (fun q => (pathsZ τ).length - q) (0) (ts := [0, 3]) (.cons rfl (.cons rfl (.nil))) (Nat.zero_le _) ⟨rfl, rfl, rfl, rfl, rfl, trivial⟩ (by (repeat' constructor)) ?_
 rintro i hi
 have htl := told_len τ ((pathsZ τ).take i)
 have htl2 : ((pathsZ τ).take i).length * τ.nodes.length ≤ 60 * 60 := Nat.mul_le_mul (by rw [List.length_take]; omega) hfew
 have hnl := non_len ((pathsZ τ).take i)
 rw [List.length_take] at hnl
 refine G.seq (G.seq (G.region (G.q (Quiet.move rfl) rfl (G.q (Quiet.move rfl) rfl (G.q (Quiet.slen rfl Tryz.underlying40 rfl) rfl (G.q (Quiet.int rfl rfl rfl) rfl (G.nil (G.then_n ?_))))))))
 refine G.condD rfl (fun h21 => ?_) (fun h21 => ?_)
 ·have hi2 : i < (pathsZ τ).length := by omega
  have hin : i < τ.nodes.length := by omega
  refine G.slShape (v := .slice ap _ cp) (xs := strs (pathsZ τ)) (by (repeat' constructor)) (by omega) fun bp cp' e0 mp _ => ?_
  simp only [Value.slice.injEq, true_and] at e0
  obtain ⟨rfl, rfl⟩ := e0
  have hpi : (pathsZ τ)[i] = τ.nodes[i].1 := by simp [pathsZ]
  have hth : thereT τ (pathsZ τ)[i] := there_paths.2 (List.getElem_mem hi2)
  have hkids : (statD τ (pathsZ τ)[i]).kids = (kidsZ τ (pathsZ τ)[i]).length := by simp only [hpi]; rw [(stat_at hok hin).1]
  have hkl := kidsZ_len τ (pathsZ τ)[i]
  have hpl : (pathsZ τ)[i].length ≤ 60 := by rw [hpi]; exact able_len (hok.able _ (List.getElem_mem hin))
  refine G.skip (G.then_n (G.seq (G.block (G.seq (G.region (G.q (Quiet.move rfl) rfl (G.q (Quiet.move rfl) rfl (G.q (Quiet.move rfl) rfl ?_))))))))
  refine G.q (Quiet.indexAddr rfl rfl el_40 (by omega)) rfl ?_
  refine G.q (Quiet.loadRd (sz := 1) (j := i * 1) (p := slR 9 1 _ (pathsZ τ).length (strs (pathsZ τ))) rfl ag_9 (by (repeat' constructor)) (fun h hp => slR_rd hp) (by omega) (strs_at hi2)) rfl ?_
  refine G.op (OpSpec.call Tryz.func16 rfl rfl (vs := [_, _]) rfl (trstat_spec t τ (pathsZ τ)[i] 60 hok (by decide))) (by (repeat' constructor)) rfl ?nx17
  rintro v L' ⟨rfl, rfl⟩; rw [decide_eq_true (hth)]
  refine G.q (Quiet.move rfl) rfl (G.q (Quiet.extract rfl rfl) rfl (G.q (Quiet.extract rfl rfl) rfl ?_))
  refine G.op (OpSpec.allocA ze_43) (by (repeat' constructor)) rfl ?nx21
  rintro v L' ⟨b7, rfl, rfl⟩
  refine G.op (OpSpec.storeA rfl rfl ?c23 sz_43 ?c26 ?c24 ?c25) (by (repeat' constructor)) rfl ?nx27
  case c23 => intro v hv; simp only [stC, List.mem_cons, List.not_mem_nil, or_false] at hv; rcases hv with rfl | rfl | rfl | rfl | rfl | rfl | rfl | rfl | rfl <;> rfl
  case c26 => rfl
  case c24 => simp [stC]
  case c25 => exact nfz0 _ _
  rintro v L' rfl
  refine G.q (Quiet.assign rfl) rfl (G.nil ?_)
  refine G.ptCast (b := b7) (l' := stC (statD τ (pathsZ τ)[i])) (by (repeat' constructor)) rfl ?_
  refine G.then_n (G.seq (G.region (G.q (Quiet.move rfl) rfl (G.q (Quiet.move rfl) rfl (G.q (Quiet.move rfl) rfl ?_)))))
  refine G.q (Quiet.indexAddr rfl rfl el_40 (by omega)) rfl ?_
  refine G.q (Quiet.loadRd (sz := 1) (j := i * 1) (p := slR 9 1 _ (pathsZ τ).length (strs (pathsZ τ))) rfl ag_9 (by (repeat' constructor)) (fun h hp => slR_rd hp) (by omega) (strs_at hi2)) rfl ?_
  refine G.op (OpSpec.call Tryz.func50 rfl rfl (vs := [_, _]) rfl (trkids_spec t τ (pathsZ τ)[i] 60 hok (by decide))) (by (repeat' constructor)) rfl ?nx33
  rintro v L' ⟨uk, lk, rfl, -, hlk, ⟨ak, ck, rfl⟩, rfl⟩; rw [if_pos hth] at hlk; subst hlk; rw [if_pos hth]
  refine G.q (Quiet.move rfl) rfl (G.q (Quiet.extract rfl rfl) rfl (G.q (Quiet.extract rfl rfl) rfl (G.q (Quiet.assign rfl) rfl (G.q (Quiet.assign rfl) rfl (G.nil (G.then_n (G.seq (G.seq ?_))))))))
  refine G.draw [] [[0, 1, 2, 3, 4, 5, 6, 7, 8, 9, 10, 11, 12, 13, 14, 15, 16, 17, 18, 19, 20, 21, 22, 23, 24, 25, 26, 27, 28]] mixed (by kernel_rfl) ?_
  refine Phases.go [] (by (repeat' constructor)) ?_
  refine D.qw [1, 2, 3, 4, 5, 6, 7, 8, 9, 10, 11, 12, 13, 14, 15, 16, 17, 18, 19, 20, 21, 22, 23, 24, 25, 26, 27, 28] rfl (by kernel_rfl) (Quiet.move rfl) ?_
  refine D.qw [2, 3, 4, 5, 6, 7, 8, 9, 10, 11, 12, 13, 14, 15, 16, 17, 18, 19, 20, 21, 22, 23, 24, 25, 26, 27, 28] rfl (by kernel_rfl) (Quiet.not rfl) ?_
  refine D.qw [3, 4, 5, 6, 7, 8, 9, 10, 11, 12, 13, 14, 15, 16, 17, 18, 19, 20, 21, 22, 23, 24, 25, 26, 27, 28] rfl (by kernel_rfl) (Quiet.move rfl) ?_
  refine D.gqw [4, 5, 6, 7, 8, 9, 10, 11, 12, 13, 14, 15, 16, 17, 18, 19, 20, 21, 22, 23, 24, 25, 26, 27, 28] (t := 44) rfl rfl rfl (by kernel_rfl) (Quiet.move rfl) ?_
  refine D.gqw [5, 6, 7, 8, 9, 10, 11, 12, 13, 14, 15, 16, 17, 18, 19, 20, 21, 22, 23, 24, 25, 26, 27, 28] (t := 44) rfl rfl rfl (by kernel_rfl) (Quiet.as (v' := .bool false) (by rfl) (Quiet.int rfl rfl rfl)) ?_
  refine D.qw [6, 7, 8, 9, 10, 11, 12, 13, 14, 15, 16, 17, 18, 19, 20, 21, 22, 23, 24, 25, 26, 27, 28] rfl (by kernel_rfl) (Quiet.pickF rfl rfl) ?_
  refine D.qw [7, 8, 9, 10, 11, 12, 13, 14, 15, 16, 17, 18, 19, 20, 21, 22, 23, 24, 25, 26, 27, 28] rfl (by kernel_rfl) (Quiet.move rfl) ?_
  refine D.gqw [8, 11, 12, 13, 14, 15, 16, 17, 18, 19, 20, 21, 22, 23, 24, 25, 26, 27, 28] (t := 48) rfl rfl rfl (by kernel_rfl) (Quiet.fieldAddr rfl fo_43_8) ?_
  refine D.gqw [11, 12, 13, 14, 15, 16, 17, 18, 19, 20, 21, 22, 23, 24, 25, 26, 27, 28] (t := 48) rfl rfl rfl (by kernel_rfl) (Quiet.to (v' := vint ((kidsZ τ (pathsZ τ)[i]).length : Int)) (Quiet.load rfl ag_3 (by (repeat' constructor)) rfl) (by rw [hkids])) ?_
  refine D.gqw [10, 11, 12, 13, 14, 15, 16, 17, 18, 19, 20, 21, 22, 23, 24, 25, 26, 27, 28] (t := 48) rfl rfl rfl (by kernel_rfl) (Quiet.move rfl) ?_
  refine D.gqw [11, 12, 13, 14, 15, 16, 17, 18, 19, 20, 21, 22, 23, 24, 25, 26, 27, 28] (t := 48) rfl rfl rfl (by kernel_rfl) (Quiet.slen rfl Tryz.underlying40 rfl) ?_
  refine D.gqw [12, 13, 14, 15, 16, 17, 18, 19, 20, 21, 22, 23, 24, 25, 26, 27, 28] (t := 48) rfl rfl rfl (by kernel_rfl) (Quiet.as (v' := .bool false) (by simp) (Quiet.int rfl rfl rfl)) ?_
  refine D.qw [13, 14, 15, 16, 17, 18, 19, 20, 21, 22, 23, 24, 25, 26, 27, 28] rfl (by kernel_rfl) (Quiet.pickF rfl rfl) ?_
  refine D.qw [14, 15, 16, 17, 18, 19, 20, 21, 22, 23, 24, 25, 26, 27, 28] rfl (by kernel_rfl) (Quiet.move rfl) ?_
  refine D.gqw [15, 16, 17, 18, 19, 20, 21, 22, 23, 24, 25, 26, 27, 28] (t := 55) rfl rfl rfl (by kernel_rfl) (Quiet.move rfl) ?_
  refine D.gqw [16, 17, 18, 19, 20, 21, 22, 23, 24, 25, 26, 27, 28] (t := 55) rfl rfl rfl (by kernel_rfl) (Quiet.int rfl rfl rfl) ?_
  refine D.gqw [17, 18, 19, 20, 21, 22, 23, 24, 25, 26, 27, 28] (t := 55) rfl rfl rfl (by kernel_rfl) (Quiet.move rfl) ?_
  refine D.dec (t := 58) rfl (fun h9_58 => ?_) (fun h9_58 => ?_)
  ·refine D.kDT (t := 57) rfl h9_58 ?_
   refine D.gqw [19, 20, 26, 27, 28] (t := 58) rfl rfl rfl (by kernel_rfl) (Quiet.move rfl) ?_
   refine D.gqw [19, 20, 26, 27, 28] (t := 58) rfl rfl rfl (by kernel_rfl) (Quiet.move rfl) ?_
   refine D.gqw [20, 26, 27, 28] (t := 58) rfl rfl rfl (by kernel_rfl) (Quiet.indexAddr rfl rfl el_40 (by omega)) ?_
   refine D.gqw [26, 27, 28] (t := 58) rfl rfl rfl (by kernel_rfl) (Quiet.loadRd (sz := 1) (j := i * 1) (p := slR 9 1 _ (pathsZ τ).length (strs (pathsZ τ))) rfl ag_9 (by (repeat' constructor)) (fun h hp => slR_rd hp) (by omega) (strs_at hi2)) ?_
   refine D.gqw [24, 25, 26, 27, 28] (t := 58) rfl rfl rfl (by kernel_rfl) (Quiet.move rfl) ?_
   refine D.gqw [23, 24, 25, 26, 27, 28] (t := 58) rfl rfl rfl (by kernel_rfl) (Quiet.move rfl) ?_
   refine D.gqw [24, 25, 26, 27, 28] (t := 58) rfl rfl rfl (by kernel_rfl) (Quiet.as (v' := vint ((i - 1 : Nat) : Int)) (by congr 1; omega) (Quiet.sub rfl rfl (by omega))) ?_
   refine D.gqw [25, 26, 27, 28] (t := 58) rfl rfl rfl (by kernel_rfl) (Quiet.indexAddr rfl rfl el_40 (by omega)) ?_
   refine D.gqw [26, 27, 28] (t := 58) rfl rfl rfl (by kernel_rfl) (Quiet.loadRd (sz := 1) (j := (i - 1) * 1) (p := slR 9 1 _ (pathsZ τ).length (strs (pathsZ τ))) rfl ag_9 (by (repeat' constructor)) (fun h hp => slR_rd hp) (by omega) (strs_at (by omega))) ?_
   refine D.gqw [27, 28] (t := 58) rfl rfl rfl (by kernel_rfl) (Quiet.as (v' := .bool false) (by exact congrArg Value.bool (decide_eq_false (fun g => g (paths_lt hok (by omega) hi2)))) (Quiet.strle rfl rfl)) ?_
   refine D.gqw [28] (t := 55) rfl rfl rfl (by kernel_rfl) (Quiet.pickT rfl rfl) ?_
   refine D.qw [] rfl (by kernel_rfl) (Quiet.pickF rfl rfl) ?_
   refine D.ph (Phases.fin (G.then_n (G.condF rfl (G.skip (G.then_n (G.seq (G.region (G.q (Quiet.move rfl) rfl (G.q (Quiet.fieldAddr rfl fo_43_8) rfl ?_)))))))))
   refine G.q (Quiet.to (v' := vint ((kidsZ τ (pathsZ τ)[i]).length : Int)) (Quiet.load rfl ag_3 (by (repeat' constructor)) rfl) (by rw [hkids])) rfl ?_
   refine G.q (Quiet.add rfl rfl (by omega)) rfl ?_
   refine G.q (Quiet.assign rfl) rfl (G.nil (G.then_n (G.seq (G.seq (G.region (G.q (Quiet.move rfl) rfl (G.q (Quiet.move rfl) rfl ?_)))))))
   refine G.q (Quiet.indexAddr rfl rfl el_40 (by omega)) rfl ?_
   refine G.q (Quiet.loadRd (sz := 1) (j := i * 1) (p := slR 9 1 _ (pathsZ τ).length (strs (pathsZ τ))) rfl ag_9 (by (repeat' constructor)) (fun h hp => slR_rd hp) (by omega) (strs_at hi2)) rfl ?_
   refine G.q (Quiet.strne rfl rfl) rfl (G.nil (G.then_n ?_))
   refine G.condN rfl (fun h79 => ?_) (fun h79 => ?_)
   ·refine G.seq (G.region (G.q (Quiet.move rfl) rfl ?_))
    refine G.q (Quiet.add rfl rfl (by omega)) rfl ?_
    refine G.q (Quiet.assign rfl) rfl (G.nil (G.then_n (G.seq (G.region (G.q (Quiet.move rfl) rfl (G.q (Quiet.move rfl) rfl (G.q (Quiet.move rfl) rfl ?_)))))))
    refine G.q (Quiet.indexAddr rfl rfl el_40 (by omega)) rfl ?_
    refine G.q (Quiet.loadRd (sz := 1) (j := i * 1) (p := slR 9 1 _ (pathsZ τ).length (strs (pathsZ τ))) rfl ag_9 (by (repeat' constructor)) (fun h hp => slR_rd hp) (by omega) (strs_at hi2)) rfl ?_
    refine G.op (OpSpec.call Tryz.func51 rfl rfl (vs := [_]) rfl (rparent_spec _ ?hs71)) (by (repeat' constructor)) rfl ?nx72
    case hs71 => first | assumption | omega
    rintro v L' ⟨rfl, rfl⟩
    refine G.op (OpSpec.call Tryz.func16 rfl rfl (vs := [_, _]) rfl (trstat_spec t τ (parentZ (pathsZ τ)[i]) 60 hok (by decide))) (by (repeat' constructor)) rfl ?nx74
    rintro v L' ⟨rfl, rfl⟩; rw [decide_eq_true (hinv.closed _ hth h79)]
    refine G.q (Quiet.move rfl) rfl (G.q (Quiet.extract rfl rfl) rfl (G.q (Quiet.extract rfl rfl) rfl ?_))
    refine G.op (OpSpec.allocA ze_43) (by (repeat' constructor)) rfl ?nx78
    rintro v L' ⟨b11, rfl, rfl⟩
    refine G.op (OpSpec.storeA rfl rfl ?c80 sz_43 ?c83 ?c81 ?c82) (by (repeat' constructor)) rfl ?nx84
    case c80 => intro v hv; simp only [stC, List.mem_cons, List.not_mem_nil, or_false] at hv; rcases hv with rfl | rfl | rfl | rfl | rfl | rfl | rfl | rfl | rfl <;> rfl
    case c83 => rfl
    case c81 => simp [stC]
    case c82 => exact nfz0 _ _
    rintro v L' rfl
    refine G.q (Quiet.assign rfl) rfl (G.nil ?_)
    refine G.ptCast (b := b11) (l' := stC (statD τ (parentZ (pathsZ τ)[i]))) (by (repeat' constructor)) rfl ?_
    refine G.then_n (G.seq (G.region (G.q (Quiet.move rfl) rfl (G.q (Quiet.not rfl) rfl (G.nil (G.then_n (G.condF rfl (G.skip (G.then_n (G.seq (G.region (G.q (Quiet.assign rfl) rfl (G.nil (G.then_n (G.block ?_)))))))))))))))
    refine G.loopK (ι := Nat) (fun q E => (13, vint q) :: E) (fun q => [treeR t τ]) (fun q => q ≤ (kidsZ τ (pathsZ τ)[i]).length) (fun q => (kidsZ τ (pathsZ τ)[i]).length - q) (0) (ts := [0, 3, 4, 5, 6, 7, 8, 9, 10, 11, 12, 18, 19, 20, 21, 24, 25, 26, 27, 28, 29, 30, 31, 32, 33, 34, 35, 36, 37, 38, 39, 40, 41, 42, 43, 44, 45, 46, 47, 48, 49, 50, 51, 52, 53, 54, 55, 56, 57, 58, 59, 60, 61, 62, 63, 64, 65, 66, 67, 68, 69, 70, 71, 72, 73, 74, 75, 76, 77, 78, 79, 80, 81, 82, 83, 84, 85, 86, 87, 88, 89, 90, 91, 92, 93]) (.cons rfl (.cons rfl (.cons rfl (.cons rfl (.cons rfl (.cons rfl (.cons rfl (.cons rfl (.cons rfl (.cons rfl (.cons rfl (.cons rfl (.cons rfl (.cons rfl (.cons rfl (.cons rfl (.cons rfl (.cons rfl (.cons rfl (.cons rfl (.cons rfl (.cons rfl (.cons rfl (.cons rfl (.cons rfl (.cons rfl (.cons rfl (.cons rfl (.cons rfl (.cons rfl (.cons rfl (.cons rfl (.cons rfl (.cons rfl (.cons rfl (.cons rfl (.cons rfl (.cons rfl (.cons rfl (.cons rfl (.cons rfl (.cons rfl (.cons rfl (.cons rfl (.cons rfl (.cons rfl (.cons rfl (.cons rfl (.cons rfl (.cons rfl (.cons rfl (.cons rfl (.cons rfl (.cons rfl (.cons rfl (.cons rfl (.cons rfl (.cons rfl (.cons rfl (.cons rfl (.cons rfl (.cons rfl (.cons rfl (.cons rfl (.cons rfl (.cons rfl (.cons rfl (.cons rfl (.cons rfl (.cons rfl (.cons rfl (.cons rfl (.cons rfl (.cons rfl (.cons rfl (.cons rfl (.cons rfl (.cons rfl (.cons rfl (.cons rfl (.cons rfl (.cons rfl (.cons rfl (.cons rfl (.cons rfl (.nil)))))))))))))))))))))))))))))))))))))))))))))))))))))))))))))))))))))))))))))))))))))) (Nat.zero_le _) ⟨rfl, rfl, rfl, rfl, rfl, rfl, rfl, rfl, rfl, rfl, rfl, rfl, rfl, rfl, rfl, rfl, rfl, rfl, rfl, rfl, rfl, rfl, rfl, rfl, rfl, rfl, rfl, rfl, rfl, rfl, rfl, rfl, rfl, rfl, rfl, rfl, rfl, rfl, rfl, rfl, rfl, rfl, rfl, rfl, rfl, rfl, rfl, rfl, rfl, rfl, rfl, rfl, rfl, rfl, rfl, rfl, rfl, rfl, rfl, rfl, rfl, rfl, rfl, rfl, rfl, rfl, rfl, rfl, rfl, rfl, rfl, rfl, rfl, rfl, rfl, rfl, rfl, rfl, rfl, rfl, rfl, rfl, rfl, rfl, rfl, rfl, trivial⟩ (by (repeat' constructor)) ?_
    rintro k hk
    refine G.seq (G.seq (G.region (G.q (Quiet.move rfl) rfl (G.q (Quiet.move rfl) rfl (G.q (Quiet.slen rfl Tryz.underlying40 rfl) rfl (G.q (Quiet.int rfl rfl rfl) rfl (G.nil (G.then_n ?_))))))))
    refine G.condD rfl (fun h97 => ?_) (fun h97 => ?_)
    ·have hk2 : k < (kidsZ τ (pathsZ τ)[i]).length := by omega
     refine G.slShape (v := .slice ak _ ck) (xs := strs (kidsZ τ (pathsZ τ)[i])) (by (repeat' constructor)) (by omega) fun bk ck' e0 mk _ => ?_
     simp only [Value.slice.injEq, true_and] at e0
     obtain ⟨rfl, rfl⟩ := e0
     obtain ⟨hkt, hkl2⟩ := kid_there' hinv hk2
     refine G.skip (G.then_n (G.seq (G.block (G.seq ?_))))
     refine G.draw [10, 14, 15] [[0, 1, 2, 3, 4, 5, 6, 7, 8, 9, 10, 11, 12, 13, 14, 15], [16]] mixed (by kernel_rfl) ?_
     refine Phases.go [slR 9 1 _ (pathsZ τ).length (strs (pathsZ τ)), slR 9 1 _ (kidsZ τ (pathsZ τ)[i]).length (strs (kidsZ τ (pathsZ τ)[i]))] (by (repeat' constructor)) ?_
     refine D.q rfl (by kernel_rfl) (Quiet.move rfl) ?_
     refine D.q rfl (by kernel_rfl) (Quiet.move rfl) ?_
     refine D.q rfl (by kernel_rfl) (Quiet.move rfl) ?_
     refine D.q rfl (by kernel_rfl) (Quiet.indexAddr rfl rfl el_40 (by omega)) ?_
     refine D.q rfl (by kernel_rfl) (Quiet.loadRd (sz := 1) (j := i * 1) (p := slR 9 1 _ (pathsZ τ).length (strs (pathsZ τ))) rfl ag_9 (by (repeat' constructor)) (fun h hp => slR_rd hp) (by omega) (strs_at hi2)) ?_
     refine D.q rfl (by kernel_rfl) (Quiet.move rfl) ?_
     refine D.q rfl (by kernel_rfl) (Quiet.move rfl) ?_
     refine D.q rfl (by kernel_rfl) (Quiet.indexAddr rfl rfl el_40 (by omega)) ?_
     refine D.q rfl (by kernel_rfl) (Quiet.loadRd (sz := 1) (j := k * 1) (p := slR 9 1 _ (kidsZ τ (pathsZ τ)[i]).length (strs (kidsZ τ (pathsZ τ)[i]))) rfl ag_9 (by (repeat' constructor)) (fun h hp => slR_rd hp) (by omega) (strs_at hk2)) ?_
     refine D.m rfl (by kernel_rfl) (OpSpec.call Tryz.func52 rfl rfl (vs := [_, _]) rfl (rkid_spec _ _ ?hs100 ?hn101)) (by (repeat' constructor)) ?nx102
     case hs100 => first | assumption | omega
     case hn101 => first | assumption | omega | simp
     refine D.h2 (k := 14) rfl rfl (by kernel_rfl) rfl (OpSpec.call Tryz.func16 rfl rfl (vs := [_, _]) rfl (trstat_spec t τ (kidZ (pathsZ τ)[i] (kidsZ τ (pathsZ τ)[i])[k]) 60 hok (by decide))) (by (repeat' constructor)) (OpSpec.allocA ze_43) (by (repeat' constructor)) ?nx104 ?nx105
     ·rintro v L' ⟨rfl, rfl⟩; rw [decide_eq_true (hkt)]
      refine D.q rfl (by kernel_rfl) (Quiet.move rfl) ?_
      refine D.q rfl (by kernel_rfl) (Quiet.extract rfl rfl) ?_
      refine D.q rfl (by kernel_rfl) (Quiet.extract rfl rfl) ?_
      refine D.h rfl (by kernel_rfl) (OpSpec.allocA ze_43) (by (repeat' constructor)) ?nx109
      rintro v L' ⟨b14, rfl, rfl⟩
      refine D.h rfl (by kernel_rfl) (OpSpec.storeA rfl rfl ?c111 sz_43 ?c114 ?c112 ?c113) (by (repeat' constructor)) ?nx115
      case c111 => intro v hv; simp only [stC, List.mem_cons, List.not_mem_nil, or_false] at hv; rcases hv with rfl | rfl | rfl | rfl | rfl | rfl | rfl | rfl | rfl <;> rfl
      case c114 => rfl
      case c112 => simp [stC]
      case c113 => exact nfz0 _ _
      rintro v L' rfl
      refine D.ph ?_
      refine Phases.go [] (by (repeat' constructor)) ?_
      refine D.qw [] rfl (by kernel_rfl) (Quiet.assign rfl) ?_
      refine D.ph (Phases.fin ?_)
      refine G.ptCast (b := b14) (l' := stC (statD τ (kidZ (pathsZ τ)[i] (kidsZ τ (pathsZ τ)[i])[k]))) (by (repeat' constructor)) rfl ?_
      refine G.then_n (G.seq ?_)
      refine G.draw [] [[0, 1, 2, 3, 4, 5, 6, 7, 8, 9, 10, 11, 12, 13, 14, 15, 16, 17]] mixed (by kernel_rfl) ?_
      refine Phases.go [] (by (repeat' constructor)) ?_
      refine D.qw [1, 2, 3, 4, 5, 6, 7, 8, 9, 10, 11, 12, 13, 14, 15, 16, 17] rfl (by kernel_rfl) (Quiet.move rfl) ?_
      refine D.qw [2, 3, 4, 5, 6, 7, 8, 9, 10, 11, 12, 13, 14, 15, 16, 17] rfl (by kernel_rfl) (Quiet.not rfl) ?_
      refine D.qw [3, 4, 5, 6, 7, 8, 9, 10, 11, 12, 13, 14, 15, 16, 17] rfl (by kernel_rfl) (Quiet.move rfl) ?_
      refine D.gqw [4, 5, 6, 7, 8, 9, 10, 11, 12, 13, 14, 15, 16, 17] (t := 116) rfl rfl rfl (by kernel_rfl) (Quiet.move rfl) ?_
      refine D.gqw [5, 6, 7, 8, 9, 10, 11, 12, 13, 14, 15, 16, 17] (t := 116) rfl rfl rfl (by kernel_rfl) (Quiet.int rfl rfl rfl) ?_
      refine D.gqw [6, 7, 8, 9, 10, 11, 12, 13, 14, 15, 16, 17] (t := 116) rfl rfl rfl (by kernel_rfl) (Quiet.move rfl) ?_
      refine D.dec (t := 119) rfl (fun h21_119 => ?_) (fun h21_119 => ?_)
      ·refine D.kDT (t := 118) rfl h21_119 ?_
       refine D.gqw [8, 9, 15, 16, 17] (t := 119) rfl rfl rfl (by kernel_rfl) (Quiet.move rfl) ?_
       refine D.gqw [8, 9, 15, 16, 17] (t := 119) rfl rfl rfl (by kernel_rfl) (Quiet.move rfl) ?_
       refine D.gqw [9, 15, 16, 17] (t := 119) rfl rfl rfl (by kernel_rfl) (Quiet.indexAddr rfl rfl el_40 (by omega)) ?_
       refine D.gqw [15, 16, 17] (t := 119) rfl rfl rfl (by kernel_rfl) (Quiet.loadRd (sz := 1) (j := k * 1) (p := slR 9 1 _ (kidsZ τ (pathsZ τ)[i]).length (strs (kidsZ τ (pathsZ τ)[i]))) rfl ag_9 (by (repeat' constructor)) (fun h hp => slR_rd hp) (by omega) (strs_at hk2)) ?_
       refine D.gqw [13, 14, 15, 16, 17] (t := 119) rfl rfl rfl (by kernel_rfl) (Quiet.move rfl) ?_
       refine D.gqw [12, 13, 14, 15, 16, 17] (t := 119) rfl rfl rfl (by kernel_rfl) (Quiet.move rfl) ?_
       refine D.gqw [13, 14, 15, 16, 17] (t := 119) rfl rfl rfl (by kernel_rfl) (Quiet.as (v' := vint ((k - 1 : Nat) : Int)) (by congr 1; omega) (Quiet.sub rfl rfl (by omega))) ?_
       refine D.gqw [14, 15, 16, 17] (t := 119) rfl rfl rfl (by kernel_rfl) (Quiet.indexAddr rfl rfl el_40 (by omega)) ?_
       refine D.gqw [15, 16, 17] (t := 119) rfl rfl rfl (by kernel_rfl) (Quiet.loadRd (sz := 1) (j := (k - 1) * 1) (p := slR 9 1 _ (kidsZ τ (pathsZ τ)[i]).length (strs (kidsZ τ (pathsZ τ)[i]))) rfl ag_9 (by (repeat' constructor)) (fun h hp => slR_rd hp) (by omega) (strs_at (by omega))) ?_
       refine D.gqw [16, 17] (t := 119) rfl rfl rfl (by kernel_rfl) (Quiet.as (v' := .bool false) (by exact congrArg Value.bool (decide_eq_false (fun g => g (kids_lt hok (by omega) hk2)))) (Quiet.strle rfl rfl)) ?_
       refine D.gqw [17] (t := 116) rfl rfl rfl (by kernel_rfl) (Quiet.pickT rfl rfl) ?_
       refine D.qw [] rfl (by kernel_rfl) (Quiet.pickF rfl rfl) ?_
       refine D.ph (Phases.fin (G.then_n (G.condF rfl (G.skip (G.blk_n (G.then_n (G.region (G.q (Quiet.move rfl) rfl ?_))))))))
       refine G.q (Quiet.add rfl rfl (by omega)) rfl ?_
       refine G.q (Quiet.assign rfl) rfl (G.nil (G.then_n ?_))
       exact G.roundK (k + 1) (by omega) (by omega) ⟨rfl, rfl, rfl, rfl, rfl, rfl, rfl, rfl, rfl, rfl, rfl, rfl, rfl, rfl, rfl, rfl, rfl, rfl, rfl, rfl, rfl, rfl, rfl, rfl, rfl, rfl, rfl, rfl, rfl, rfl, rfl, rfl, rfl, rfl, rfl, rfl, rfl, rfl, rfl, rfl, rfl, rfl, rfl, rfl, rfl, rfl, rfl, rfl, rfl, rfl, rfl, rfl, rfl, rfl, rfl, rfl, rfl, rfl, rfl, rfl, rfl, rfl, rfl, rfl, rfl, rfl, rfl, rfl, rfl, rfl, rfl, rfl, rfl, rfl, rfl, rfl, rfl, rfl, rfl, rfl, rfl, rfl, rfl, rfl, rfl, rfl, trivial⟩ (by (repeat' constructor)) (by ((repeat (apply Have.cons; (repeat (first | exact Pick.here | apply Pick.there)))); apply Have.base; repeat' constructor))
      ·refine D.kDF (t := 118) rfl h21_119 ?_
       refine D.gs (t := 119) rfl rfl rfl rfl (by kernel_rfl) ?_
       refine D.gs (t := 119) rfl rfl rfl rfl (by kernel_rfl) ?_
       refine D.gs (t := 119) rfl rfl rfl rfl (by kernel_rfl) ?_
       refine D.gs (t := 119) rfl rfl rfl rfl (by kernel_rfl) ?_
       refine D.gs (t := 119) rfl rfl rfl rfl (by kernel_rfl) ?_
       refine D.gs (t := 119) rfl rfl rfl rfl (by kernel_rfl) ?_
       refine D.gs (t := 119) rfl rfl rfl rfl (by kernel_rfl) ?_
       refine D.gs (t := 119) rfl rfl rfl rfl (by kernel_rfl) ?_
       refine D.gs (t := 119) rfl rfl rfl rfl (by kernel_rfl) ?_
       refine D.gs (t := 119) rfl rfl rfl rfl (by kernel_rfl) ?_
       refine D.gqw [17] (t := 116) rfl rfl rfl (by kernel_rfl) (Quiet.pickF rfl rfl) ?_
       refine D.qw [] rfl (by kernel_rfl) (Quiet.pickF rfl rfl) ?_
       refine D.ph (Phases.fin (G.then_n (G.condF rfl (G.skip (G.blk_n (G.then_n (G.region (G.q (Quiet.move rfl) rfl ?_))))))))
       refine G.q (Quiet.add rfl rfl (by omega)) rfl ?_
       refine G.q (Quiet.assign rfl) rfl (G.nil (G.then_n ?_))
       exact G.roundK (k + 1) (by omega) (by omega) ⟨rfl, rfl, rfl, rfl, rfl, rfl, rfl, rfl, rfl, rfl, rfl, rfl, rfl, rfl, rfl, rfl, rfl, rfl, rfl, rfl, rfl, rfl, rfl, rfl, rfl, rfl, rfl, rfl, rfl, rfl, rfl, rfl, rfl, rfl, rfl, rfl, rfl, rfl, rfl, rfl, rfl, rfl, rfl, rfl, rfl, rfl, rfl, rfl, rfl, rfl, rfl, rfl, rfl, rfl, rfl, rfl, rfl, rfl, rfl, rfl, rfl, rfl, rfl, rfl, rfl, rfl, rfl, rfl, rfl, rfl, rfl, rfl, rfl, rfl, rfl, rfl, rfl, rfl, rfl, rfl, rfl, rfl, rfl, rfl, rfl, rfl, trivial⟩ (by (repeat' constructor)) (by ((repeat (apply Have.cons; (repeat (first | exact Pick.here | apply Pick.there)))); apply Have.base; repeat' constructor))
     ·rintro v L' ⟨b14, rfl, rfl⟩
      refine D.h rfl (by kernel_rfl) (OpSpec.call Tryz.func16 rfl rfl (vs := [_, _]) rfl (trstat_spec t τ (kidZ (pathsZ τ)[i] (kidsZ τ (pathsZ τ)[i])[k]) 60 hok (by decide))) (by (repeat' constructor)) ?nx135
      rintro v L' ⟨rfl, rfl⟩; rw [decide_eq_true (hkt)]
      refine D.qw [12, 13, 15] rfl (by kernel_rfl) (Quiet.move rfl) ?_
      refine D.qw [15] rfl (by kernel_rfl) (Quiet.extract rfl rfl) ?_
      refine D.q rfl (by kernel_rfl) (Quiet.extract rfl rfl) ?_
      refine D.h rfl (by kernel_rfl) (OpSpec.storeA rfl rfl ?c139 sz_43 ?c142 ?c140 ?c141) (by (repeat' constructor)) ?nx143
      case c139 => intro v hv; simp only [stC, List.mem_cons, List.not_mem_nil, or_false] at hv; rcases hv with rfl | rfl | rfl | rfl | rfl | rfl | rfl | rfl | rfl <;> rfl
      case c142 => rfl
      case c140 => simp [stC]
      case c141 => exact nfz0 _ _
      rintro v L' rfl
      refine D.ph ?_
      refine Phases.go [] (by (repeat' constructor)) ?_
      refine D.qw [] rfl (by kernel_rfl) (Quiet.assign rfl) ?_
      refine D.ph (Phases.fin ?_)
      refine G.ptCast (b := b14) (l' := stC (statD τ (kidZ (pathsZ τ)[i] (kidsZ τ (pathsZ τ)[i])[k]))) (by (repeat' constructor)) rfl ?_
      refine G.then_n (G.seq ?_)
      refine G.draw [] [[0, 1, 2, 3, 4, 5, 6, 7, 8, 9, 10, 11, 12, 13, 14, 15, 16, 17]] mixed (by kernel_rfl) ?_
      refine Phases.go [] (by (repeat' constructor)) ?_
      refine D.qw [1, 2, 3, 4, 5, 6, 7, 8, 9, 10, 11, 12, 13, 14, 15, 16, 17] rfl (by kernel_rfl) (Quiet.move rfl) ?_
      refine D.qw [2, 3, 4, 5, 6, 7, 8, 9, 10, 11, 12, 13, 14, 15, 16, 17] rfl (by kernel_rfl) (Quiet.not rfl) ?_
      refine D.qw [3, 4, 5, 6, 7, 8, 9, 10, 11, 12, 13, 14, 15, 16, 17] rfl (by kernel_rfl) (Quiet.move rfl) ?_
      refine D.gqw [4, 5, 6, 7, 8, 9, 10, 11, 12, 13, 14, 15, 16, 17] (t := 116) rfl rfl rfl (by kernel_rfl) (Quiet.move rfl) ?_
      refine D.gqw [5, 6, 7, 8, 9, 10, 11, 12, 13, 14, 15, 16, 17] (t := 116) rfl rfl rfl (by kernel_rfl) (Quiet.int rfl rfl rfl) ?_
      refine D.gqw [6, 7, 8, 9, 10, 11, 12, 13, 14, 15, 16, 17] (t := 116) rfl rfl rfl (by kernel_rfl) (Quiet.move rfl) ?_
      refine D.dec (t := 119) rfl (fun h21_119 => ?_) (fun h21_119 => ?_)
      ·refine D.kDT (t := 118) rfl h21_119 ?_
       refine D.gqw [8, 9, 15, 16, 17] (t := 119) rfl rfl rfl (by kernel_rfl) (Quiet.move rfl) ?_
       refine D.gqw [8, 9, 15, 16, 17] (t := 119) rfl rfl rfl (by kernel_rfl) (Quiet.move rfl) ?_
       refine D.gqw [9, 15, 16, 17] (t := 119) rfl rfl rfl (by kernel_rfl) (Quiet.indexAddr rfl rfl el_40 (by omega)) ?_
       refine D.gqw [15, 16, 17] (t := 119) rfl rfl rfl (by kernel_rfl) (Quiet.loadRd (sz := 1) (j := k * 1) (p := slR 9 1 _ (kidsZ τ (pathsZ τ)[i]).length (strs (kidsZ τ (pathsZ τ)[i]))) rfl ag_9 (by (repeat' constructor)) (fun h hp => slR_rd hp) (by omega) (strs_at hk2)) ?_
       refine D.gqw [13, 14, 15, 16, 17] (t := 119) rfl rfl rfl (by kernel_rfl) (Quiet.move rfl) ?_
       refine D.gqw [12, 13, 14, 15, 16, 17] (t := 119) rfl rfl rfl (by kernel_rfl) (Quiet.move rfl) ?_
       refine D.gqw [13, 14, 15, 16, 17] (t := 119) rfl rfl rfl (by kernel_rfl) (Quiet.as (v' := vint ((k - 1 : Nat) : Int)) (by congr 1; omega) (Quiet.sub rfl rfl (by omega))) ?_
       refine D.gqw [14, 15, 16, 17] (t := 119) rfl rfl rfl (by kernel_rfl) (Quiet.indexAddr rfl rfl el_40 (by omega)) ?_
       refine D.gqw [15, 16, 17] (t := 119) rfl rfl rfl (by kernel_rfl) (Quiet.loadRd (sz := 1) (j := (k - 1) * 1) (p := slR 9 1 _ (kidsZ τ (pathsZ τ)[i]).length (strs (kidsZ τ (pathsZ τ)[i]))) rfl ag_9 (by (repeat' constructor)) (fun h hp => slR_rd hp) (by omega) (strs_at (by omega))) ?_
       refine D.gqw [16, 17] (t := 119) rfl rfl rfl (by kernel_rfl) (Quiet.as (v' := .bool false) (by exact congrArg Value.bool (decide_eq_false (fun g => g (kids_lt hok (by omega) hk2)))) (Quiet.strle rfl rfl)) ?_
       refine D.gqw [17] (t := 116) rfl rfl rfl (by kernel_rfl) (Quiet.pickT rfl rfl) ?_
       refine D.qw [] rfl (by kernel_rfl) (Quiet.pickF rfl rfl) ?_
       refine D.ph (Phases.fin (G.then_n (G.condF rfl (G.skip (G.blk_n (G.then_n (G.region (G.q (Quiet.move rfl) rfl ?_))))))))
       refine G.q (Quiet.add rfl rfl (by omega)) rfl ?_
       refine G.q (Quiet.assign rfl) rfl (G.nil (G.then_n ?_))
       exact G.roundK (k + 1) (by omega) (by omega) ⟨rfl, rfl, rfl, rfl, rfl, rfl, rfl, rfl, rfl, rfl, rfl, rfl, rfl, rfl, rfl, rfl, rfl, rfl, rfl, rfl, rfl, rfl, rfl, rfl, rfl, rfl, rfl, rfl, rfl, rfl, rfl, rfl, rfl, rfl, rfl, rfl, rfl, rfl, rfl, rfl, rfl, rfl, rfl, rfl, rfl, rfl, rfl, rfl, rfl, rfl, rfl, rfl, rfl, rfl, rfl, rfl, rfl, rfl, rfl, rfl, rfl, rfl, rfl, rfl, rfl, rfl, rfl, rfl, rfl, rfl, rfl, rfl, rfl, rfl, rfl, rfl, rfl, rfl, rfl, rfl, rfl, rfl, rfl, rfl, rfl, rfl, trivial⟩ (by (repeat' constructor)) (by ((repeat (apply Have.cons; (repeat (first | exact Pick.here | apply Pick.there)))); apply Have.base; repeat' constructor))
      ·refine D.kDF (t := 118) rfl h21_119 ?_
       refine D.gs (t := 119) rfl rfl rfl rfl (by kernel_rfl) ?_
       refine D.gs (t := 119) rfl rfl rfl rfl (by kernel_rfl) ?_
       refine D.gs (t := 119) rfl rfl rfl rfl (by kernel_rfl) ?_
       refine D.gs (t := 119) rfl rfl rfl rfl (by kernel_rfl) ?_
       refine D.gs (t := 119) rfl rfl rfl rfl (by kernel_rfl) ?_
       refine D.gs (t := 119) rfl rfl rfl rfl (by kernel_rfl) ?_
       refine D.gs (t := 119) rfl rfl rfl rfl (by kernel_rfl) ?_
       refine D.gs (t := 119) rfl rfl rfl rfl (by kernel_rfl) ?_
       refine D.gs (t := 119) rfl rfl rfl rfl (by kernel_rfl) ?_
       refine D.gs (t := 119) rfl rfl rfl rfl (by kernel_rfl) ?_
       refine D.gqw [17] (t := 116) rfl rfl rfl (by kernel_rfl) (Quiet.pickF rfl rfl) ?_
       refine D.qw [] rfl (by kernel_rfl) (Quiet.pickF rfl rfl) ?_
       refine D.ph (Phases.fin (G.then_n (G.condF rfl (G.skip (G.blk_n (G.then_n (G.region (G.q (Quiet.move rfl) rfl ?_))))))))
       refine G.q (Quiet.add rfl rfl (by omega)) rfl ?_
       refine G.q (Quiet.assign rfl) rfl (G.nil (G.then_n ?_))
       exact G.roundK (k + 1) (by omega) (by omega) ⟨rfl, rfl, rfl, rfl, rfl, rfl, rfl, rfl, rfl, rfl, rfl, rfl, rfl, rfl, rfl, rfl, rfl, rfl, rfl, rfl, rfl, rfl, rfl, rfl, rfl, rfl, rfl, rfl, rfl, rfl, rfl, rfl, rfl, rfl, rfl, rfl, rfl, rfl, rfl, rfl, rfl, rfl, rfl, rfl, rfl, rfl, rfl, rfl, rfl, rfl, rfl, rfl, rfl, rfl, rfl, rfl, rfl, rfl, rfl, rfl, rfl, rfl, rfl, rfl, rfl, rfl, rfl, rfl, rfl, rfl, rfl, rfl, rfl, rfl, rfl, rfl, rfl, rfl, rfl, rfl, rfl, rfl, rfl, rfl, rfl, rfl, trivial⟩ (by (repeat' constructor)) (by ((repeat (apply Have.cons; (repeat (first | exact Pick.here | apply Pick.there)))); apply Have.base; repeat' constructor))
    ·refine G.exit (G.then_e (G.then_e (G.blk_e (G.blk_n (G.then_n (G.region (G.q (Quiet.move rfl) rfl ?_)))))))
     refine G.q (Quiet.add rfl rfl (by omega)) rfl ?_
     refine G.q (Quiet.assign rfl) rfl (G.nil (G.then_n ?_))
     rw [show ((toldK τ ((pathsZ τ).take i) : Int) + ((kidsZ τ (pathsZ τ)[i]).length : Int)) = ((toldK τ ((pathsZ τ).take (i + 1)) : Nat) : Int) by rw [told_snoc τ hi2]; simp]
     rw [show ((nonK ((pathsZ τ).take i) : Int) + 1) = ((nonK ((pathsZ τ).take (i + 1)) : Nat) : Int) by rw [non_yes hi2 h79]; simp]
     exact G.roundK (i + 1) (by omega) (by omega) ⟨rfl, rfl, rfl, rfl, rfl, trivial⟩ (by (repeat' constructor)) (by ((repeat (apply Have.cons; (repeat (first | exact Pick.here | apply Pick.there)))); apply Have.base; repeat' constructor))
   ·refine G.skip (G.then_n (G.seq (G.region (G.q (Quiet.assign rfl) rfl (G.nil (G.then_n (G.block ?_)))))))
    refine G.loopK (ι := Nat) (fun q E => (13, vint q) :: E) (fun q => [treeR t τ]) (fun q => q ≤ (kidsZ τ (pathsZ τ)[i]).length) (fun q => (kidsZ τ (pathsZ τ)[i]).length - q) (0) (ts := [0, 3, 4, 5, 6, 7, 8, 9, 10, 18, 19, 20, 21, 24, 25, 26, 27, 28, 29, 30, 31, 32, 33, 34, 35, 36, 37, 38, 39, 40, 41, 42, 43, 44, 45, 46, 47, 48, 49, 50, 51, 52, 53, 54, 55, 56, 57, 58, 59, 60, 61, 62, 63, 64, 65, 66, 67, 68, 69, 70, 71, 72, 73, 74, 75, 76, 77, 78, 79]) (.cons rfl (.cons rfl (.cons rfl (.cons rfl (.cons rfl (.cons rfl (.cons rfl (.cons rfl (.cons rfl (.cons rfl (.cons rfl (.cons rfl (.cons rfl (.cons rfl (.cons rfl (.cons rfl (.cons rfl (.cons rfl (.cons rfl (.cons rfl (.cons rfl (.cons rfl (.cons rfl (.cons rfl (.cons rfl (.cons rfl (.cons rfl (.cons rfl (.cons rfl (.cons rfl (.cons rfl (.cons rfl (.cons rfl (.cons rfl (.cons rfl (.cons rfl (.cons rfl (.cons rfl (.cons rfl (.cons rfl (.cons rfl (.cons rfl (.cons rfl (.cons rfl (.cons rfl (.cons rfl (.cons rfl (.cons rfl (.cons rfl (.cons rfl (.cons rfl (.cons rfl (.cons rfl (.cons rfl (.cons rfl (.cons rfl (.cons rfl (.cons rfl (.cons rfl (.cons rfl (.cons rfl (.cons rfl (.cons rfl (.cons rfl (.cons rfl (.cons rfl (.cons rfl (.cons rfl (.cons rfl (.nil)))))))))))))))))))))))))))))))))))))))))))))))))))))))))))))))))))))) (Nat.zero_le _) ⟨rfl, rfl, rfl, rfl, rfl, rfl, rfl, rfl, rfl, rfl, rfl, rfl, rfl, rfl, rfl, rfl, rfl, rfl, rfl, rfl, rfl, rfl, rfl, rfl, rfl, rfl, rfl, rfl, rfl, rfl, rfl, rfl, rfl, rfl, rfl, rfl, rfl, rfl, rfl, rfl, rfl, rfl, rfl, rfl, rfl, rfl, rfl, rfl, rfl, rfl, rfl, rfl, rfl, rfl, rfl, rfl, rfl, rfl, rfl, rfl, rfl, rfl, rfl, rfl, rfl, rfl, rfl, rfl, rfl, rfl, trivial⟩ (by (repeat' constructor)) ?_
    rintro k hk
    refine G.seq (G.seq (G.region (G.q (Quiet.move rfl) rfl (G.q (Quiet.move rfl) rfl (G.q (Quiet.slen rfl Tryz.underlying40 rfl) rfl (G.q (Quiet.int rfl rfl rfl) rfl (G.nil (G.then_n ?_))))))))
    refine G.condD rfl (fun h97 => ?_) (fun h97 => ?_)
    ·have hk2 : k < (kidsZ τ (pathsZ τ)[i]).length := by omega
     refine G.slShape (v := .slice ak _ ck) (xs := strs (kidsZ τ (pathsZ τ)[i])) (by (repeat' constructor)) (by omega) fun bk ck' e0 mk _ => ?_
     simp only [Value.slice.injEq, true_and] at e0
     obtain ⟨rfl, rfl⟩ := e0
     obtain ⟨hkt, hkl2⟩ := kid_there' hinv hk2
     refine G.skip (G.then_n (G.seq (G.block (G.seq ?_))))
     refine G.draw [10, 14, 15] [[0, 1, 2, 3, 4, 5, 6, 7, 8, 9, 10, 11, 12, 13, 14, 15], [16]] mixed (by kernel_rfl) ?_
     refine Phases.go [slR 9 1 _ (pathsZ τ).length (strs (pathsZ τ)), slR 9 1 _ (kidsZ τ (pathsZ τ)[i]).length (strs (kidsZ τ (pathsZ τ)[i]))] (by (repeat' constructor)) ?_
     refine D.q rfl (by kernel_rfl) (Quiet.move rfl) ?_
     refine D.q rfl (by kernel_rfl) (Quiet.move rfl) ?_
     refine D.q rfl (by kernel_rfl) (Quiet.move rfl) ?_
     refine D.q rfl (by kernel_rfl) (Quiet.indexAddr rfl rfl el_40 (by omega)) ?_
     refine D.q rfl (by kernel_rfl) (Quiet.loadRd (sz := 1) (j := i * 1) (p := slR 9 1 _ (pathsZ τ).length (strs (pathsZ τ))) rfl ag_9 (by (repeat' constructor)) (fun h hp => slR_rd hp) (by omega) (strs_at hi2)) ?_
     refine D.q rfl (by kernel_rfl) (Quiet.move rfl) ?_
     refine D.q rfl (by kernel_rfl) (Quiet.move rfl) ?_
     refine D.q rfl (by kernel_rfl) (Quiet.indexAddr rfl rfl el_40 (by omega)) ?_
     refine D.q rfl (by kernel_rfl) (Quiet.loadRd (sz := 1) (j := k * 1) (p := slR 9 1 _ (kidsZ τ (pathsZ τ)[i]).length (strs (kidsZ τ (pathsZ τ)[i]))) rfl ag_9 (by (repeat' constructor)) (fun h hp => slR_rd hp) (by omega) (strs_at hk2)) ?_
     refine D.m rfl (by kernel_rfl) (OpSpec.call Tryz.func52 rfl rfl (vs := [_, _]) rfl (rkid_spec _ _ ?hs178 ?hn179)) (by (repeat' constructor)) ?nx180
     case hs178 => first | assumption | omega
     case hn179 => first | assumption | omega | simp
     refine D.h2 (k := 14) rfl rfl (by kernel_rfl) rfl (OpSpec.call Tryz.func16 rfl rfl (vs := [_, _]) rfl (trstat_spec t τ (kidZ (pathsZ τ)[i] (kidsZ τ (pathsZ τ)[i])[k]) 60 hok (by decide))) (by (repeat' constructor)) (OpSpec.allocA ze_43) (by (repeat' constructor)) ?nx182 ?nx183
     ·rintro v L' ⟨rfl, rfl⟩; rw [decide_eq_true (hkt)]
      refine D.q rfl (by kernel_rfl) (Quiet.move rfl) ?_
      refine D.q rfl (by kernel_rfl) (Quiet.extract rfl rfl) ?_
      refine D.q rfl (by kernel_rfl) (Quiet.extract rfl rfl) ?_
      refine D.h rfl (by kernel_rfl) (OpSpec.allocA ze_43) (by (repeat' constructor)) ?nx187
      rintro v L' ⟨b14, rfl, rfl⟩
      refine D.h rfl (by kernel_rfl) (OpSpec.storeA rfl rfl ?c189 sz_43 ?c192 ?c190 ?c191) (by (repeat' constructor)) ?nx193
      case c189 => intro v hv; simp only [stC, List.mem_cons, List.not_mem_nil, or_false] at hv; rcases hv with rfl | rfl | rfl | rfl | rfl | rfl | rfl | rfl | rfl <;> rfl
      case c192 => rfl
      case c190 => simp [stC]
      case c191 => exact nfz0 _ _
      rintro v L' rfl
      refine D.ph ?_
      refine Phases.go [] (by (repeat' constructor)) ?_
      refine D.qw [] rfl (by kernel_rfl) (Quiet.assign rfl) ?_
      refine D.ph (Phases.fin ?_)
      refine G.ptCast (b := b14) (l' := stC (statD τ (kidZ (pathsZ τ)[i] (kidsZ τ (pathsZ τ)[i])[k]))) (by (repeat' constructor)) rfl ?_
      refine G.then_n (G.seq ?_)
      refine G.draw [] [[0, 1, 2, 3, 4, 5, 6, 7, 8, 9, 10, 11, 12, 13, 14, 15, 16, 17]] mixed (by kernel_rfl) ?_
      refine Phases.go [] (by (repeat' constructor)) ?_
      refine D.qw [1, 2, 3, 4, 5, 6, 7, 8, 9, 10, 11, 12, 13, 14, 15, 16, 17] rfl (by kernel_rfl) (Quiet.move rfl) ?_
      refine D.qw [2, 3, 4, 5, 6, 7, 8, 9, 10, 11, 12, 13, 14, 15, 16, 17] rfl (by kernel_rfl) (Quiet.not rfl) ?_
      refine D.qw [3, 4, 5, 6, 7, 8, 9, 10, 11, 12, 13, 14, 15, 16, 17] rfl (by kernel_rfl) (Quiet.move rfl) ?_
      refine D.gqw [4, 5, 6, 7, 8, 9, 10, 11, 12, 13, 14, 15, 16, 17] (t := 116) rfl rfl rfl (by kernel_rfl) (Quiet.move rfl) ?_
      refine D.gqw [5, 6, 7, 8, 9, 10, 11, 12, 13, 14, 15, 16, 17] (t := 116) rfl rfl rfl (by kernel_rfl) (Quiet.int rfl rfl rfl) ?_
      refine D.gqw [6, 7, 8, 9, 10, 11, 12, 13, 14, 15, 16, 17] (t := 116) rfl rfl rfl (by kernel_rfl) (Quiet.move rfl) ?_
      refine D.dec (t := 119) rfl (fun h21_119 => ?_) (fun h21_119 => ?_)
      ·refine D.kDT (t := 118) rfl h21_119 ?_
       refine D.gqw [8, 9, 15, 16, 17] (t := 119) rfl rfl rfl (by kernel_rfl) (Quiet.move rfl) ?_
       refine D.gqw [8, 9, 15, 16, 17] (t := 119) rfl rfl rfl (by kernel_rfl) (Quiet.move rfl) ?_
       refine D.gqw [9, 15, 16, 17] (t := 119) rfl rfl rfl (by kernel_rfl) (Quiet.indexAddr rfl rfl el_40 (by omega)) ?_
       refine D.gqw [15, 16, 17] (t := 119) rfl rfl rfl (by kernel_rfl) (Quiet.loadRd (sz := 1) (j := k * 1) (p := slR 9 1 _ (kidsZ τ (pathsZ τ)[i]).length (strs (kidsZ τ (pathsZ τ)[i]))) rfl ag_9 (by (repeat' constructor)) (fun h hp => slR_rd hp) (by omega) (strs_at hk2)) ?_
       refine D.gqw [13, 14, 15, 16, 17] (t := 119) rfl rfl rfl (by kernel_rfl) (Quiet.move rfl) ?_
       refine D.gqw [12, 13, 14, 15, 16, 17] (t := 119) rfl rfl rfl (by kernel_rfl) (Quiet.move rfl) ?_
       refine D.gqw [13, 14, 15, 16, 17] (t := 119) rfl rfl rfl (by kernel_rfl) (Quiet.as (v' := vint ((k - 1 : Nat) : Int)) (by congr 1; omega) (Quiet.sub rfl rfl (by omega))) ?_
       refine D.gqw [14, 15, 16, 17] (t := 119) rfl rfl rfl (by kernel_rfl) (Quiet.indexAddr rfl rfl el_40 (by omega)) ?_
       refine D.gqw [15, 16, 17] (t := 119) rfl rfl rfl (by kernel_rfl) (Quiet.loadRd (sz := 1) (j := (k - 1) * 1) (p := slR 9 1 _ (kidsZ τ (pathsZ τ)[i]).length (strs (kidsZ τ (pathsZ τ)[i]))) rfl ag_9 (by (repeat' constructor)) (fun h hp => slR_rd hp) (by omega) (strs_at (by omega))) ?_
       refine D.gqw [16, 17] (t := 119) rfl rfl rfl (by kernel_rfl) (Quiet.as (v' := .bool false) (by exact congrArg Value.bool (decide_eq_false (fun g => g (kids_lt hok (by omega) hk2)))) (Quiet.strle rfl rfl)) ?_
       refine D.gqw [17] (t := 116) rfl rfl rfl (by kernel_rfl) (Quiet.pickT rfl rfl) ?_
       refine D.qw [] rfl (by kernel_rfl) (Quiet.pickF rfl rfl) ?_
       refine D.ph (Phases.fin (G.then_n (G.condF rfl (G.skip (G.blk_n (G.then_n (G.region (G.q (Quiet.move rfl) rfl ?_))))))))
       refine G.q (Quiet.add rfl rfl (by omega)) rfl ?_
       refine G.q (Quiet.assign rfl) rfl (G.nil (G.then_n ?_))
       exact G.roundK (k + 1) (by omega) (by omega) ⟨rfl, rfl, rfl, rfl, rfl, rfl, rfl, rfl, rfl, rfl, rfl, rfl, rfl, rfl, rfl, rfl, rfl, rfl, rfl, rfl, rfl, rfl, rfl, rfl, rfl, rfl, rfl, rfl, rfl, rfl, rfl, rfl, rfl, rfl, rfl, rfl, rfl, rfl, rfl, rfl, rfl, rfl, rfl, rfl, rfl, rfl, rfl, rfl, rfl, rfl, rfl, rfl, rfl, rfl, rfl, rfl, rfl, rfl, rfl, rfl, rfl, rfl, rfl, rfl, rfl, rfl, rfl, rfl, rfl, rfl, trivial⟩ (by (repeat' constructor)) (by ((repeat (apply Have.cons; (repeat (first | exact Pick.here | apply Pick.there)))); apply Have.base; repeat' constructor))
      ·refine D.kDF (t := 118) rfl h21_119 ?_
       refine D.gs (t := 119) rfl rfl rfl rfl (by kernel_rfl) ?_
       refine D.gs (t := 119) rfl rfl rfl rfl (by kernel_rfl) ?_
       refine D.gs (t := 119) rfl rfl rfl rfl (by kernel_rfl) ?_
       refine D.gs (t := 119) rfl rfl rfl rfl (by kernel_rfl) ?_
       refine D.gs (t := 119) rfl rfl rfl rfl (by kernel_rfl) ?_
       refine D.gs (t := 119) rfl rfl rfl rfl (by kernel_rfl) ?_
       refine D.gs (t := 119) rfl rfl rfl rfl (by kernel_rfl) ?_
       refine D.gs (t := 119) rfl rfl rfl rfl (by kernel_rfl) ?_
       refine D.gs (t := 119) rfl rfl rfl rfl (by kernel_rfl) ?_
       refine D.gs (t := 119) rfl rfl rfl rfl (by kernel_rfl) ?_
       refine D.gqw [17] (t := 116) rfl rfl rfl (by kernel_rfl) (Quiet.pickF rfl rfl) ?_
       refine D.qw [] rfl (by kernel_rfl) (Quiet.pickF rfl rfl) ?_
       refine D.ph (Phases.fin (G.then_n (G.condF rfl (G.skip (G.blk_n (G.then_n (G.region (G.q (Quiet.move rfl) rfl ?_))))))))
       refine G.q (Quiet.add rfl rfl (by omega)) rfl ?_
       refine G.q (Quiet.assign rfl) rfl (G.nil (G.then_n ?_))
       exact G.roundK (k + 1) (by omega) (by omega) ⟨rfl, rfl, rfl, rfl, rfl, rfl, rfl, rfl, rfl, rfl, rfl, rfl, rfl, rfl, rfl, rfl, rfl, rfl, rfl, rfl, rfl, rfl, rfl, rfl, rfl, rfl, rfl, rfl, rfl, rfl, rfl, rfl, rfl, rfl, rfl, rfl, rfl, rfl, rfl, rfl, rfl, rfl, rfl, rfl, rfl, rfl, rfl, rfl, rfl, rfl, rfl, rfl, rfl, rfl, rfl, rfl, rfl, rfl, rfl, rfl, rfl, rfl, rfl, rfl, rfl, rfl, rfl, rfl, rfl, rfl, trivial⟩ (by (repeat' constructor)) (by ((repeat (apply Have.cons; (repeat (first | exact Pick.here | apply Pick.there)))); apply Have.base; repeat' constructor))
     ·rintro v L' ⟨b14, rfl, rfl⟩
      refine D.h rfl (by kernel_rfl) (OpSpec.call Tryz.func16 rfl rfl (vs := [_, _]) rfl (trstat_spec t τ (kidZ (pathsZ τ)[i] (kidsZ τ (pathsZ τ)[i])[k]) 60 hok (by decide))) (by (repeat' constructor)) ?nx213
      rintro v L' ⟨rfl, rfl⟩; rw [decide_eq_true (hkt)]
      refine D.qw [12, 13, 15] rfl (by kernel_rfl) (Quiet.move rfl) ?_
      refine D.qw [15] rfl (by kernel_rfl) (Quiet.extract rfl rfl) ?_
      refine D.q rfl (by kernel_rfl) (Quiet.extract rfl rfl) ?_
      refine D.h rfl (by kernel_rfl) (OpSpec.storeA rfl rfl ?c217 sz_43 ?c220 ?c218 ?c219) (by (repeat' constructor)) ?nx221
      case c217 => intro v hv; simp only [stC, List.mem_cons, List.not_mem_nil, or_false] at hv; rcases hv with rfl | rfl | rfl | rfl | rfl | rfl | rfl | rfl | rfl <;> rfl
      case c220 => rfl
      case c218 => simp [stC]
      case c219 => exact nfz0 _ _
      rintro v L' rfl
      refine D.ph ?_
      refine Phases.go [] (by (repeat' constructor)) ?_
      refine D.qw [] rfl (by kernel_rfl) (Quiet.assign rfl) ?_
      refine D.ph (Phases.fin ?_)
      refine G.ptCast (b := b14) (l' := stC (statD τ (kidZ (pathsZ τ)[i] (kidsZ τ (pathsZ τ)[i])[k]))) (by (repeat' constructor)) rfl ?_
      refine G.then_n (G.seq ?_)
      refine G.draw [] [[0, 1, 2, 3, 4, 5, 6, 7, 8, 9, 10, 11, 12, 13, 14, 15, 16, 17]] mixed (by kernel_rfl) ?_
      refine Phases.go [] (by (repeat' constructor)) ?_
      refine D.qw [1, 2, 3, 4, 5, 6, 7, 8, 9, 10, 11, 12, 13, 14, 15, 16, 17] rfl (by kernel_rfl) (Quiet.move rfl) ?_
      refine D.qw [2, 3, 4, 5, 6, 7, 8, 9, 10, 11, 12, 13, 14, 15, 16, 17] rfl (by kernel_rfl) (Quiet.not rfl) ?_
      refine D.qw [3, 4, 5, 6, 7, 8, 9, 10, 11, 12, 13, 14, 15, 16, 17] rfl (by kernel_rfl) (Quiet.move rfl) ?_
      refine D.gqw [4, 5, 6, 7, 8, 9, 10, 11, 12, 13, 14, 15, 16, 17] (t := 116) rfl rfl rfl (by kernel_rfl) (Quiet.move rfl) ?_
      refine D.gqw [5, 6, 7, 8, 9, 10, 11, 12, 13, 14, 15, 16, 17] (t := 116) rfl rfl rfl (by kernel_rfl) (Quiet.int rfl rfl rfl) ?_
      refine D.gqw [6, 7, 8, 9, 10, 11, 12, 13, 14, 15, 16, 17] (t := 116) rfl rfl rfl (by kernel_rfl) (Quiet.move rfl) ?_
      refine D.dec (t := 119) rfl (fun h21_119 => ?_) (fun h21_119 => ?_)
      ·refine D.kDT (t := 118) rfl h21_119 ?_
       refine D.gqw [8, 9, 15, 16, 17] (t := 119) rfl rfl rfl (by kernel_rfl) (Quiet.move rfl) ?_
       refine D.gqw [8, 9, 15, 16, 17] (t := 119) rfl rfl rfl (by kernel_rfl) (Quiet.move rfl) ?_
       refine D.gqw [9, 15, 16, 17] (t := 119) rfl rfl rfl (by kernel_rfl) (Quiet.indexAddr rfl rfl el_40 (by omega)) ?_
       refine D.gqw [15, 16, 17] (t := 119) rfl rfl rfl (by kernel_rfl) (Quiet.loadRd (sz := 1) (j := k * 1) (p := slR 9 1 _ (kidsZ τ (pathsZ τ)[i]).length (strs (kidsZ τ (pathsZ τ)[i]))) rfl ag_9 (by (repeat' constructor)) (fun h hp => slR_rd hp) (by omega) (strs_at hk2)) ?_
       refine D.gqw [13, 14, 15, 16, 17] (t := 119) rfl rfl rfl (by kernel_rfl) (Quiet.move rfl) ?_
       refine D.gqw [12, 13, 14, 15, 16, 17] (t := 119) rfl rfl rfl (by kernel_rfl) (Quiet.move rfl) ?_
       refine D.gqw [13, 14, 15, 16, 17] (t := 119) rfl rfl rfl (by kernel_rfl) (Quiet.as (v' := vint ((k - 1 : Nat) : Int)) (by congr 1; omega) (Quiet.sub rfl rfl (by omega))) ?_
       refine D.gqw [14, 15, 16, 17] (t := 119) rfl rfl rfl (by kernel_rfl) (Quiet.indexAddr rfl rfl el_40 (by omega)) ?_
       refine D.gqw [15, 16, 17] (t := 119) rfl rfl rfl (by kernel_rfl) (Quiet.loadRd (sz := 1) (j := (k - 1) * 1) (p := slR 9 1 _ (kidsZ τ (pathsZ τ)[i]).length (strs (kidsZ τ (pathsZ τ)[i]))) rfl ag_9 (by (repeat' constructor)) (fun h hp => slR_rd hp) (by omega) (strs_at (by omega))) ?_
       refine D.gqw [16, 17] (t := 119) rfl rfl rfl (by kernel_rfl) (Quiet.as (v' := .bool false) (by exact congrArg Value.bool (decide_eq_false (fun g => g (kids_lt hok (by omega) hk2)))) (Quiet.strle rfl rfl)) ?_
       refine D.gqw [17] (t := 116) rfl rfl rfl (by kernel_rfl) (Quiet.pickT rfl rfl) ?_
       refine D.qw [] rfl (by kernel_rfl) (Quiet.pickF rfl rfl) ?_
       refine D.ph (Phases.fin (G.then_n (G.condF rfl (G.skip (G.blk_n (G.then_n (G.region (G.q (Quiet.move rfl) rfl ?_))))))))
       refine G.q (Quiet.add rfl rfl (by omega)) rfl ?_
       refine G.q (Quiet.assign rfl) rfl (G.nil (G.then_n ?_))
       exact G.roundK (k + 1) (by omega) (by omega) ⟨rfl, rfl, rfl, rfl, rfl, rfl, rfl, rfl, rfl, rfl, rfl, rfl, rfl, rfl, rfl, rfl, rfl, rfl, rfl, rfl, rfl, rfl, rfl, rfl, rfl, rfl, rfl, rfl, rfl, rfl, rfl, rfl, rfl, rfl, rfl, rfl, rfl, rfl, rfl, rfl, rfl, rfl, rfl, rfl, rfl, rfl, rfl, rfl, rfl, rfl, rfl, rfl, rfl, rfl, rfl, rfl, rfl, rfl, rfl, rfl, rfl, rfl, rfl, rfl, rfl, rfl, rfl, rfl, rfl, rfl, trivial⟩ (by (repeat' constructor)) (by ((repeat (apply Have.cons; (repeat (first | exact Pick.here | apply Pick.there)))); apply Have.base; repeat' constructor))
      ·refine D.kDF (t := 118) rfl h21_119 ?_
       refine D.gs (t := 119) rfl rfl rfl rfl (by kernel_rfl) ?_
       refine D.gs (t := 119) rfl rfl rfl rfl (by kernel_rfl) ?_
       refine D.gs (t := 119) rfl rfl rfl rfl (by kernel_rfl) ?_
       refine D.gs (t := 119) rfl rfl rfl rfl (by kernel_rfl) ?_
       refine D.gs (t := 119) rfl rfl rfl rfl (by kernel_rfl) ?_
       refine D.gs (t := 119) rfl rfl rfl rfl (by kernel_rfl) ?_
       refine D.gs (t := 119) rfl rfl rfl rfl (by kernel_rfl) ?_
       refine D.gs (t := 119) rfl rfl rfl rfl (by kernel_rfl) ?_
       refine D.gs (t := 119) rfl rfl rfl rfl (by kernel_rfl) ?_
       refine D.gs (t := 119) rfl rfl rfl rfl (by kernel_rfl) ?_
       refine D.gqw [17] (t := 116) rfl rfl rfl (by kernel_rfl) (Quiet.pickF rfl rfl) ?_
       refine D.qw [] rfl (by kernel_rfl) (Quiet.pickF rfl rfl) ?_
       refine D.ph (Phases.fin (G.then_n (G.condF rfl (G.skip (G.blk_n (G.then_n (G.region (G.q (Quiet.move rfl) rfl ?_))))))))
       refine G.q (Quiet.add rfl rfl (by omega)) rfl ?_
       refine G.q (Quiet.assign rfl) rfl (G.nil (G.then_n ?_))
       exact G.roundK (k + 1) (by omega) (by omega) ⟨rfl, rfl, rfl, rfl, rfl, rfl, rfl, rfl, rfl, rfl, rfl, rfl, rfl, rfl, rfl, rfl, rfl, rfl, rfl, rfl, rfl, rfl, rfl, rfl, rfl, rfl, rfl, rfl, rfl, rfl, rfl, rfl, rfl, rfl, rfl, rfl, rfl, rfl, rfl, rfl, rfl, rfl, rfl, rfl, rfl, rfl, rfl, rfl, rfl, rfl, rfl, rfl, rfl, rfl, rfl, rfl, rfl, rfl, rfl, rfl, rfl, rfl, rfl, rfl, rfl, rfl, rfl, rfl, rfl, rfl, trivial⟩ (by (repeat' constructor)) (by ((repeat (apply Have.cons; (repeat (first | exact Pick.here | apply Pick.there)))); apply Have.base; repeat' constructor))
    ·refine G.exit (G.then_e (G.then_e (G.blk_e (G.blk_n (G.then_n (G.region (G.q (Quiet.move rfl) rfl ?_)))))))
     refine G.q (Quiet.add rfl rfl (by omega)) rfl ?_
     refine G.q (Quiet.assign rfl) rfl (G.nil (G.then_n ?_))
     rw [show ((toldK τ ((pathsZ τ).take i) : Int) + ((kidsZ τ (pathsZ τ)[i]).length : Int)) = ((toldK τ ((pathsZ τ).take (i + 1)) : Nat) : Int) by rw [told_snoc τ hi2]; simp]
     rw [← non_no hi2 h79]
     exact G.roundK (i + 1) (by omega) (by omega) ⟨rfl, rfl, rfl, rfl, rfl, trivial⟩ (by (repeat' constructor)) (by ((repeat (apply Have.cons; (repeat (first | exact Pick.here | apply Pick.there)))); apply Have.base; repeat' constructor))
  ·refine D.kDF (t := 57) rfl h9_58 ?_
   refine D.gs (t := 58) rfl rfl rfl rfl (by kernel_rfl) ?_
   refine D.gs (t := 58) rfl rfl rfl rfl (by kernel_rfl) ?_
   refine D.gs (t := 58) rfl rfl rfl rfl (by kernel_rfl) ?_
   refine D.gs (t := 58) rfl rfl rfl rfl (by kernel_rfl) ?_
   refine D.gs (t := 58) rfl rfl rfl rfl (by kernel_rfl) ?_
   refine D.gs (t := 58) rfl rfl rfl rfl (by kernel_rfl) ?_
   refine D.gs (t := 58) rfl rfl rfl rfl (by kernel_rfl) ?_
   refine D.gs (t := 58) rfl rfl rfl rfl (by kernel_rfl) ?_
   refine D.gs (t := 58) rfl rfl rfl rfl (by kernel_rfl) ?_
   refine D.gs (t := 58) rfl rfl rfl rfl (by kernel_rfl) ?_
   refine D.gqw [28] (t := 55) rfl rfl rfl (by kernel_rfl) (Quiet.pickF rfl rfl) ?_
   refine D.qw [] rfl (by kernel_rfl) (Quiet.pickF rfl rfl) ?_
   refine D.ph (Phases.fin (G.then_n (G.condF rfl (G.skip (G.then_n (G.seq (G.region (G.q (Quiet.move rfl) rfl (G.q (Quiet.fieldAddr rfl fo_43_8) rfl ?_)))))))))
   refine G.q (Quiet.to (v' := vint ((kidsZ τ (pathsZ τ)[i]).length : Int)) (Quiet.load rfl ag_3 (by (repeat' constructor)) rfl) (by rw [hkids])) rfl ?_
   refine G.q (Quiet.add rfl rfl (by omega)) rfl ?_
   refine G.q (Quiet.assign rfl) rfl (G.nil (G.then_n (G.seq (G.seq (G.region (G.q (Quiet.move rfl) rfl (G.q (Quiet.move rfl) rfl ?_)))))))
   refine G.q (Quiet.indexAddr rfl rfl el_40 (by omega)) rfl ?_
   refine G.q (Quiet.loadRd (sz := 1) (j := i * 1) (p := slR 9 1 _ (pathsZ τ).length (strs (pathsZ τ))) rfl ag_9 (by (repeat' constructor)) (fun h hp => slR_rd hp) (by omega) (strs_at hi2)) rfl ?_
   refine G.q (Quiet.strne rfl rfl) rfl (G.nil (G.then_n ?_))
   refine G.condN rfl (fun h79 => ?_) (fun h79 => ?_)
   ·refine G.seq (G.region (G.q (Quiet.move rfl) rfl ?_))
    refine G.q (Quiet.add rfl rfl (by omega)) rfl ?_
    refine G.q (Quiet.assign rfl) rfl (G.nil (G.then_n (G.seq (G.region (G.q (Quiet.move rfl) rfl (G.q (Quiet.move rfl) rfl (G.q (Quiet.move rfl) rfl ?_)))))))
    refine G.q (Quiet.indexAddr rfl rfl el_40 (by omega)) rfl ?_
    refine G.q (Quiet.loadRd (sz := 1) (j := i * 1) (p := slR 9 1 _ (pathsZ τ).length (strs (pathsZ τ))) rfl ag_9 (by (repeat' constructor)) (fun h hp => slR_rd hp) (by omega) (strs_at hi2)) rfl ?_
    refine G.op (OpSpec.call Tryz.func51 rfl rfl (vs := [_]) rfl (rparent_spec _ ?hs259)) (by (repeat' constructor)) rfl ?nx260
    case hs259 => first | assumption | omega
    rintro v L' ⟨rfl, rfl⟩
    refine G.op (OpSpec.call Tryz.func16 rfl rfl (vs := [_, _]) rfl (trstat_spec t τ (parentZ (pathsZ τ)[i]) 60 hok (by decide))) (by (repeat' constructor)) rfl ?nx262
    rintro v L' ⟨rfl, rfl⟩; rw [decide_eq_true (hinv.closed _ hth h79)]
    refine G.q (Quiet.move rfl) rfl (G.q (Quiet.extract rfl rfl) rfl (G.q (Quiet.extract rfl rfl) rfl ?_))
    refine G.op (OpSpec.allocA ze_43) (by (repeat' constructor)) rfl ?nx266
    rintro v L' ⟨b11, rfl, rfl⟩
    refine G.op (OpSpec.storeA rfl rfl ?c268 sz_43 ?c271 ?c269 ?c270) (by (repeat' constructor)) rfl ?nx272
    case c268 => intro v hv; simp only [stC, List.mem_cons, List.not_mem_nil, or_false] at hv; rcases hv with rfl | rfl | rfl | rfl | rfl | rfl | rfl | rfl | rfl <;> rfl
    case c271 => rfl
    case c269 => simp [stC]
    case c270 => exact nfz0 _ _
    rintro v L' rfl
    refine G.q (Quiet.assign rfl) rfl (G.nil ?_)
    refine G.ptCast (b := b11) (l' := stC (statD τ (parentZ (pathsZ τ)[i]))) (by (repeat' constructor)) rfl ?_
    refine G.then_n (G.seq (G.region (G.q (Quiet.move rfl) rfl (G.q (Quiet.not rfl) rfl (G.nil (G.then_n (G.condF rfl (G.skip (G.then_n (G.seq (G.region (G.q (Quiet.assign rfl) rfl (G.nil (G.then_n (G.block ?_)))))))))))))))
    refine G.loopK (ι := Nat) (fun q E => (13, vint q) :: E) (fun q => [treeR t τ]) (fun q => q ≤ (kidsZ τ (pathsZ τ)[i]).length) (fun q => (kidsZ τ (pathsZ τ)[i]).length - q) (0) (ts := [0, 3, 4, 5, 6, 7, 8, 9, 10, 11, 12, 18, 19, 20, 21, 24, 25, 26, 27, 28, 29, 30, 31, 32, 33, 34, 35, 36, 37, 38, 39, 40, 41, 42, 43, 44, 45, 46, 47, 48, 49, 50, 51, 52, 53, 54, 55, 56, 57, 58, 59, 60, 61, 62, 63, 64, 65, 66, 67, 68, 69, 70, 71, 72, 73, 74, 75, 76, 77, 78, 79, 80, 81, 82, 83, 84, 85, 86, 87, 88, 89, 90, 91, 92, 93]) (.cons rfl (.cons rfl (.cons rfl (.cons rfl (.cons rfl (.cons rfl (.cons rfl (.cons rfl (.cons rfl (.cons rfl (.cons rfl (.cons rfl (.cons rfl (.cons rfl (.cons rfl (.cons rfl (.cons rfl (.cons rfl (.cons rfl (.cons rfl (.cons rfl (.cons rfl (.cons rfl (.cons rfl (.cons rfl (.cons rfl (.cons rfl (.cons rfl (.cons rfl (.cons rfl (.cons rfl (.cons rfl (.cons rfl (.cons rfl (.cons rfl (.cons rfl (.cons rfl (.cons rfl (.cons rfl (.cons rfl (.cons rfl (.cons rfl (.cons rfl (.cons rfl (.cons rfl (.cons rfl (.cons rfl (.cons rfl (.cons rfl (.cons rfl (.cons rfl (.cons rfl (.cons rfl (.cons rfl (.cons rfl (.cons rfl (.cons rfl (.cons rfl (.cons rfl (.cons rfl (.cons rfl (.cons rfl (.cons rfl (.cons rfl (.cons rfl (.cons rfl (.cons rfl (.cons rfl (.cons rfl (.cons rfl (.cons rfl (.cons rfl (.cons rfl (.cons rfl (.cons rfl (.cons rfl (.cons rfl (.cons rfl (.cons rfl (.cons rfl (.cons rfl (.cons rfl (.cons rfl (.cons rfl (.cons rfl (.nil)))))))))))))))))))))))))))))))))))))))))))))))))))))))))))))))))))))))))))))))))))))) (Nat.zero_le _) ⟨rfl, rfl, rfl, rfl, rfl, rfl, rfl, rfl, rfl, rfl, rfl, rfl, rfl, rfl, rfl, rfl, rfl, rfl, rfl, rfl, rfl, rfl, rfl, rfl, rfl, rfl, rfl, rfl, rfl, rfl, rfl, rfl, rfl, rfl, rfl, rfl, rfl, rfl, rfl, rfl, rfl, rfl, rfl, rfl, rfl, rfl, rfl, rfl, rfl, rfl, rfl, rfl, rfl, rfl, rfl, rfl, rfl, rfl, rfl, rfl, rfl, rfl, rfl, rfl, rfl, rfl, rfl, rfl, rfl, rfl, rfl, rfl, rfl, rfl, rfl, rfl, rfl, rfl, rfl, rfl, rfl, rfl, rfl, rfl, rfl, rfl, trivial⟩ (by (repeat' constructor)) ?_
    rintro k hk
    refine G.seq (G.seq (G.region (G.q (Quiet.move rfl) rfl (G.q (Quiet.move rfl) rfl (G.q (Quiet.slen rfl Tryz.underlying40 rfl) rfl (G.q (Quiet.int rfl rfl rfl) rfl (G.nil (G.then_n ?_))))))))
    refine G.condD rfl (fun h97 => ?_) (fun h97 => ?_)
    ·have hk2 : k < (kidsZ τ (pathsZ τ)[i]).length := by omega
     refine G.slShape (v := .slice ak _ ck) (xs := strs (kidsZ τ (pathsZ τ)[i])) (by (repeat' constructor)) (by omega) fun bk ck' e0 mk _ => ?_
     simp only [Value.slice.injEq, true_and] at e0
     obtain ⟨rfl, rfl⟩ := e0
     obtain ⟨hkt, hkl2⟩ := kid_there' hinv hk2
     refine G.skip (G.then_n (G.seq (G.block (G.seq ?_))))
     refine G.draw [10, 14, 15] [[0, 1, 2, 3, 4, 5, 6, 7, 8, 9, 10, 11, 12, 13, 14, 15], [16]] mixed (by kernel_rfl) ?_
     refine Phases.go [slR 9 1 _ (pathsZ τ).length (strs (pathsZ τ)), slR 9 1 _ (kidsZ τ (pathsZ τ)[i]).length (strs (kidsZ τ (pathsZ τ)[i]))] (by (repeat' constructor)) ?_
     refine D.q rfl (by kernel_rfl) (Quiet.move rfl) ?_
     refine D.q rfl (by kernel_rfl) (Quiet.move rfl) ?_
     refine D.q rfl (by kernel_rfl) (Quiet.move rfl) ?_
     refine D.q rfl (by kernel_rfl) (Quiet.indexAddr rfl rfl el_40 (by omega)) ?_
     refine D.q rfl (by kernel_rfl) (Quiet.loadRd (sz := 1) (j := i * 1) (p := slR 9 1 _ (pathsZ τ).length (strs (pathsZ τ))) rfl ag_9 (by (repeat' constructor)) (fun h hp => slR_rd hp) (by omega) (strs_at hi2)) ?_
     refine D.q rfl (by kernel_rfl) (Quiet.move rfl) ?_
     refine D.q rfl (by kernel_rfl) (Quiet.move rfl) ?_
     refine D.q rfl (by kernel_rfl) (Quiet.indexAddr rfl rfl el_40 (by omega)) ?_
     refine D.q rfl (by kernel_rfl) (Quiet.loadRd (sz := 1) (j := k * 1) (p := slR 9 1 _ (kidsZ τ (pathsZ τ)[i]).length (strs (kidsZ τ (pathsZ τ)[i]))) rfl ag_9 (by (repeat' constructor)) (fun h hp => slR_rd hp) (by omega) (strs_at hk2)) ?_
     refine D.m rfl (by kernel_rfl) (OpSpec.call Tryz.func52 rfl rfl (vs := [_, _]) rfl (rkid_spec _ _ ?hs288 ?hn289)) (by (repeat' constructor)) ?nx290
     case hs288 => first | assumption | omega
     case hn289 => first | assumption | omega | simp
     refine D.h2 (k := 14) rfl rfl (by kernel_rfl) rfl (OpSpec.call Tryz.func16 rfl rfl (vs := [_, _]) rfl (trstat_spec t τ (kidZ (pathsZ τ)[i] (kidsZ τ (pathsZ τ)[i])[k]) 60 hok (by decide))) (by (repeat' constructor)) (OpSpec.allocA ze_43) (by (repeat' constructor)) ?nx292 ?nx293
     ·rintro v L' ⟨rfl, rfl⟩; rw [decide_eq_true (hkt)]
      refine D.q rfl (by kernel_rfl) (Quiet.move rfl) ?_
      refine D.q rfl (by kernel_rfl) (Quiet.extract rfl rfl) ?_
      refine D.q rfl (by kernel_rfl) (Quiet.extract rfl rfl) ?_
      refine D.h rfl (by kernel_rfl) (OpSpec.allocA ze_43) (by (repeat' constructor)) ?nx297
      rintro v L' ⟨b14, rfl, rfl⟩
      refine D.h rfl (by kernel_rfl) (OpSpec.storeA rfl rfl ?c299 sz_43 ?c302 ?c300 ?c301) (by (repeat' constructor)) ?nx303
      case c299 => intro v hv; simp only [stC, List.mem_cons, List.not_mem_nil, or_false] at hv; rcases hv with rfl | rfl | rfl | rfl | rfl | rfl | rfl | rfl | rfl <;> rfl
      case c302 => rfl
      case c300 => simp [stC]
      case c301 => exact nfz0 _ _
      rintro v L' rfl
      refine D.ph ?_
      refine Phases.go [] (by (repeat' constructor)) ?_
      refine D.qw [] rfl (by kernel_rfl) (Quiet.assign rfl) ?_
      refine D.ph (Phases.fin ?_)
      refine G.ptCast (b := b14) (l' := stC (statD τ (kidZ (pathsZ τ)[i] (kidsZ τ (pathsZ τ)[i])[k]))) (by (repeat' constructor)) rfl ?_
      refine G.then_n (G.seq ?_)
      refine G.draw [] [[0, 1, 2, 3, 4, 5, 6, 7, 8, 9, 10, 11, 12, 13, 14, 15, 16, 17]] mixed (by kernel_rfl) ?_
      refine Phases.go [] (by (repeat' constructor)) ?_
      refine D.qw [1, 2, 3, 4, 5, 6, 7, 8, 9, 10, 11, 12, 13, 14, 15, 16, 17] rfl (by kernel_rfl) (Quiet.move rfl) ?_
      refine D.qw [2, 3, 4, 5, 6, 7, 8, 9, 10, 11, 12, 13, 14, 15, 16, 17] rfl (by kernel_rfl) (Quiet.not rfl) ?_
      refine D.qw [3, 4, 5, 6, 7, 8, 9, 10, 11, 12, 13, 14, 15, 16, 17] rfl (by kernel_rfl) (Quiet.move rfl) ?_
      refine D.gqw [4, 5, 6, 7, 8, 9, 10, 11, 12, 13, 14, 15, 16, 17] (t := 116) rfl rfl rfl (by kernel_rfl) (Quiet.move rfl) ?_
      refine D.gqw [5, 6, 7, 8, 9, 10, 11, 12, 13, 14, 15, 16, 17] (t := 116) rfl rfl rfl (by kernel_rfl) (Quiet.int rfl rfl rfl) ?_
      refine D.gqw [6, 7, 8, 9, 10, 11, 12, 13, 14, 15, 16, 17] (t := 116) rfl rfl rfl (by kernel_rfl) (Quiet.move rfl) ?_
      refine D.dec (t := 119) rfl (fun h21_119 => ?_) (fun h21_119 => ?_)
      ·refine D.kDT (t := 118) rfl h21_119 ?_
       refine D.gqw [8, 9, 15, 16, 17] (t := 119) rfl rfl rfl (by kernel_rfl) (Quiet.move rfl) ?_
       refine D.gqw [8, 9, 15, 16, 17] (t := 119) rfl rfl rfl (by kernel_rfl) (Quiet.move rfl) ?_
       refine D.gqw [9, 15, 16, 17] (t := 119) rfl rfl rfl (by kernel_rfl) (Quiet.indexAddr rfl rfl el_40 (by omega)) ?_
       refine D.gqw [15, 16, 17] (t := 119) rfl rfl rfl (by kernel_rfl) (Quiet.loadRd (sz := 1) (j := k * 1) (p := slR 9 1 _ (kidsZ τ (pathsZ τ)[i]).length (strs (kidsZ τ (pathsZ τ)[i]))) rfl ag_9 (by (repeat' constructor)) (fun h hp => slR_rd hp) (by omega) (strs_at hk2)) ?_
       refine D.gqw [13, 14, 15, 16, 17] (t := 119) rfl rfl rfl (by kernel_rfl) (Quiet.move rfl) ?_
       refine D.gqw [12, 13, 14, 15, 16, 17] (t := 119) rfl rfl rfl (by kernel_rfl) (Quiet.move rfl) ?_
       refine D.gqw [13, 14, 15, 16, 17] (t := 119) rfl rfl rfl (by kernel_rfl) (Quiet.as (v' := vint ((k - 1 : Nat) : Int)) (by congr 1; omega) (Quiet.sub rfl rfl (by omega))) ?_
       refine D.gqw [14, 15, 16, 17] (t := 119) rfl rfl rfl (by kernel_rfl) (Quiet.indexAddr rfl rfl el_40 (by omega)) ?_
       refine D.gqw [15, 16, 17] (t := 119) rfl rfl rfl (by kernel_rfl) (Quiet.loadRd (sz := 1) (j := (k - 1) * 1) (p := slR 9 1 _ (kidsZ τ (pathsZ τ)[i]).length (strs (kidsZ τ (pathsZ τ)[i]))) rfl ag_9 (by (repeat' constructor)) (fun h hp => slR_rd hp) (by omega) (strs_at (by omega))) ?_
       refine D.gqw [16, 17] (t := 119) rfl rfl rfl (by kernel_rfl) (Quiet.as (v' := .bool false) (by exact congrArg Value.bool (decide_eq_false (fun g => g (kids_lt hok (by omega) hk2)))) (Quiet.strle rfl rfl)) ?_
       refine D.gqw [17] (t := 116) rfl rfl rfl (by kernel_rfl) (Quiet.pickT rfl rfl) ?_
       refine D.qw [] rfl (by kernel_rfl) (Quiet.pickF rfl rfl) ?_
       refine D.ph (Phases.fin (G.then_n (G.condF rfl (G.skip (G.blk_n (G.then_n (G.region (G.q (Quiet.move rfl) rfl ?_))))))))
       refine G.q (Quiet.add rfl rfl (by omega)) rfl ?_
       refine G.q (Quiet.assign rfl) rfl (G.nil (G.then_n ?_))
       exact G.roundK (k + 1) (by omega) (by omega) ⟨rfl, rfl, rfl, rfl, rfl, rfl, rfl, rfl, rfl, rfl, rfl, rfl, rfl, rfl, rfl, rfl, rfl, rfl, rfl, rfl, rfl, rfl, rfl, rfl, rfl, rfl, rfl, rfl, rfl, rfl, rfl, rfl, rfl, rfl, rfl, rfl, rfl, rfl, rfl, rfl, rfl, rfl, rfl, rfl, rfl, rfl, rfl, rfl, rfl, rfl, rfl, rfl, rfl, rfl, rfl, rfl, rfl, rfl, rfl, rfl, rfl, rfl, rfl, rfl, rfl, rfl, rfl, rfl, rfl, rfl, rfl, rfl, rfl, rfl, rfl, rfl, rfl, rfl, rfl, rfl, rfl, rfl, rfl, rfl, rfl, rfl, trivial⟩ (by (repeat' constructor)) (by ((repeat (apply Have.cons; (repeat (first | exact Pick.here | apply Pick.there)))); apply Have.base; repeat' constructor))
      ·refine D.kDF (t := 118) rfl h21_119 ?_
       refine D.gs (t := 119) rfl rfl rfl rfl (by kernel_rfl) ?_
       refine D.gs (t := 119) rfl rfl rfl rfl (by kernel_rfl) ?_
       refine D.gs (t := 119) rfl rfl rfl rfl (by kernel_rfl) ?_
       refine D.gs (t := 119) rfl rfl rfl rfl (by kernel_rfl) ?_
       refine D.gs (t := 119) rfl rfl rfl rfl (by kernel_rfl) ?_
       refine D.gs (t := 119) rfl rfl rfl rfl (by kernel_rfl) ?_
       refine D.gs (t := 119) rfl rfl rfl rfl (by kernel_rfl) ?_
       refine D.gs (t := 119) rfl rfl rfl rfl (by kernel_rfl) ?_
       refine D.gs (t := 119) rfl rfl rfl rfl (by kernel_rfl) ?_
       refine D.gs (t := 119) rfl rfl rfl rfl (by kernel_rfl) ?_
       refine D.gqw [17] (t := 116) rfl rfl rfl (by kernel_rfl) (Quiet.pickF rfl rfl) ?_
       refine D.qw [] rfl (by kernel_rfl) (Quiet.pickF rfl rfl) ?_
       refine D.ph (Phases.fin (G.then_n (G.condF rfl (G.skip (G.blk_n (G.then_n (G.region (G.q (Quiet.move rfl) rfl ?_))))))))
       refine G.q (Quiet.add rfl rfl (by omega)) rfl ?_
       refine G.q (Quiet.assign rfl) rfl (G.nil (G.then_n ?_))
       exact G.roundK (k + 1) (by omega) (by omega) ⟨rfl, rfl, rfl, rfl, rfl, rfl, rfl, rfl, rfl, rfl, rfl, rfl, rfl, rfl, rfl, rfl, rfl, rfl, rfl, rfl, rfl, rfl, rfl, rfl, rfl, rfl, rfl, rfl, rfl, rfl, rfl, rfl, rfl, rfl, rfl, rfl, rfl, rfl, rfl, rfl, rfl, rfl, rfl, rfl, rfl, rfl, rfl, rfl, rfl, rfl, rfl, rfl, rfl, rfl, rfl, rfl, rfl, rfl, rfl, rfl, rfl, rfl, rfl, rfl, rfl, rfl, rfl, rfl, rfl, rfl, rfl, rfl, rfl, rfl, rfl, rfl, rfl, rfl, rfl, rfl, rfl, rfl, rfl, rfl, rfl, rfl, trivial⟩ (by (repeat' constructor)) (by ((repeat (apply Have.cons; (repeat (first | exact Pick.here | apply Pick.there)))); apply Have.base; repeat' constructor))
     ·rintro v L' ⟨b14, rfl, rfl⟩
      refine D.h rfl (by kernel_rfl) (OpSpec.call Tryz.func16 rfl rfl (vs := [_, _]) rfl (trstat_spec t τ (kidZ (pathsZ τ)[i] (kidsZ τ (pathsZ τ)[i])[k]) 60 hok (by decide))) (by (repeat' constructor)) ?nx323
      rintro v L' ⟨rfl, rfl⟩; rw [decide_eq_true (hkt)]
      refine D.qw [12, 13, 15] rfl (by kernel_rfl) (Quiet.move rfl) ?_
      refine D.qw [15] rfl (by kernel_rfl) (Quiet.extract rfl rfl) ?_
      refine D.q rfl (by kernel_rfl) (Quiet.extract rfl rfl) ?_
      refine D.h rfl (by kernel_rfl) (OpSpec.storeA rfl rfl ?c327 sz_43 ?c330 ?c328 ?c329) (by (repeat' constructor)) ?nx331
      case c327 => intro v hv; simp only [stC, List.mem_cons, List.not_mem_nil, or_false] at hv; rcases hv with rfl | rfl | rfl | rfl | rfl | rfl | rfl | rfl | rfl <;> rfl
      case c330 => rfl
      case c328 => simp [stC]
      case c329 => exact nfz0 _ _
      rintro v L' rfl
      refine D.ph ?_
      refine Phases.go [] (by (repeat' constructor)) ?_
      refine D.qw [] rfl (by kernel_rfl) (Quiet.assign rfl) ?_
      refine D.ph (Phases.fin ?_)
      refine G.ptCast (b := b14) (l' := stC (statD τ (kidZ (pathsZ τ)[i] (kidsZ τ (pathsZ τ)[i])[k]))) (by (repeat' constructor)) rfl ?_
      refine G.then_n (G.seq ?_)
      refine G.draw [] [[0, 1, 2, 3, 4, 5, 6, 7, 8, 9, 10, 11, 12, 13, 14, 15, 16, 17]] mixed (by kernel_rfl) ?_
      refine Phases.go [] (by (repeat' constructor)) ?_
      refine D.qw [1, 2, 3, 4, 5, 6, 7, 8, 9, 10, 11, 12, 13, 14, 15, 16, 17] rfl (by kernel_rfl) (Quiet.move rfl) ?_
      refine D.qw [2, 3, 4, 5, 6, 7, 8, 9, 10, 11, 12, 13, 14, 15, 16, 17] rfl (by kernel_rfl) (Quiet.not rfl) ?_
      refine D.qw [3, 4, 5, 6, 7, 8, 9, 10, 11, 12, 13, 14, 15, 16, 17] rfl (by kernel_rfl) (Quiet.move rfl) ?_
      refine D.gqw [4, 5, 6, 7, 8, 9, 10, 11, 12, 13, 14, 15, 16, 17] (t := 116) rfl rfl rfl (by kernel_rfl) (Quiet.move rfl) ?_
      refine D.gqw [5, 6, 7, 8, 9, 10, 11, 12, 13, 14, 15, 16, 17] (t := 116) rfl rfl rfl (by kernel_rfl) (Quiet.int rfl rfl rfl) ?_
      refine D.gqw [6, 7, 8, 9, 10, 11, 12, 13, 14, 15, 16, 17] (t := 116) rfl rfl rfl (by kernel_rfl) (Quiet.move rfl) ?_
      refine D.dec (t := 119) rfl (fun h21_119 => ?_) (fun h21_119 => ?_)
      ·refine D.kDT (t := 118) rfl h21_119 ?_
       refine D.gqw [8, 9, 15, 16, 17] (t := 119) rfl rfl rfl (by kernel_rfl) (Quiet.move rfl) ?_
       refine D.gqw [8, 9, 15, 16, 17] (t := 119) rfl rfl rfl (by kernel_rfl) (Quiet.move rfl) ?_
       refine D.gqw [9, 15, 16, 17] (t := 119) rfl rfl rfl (by kernel_rfl) (Quiet.indexAddr rfl rfl el_40 (by omega)) ?_
       refine D.gqw [15, 16, 17] (t := 119) rfl rfl rfl (by kernel_rfl) (Quiet.loadRd (sz := 1) (j := k * 1) (p := slR 9 1 _ (kidsZ τ (pathsZ τ)[i]).length (strs (kidsZ τ (pathsZ τ)[i]))) rfl ag_9 (by (repeat' constructor)) (fun h hp => slR_rd hp) (by omega) (strs_at hk2)) ?_
       refine D.gqw [13, 14, 15, 16, 17] (t := 119) rfl rfl rfl (by kernel_rfl) (Quiet.move rfl) ?_
       refine D.gqw [12, 13, 14, 15, 16, 17] (t := 119) rfl rfl rfl (by kernel_rfl) (Quiet.move rfl) ?_
       refine D.gqw [13, 14, 15, 16, 17] (t := 119) rfl rfl rfl (by kernel_rfl) (Quiet.as (v' := vint ((k - 1 : Nat) : Int)) (by congr 1; omega) (Quiet.sub rfl rfl (by omega))) ?_
       refine D.gqw [14, 15, 16, 17] (t := 119) rfl rfl rfl (by kernel_rfl) (Quiet.indexAddr rfl rfl el_40 (by omega)) ?_
       refine D.gqw [15, 16, 17] (t := 119) rfl rfl rfl (by kernel_rfl) (Quiet.loadRd (sz := 1) (j := (k - 1) * 1) (p := slR 9 1 _ (kidsZ τ (pathsZ τ)[i]).length (strs (kidsZ τ (pathsZ τ)[i]))) rfl ag_9 (by (repeat' constructor)) (fun h hp => slR_rd hp) (by omega) (strs_at (by omega))) ?_
       refine D.gqw [16, 17] (t := 119) rfl rfl rfl (by kernel_rfl) (Quiet.as (v' := .bool false) (by exact congrArg Value.bool (decide_eq_false (fun g => g (kids_lt hok (by omega) hk2)))) (Quiet.strle rfl rfl)) ?_
       refine D.gqw [17] (t := 116) rfl rfl rfl (by kernel_rfl) (Quiet.pickT rfl rfl) ?_
       refine D.qw [] rfl (by kernel_rfl) (Quiet.pickF rfl rfl) ?_
       refine D.ph (Phases.fin (G.then_n (G.condF rfl (G.skip (G.blk_n (G.then_n (G.region (G.q (Quiet.move rfl) rfl ?_))))))))
       refine G.q (Quiet.add rfl rfl (by omega)) rfl ?_
       refine G.q (Quiet.assign rfl) rfl (G.nil (G.then_n ?_))
       exact G.roundK (k + 1) (by omega) (by omega) ⟨rfl, rfl, rfl, rfl, rfl, rfl, rfl, rfl, rfl, rfl, rfl, rfl, rfl, rfl, rfl, rfl, rfl, rfl, rfl, rfl, rfl, rfl, rfl, rfl, rfl, rfl, rfl, rfl, rfl, rfl, rfl, rfl, rfl, rfl, rfl, rfl, rfl, rfl, rfl, rfl, rfl, rfl, rfl, rfl, rfl, rfl, rfl, rfl, rfl, rfl, rfl, rfl, rfl, rfl, rfl, rfl, rfl, rfl, rfl, rfl, rfl, rfl, rfl, rfl, rfl, rfl, rfl, rfl, rfl, rfl, rfl, rfl, rfl, rfl, rfl, rfl, rfl, rfl, rfl, rfl, rfl, rfl, rfl, rfl, rfl, rfl, trivial⟩ (by (repeat' constructor)) (by ((repeat (apply Have.cons; (repeat (first | exact Pick.here | apply Pick.there)))); apply Have.base; repeat' constructor))
      ·refine D.kDF (t := 118) rfl h21_119 ?_
       refine D.gs (t := 119) rfl rfl rfl rfl (by kernel_rfl) ?_
       refine D.gs (t := 119) rfl rfl rfl rfl (by kernel_rfl) ?_
       refine D.gs (t := 119) rfl rfl rfl rfl (by kernel_rfl) ?_
       refine D.gs (t := 119) rfl rfl rfl rfl (by kernel_rfl) ?_
       refine D.gs (t := 119) rfl rfl rfl rfl (by kernel_rfl) ?_
       refine D.gs (t := 119) rfl rfl rfl rfl (by kernel_rfl) ?_
       refine D.gs (t := 119) rfl rfl rfl rfl (by kernel_rfl) ?_
       refine D.gs (t := 119) rfl rfl rfl rfl (by kernel_rfl) ?_
       refine D.gs (t := 119) rfl rfl rfl rfl (by kernel_rfl) ?_
       refine D.gs (t := 119) rfl rfl rfl rfl (by kernel_rfl) ?_
       refine D.gqw [17] (t := 116) rfl rfl rfl (by kernel_rfl) (Quiet.pickF rfl rfl) ?_
       refine D.qw [] rfl (by kernel_rfl) (Quiet.pickF rfl rfl) ?_
       refine D.ph (Phases.fin (G.then_n (G.condF rfl (G.skip (G.blk_n (G.then_n (G.region (G.q (Quiet.move rfl) rfl ?_))))))))
       refine G.q (Quiet.add rfl rfl (by omega)) rfl ?_
       refine G.q (Quiet.assign rfl) rfl (G.nil (G.then_n ?_))
       exact G.roundK (k + 1) (by omega) (by omega) ⟨rfl, rfl, rfl, rfl, rfl, rfl, rfl, rfl, rfl, rfl, rfl, rfl, rfl, rfl, rfl, rfl, rfl, rfl, rfl, rfl, rfl, rfl, rfl, rfl, rfl, rfl, rfl, rfl, rfl, rfl, rfl, rfl, rfl, rfl, rfl, rfl, rfl, rfl, rfl, rfl, rfl, rfl, rfl, rfl, rfl, rfl, rfl, rfl, rfl, rfl, rfl, rfl, rfl, rfl, rfl, rfl, rfl, rfl, rfl, rfl, rfl, rfl, rfl, rfl, rfl, rfl, rfl, rfl, rfl, rfl, rfl, rfl, rfl, rfl, rfl, rfl, rfl, rfl, rfl, rfl, rfl, rfl, rfl, rfl, rfl, rfl, trivial⟩ (by (repeat' constructor)) (by ((repeat (apply Have.cons; (repeat (first | exact Pick.here | apply Pick.there)))); apply Have.base; repeat' constructor))
    ·refine G.exit (G.then_e (G.then_e (G.blk_e (G.blk_n (G.then_n (G.region (G.q (Quiet.move rfl) rfl ?_)))))))
     refine G.q (Quiet.add rfl rfl (by omega)) rfl ?_
     refine G.q (Quiet.assign rfl) rfl (G.nil (G.then_n ?_))
     rw [show ((toldK τ ((pathsZ τ).take i) : Int) + ((kidsZ τ (pathsZ τ)[i]).length : Int)) = ((toldK τ ((pathsZ τ).take (i + 1)) : Nat) : Int) by rw [told_snoc τ hi2]; simp]
     rw [show ((nonK ((pathsZ τ).take i) : Int) + 1) = ((nonK ((pathsZ τ).take (i + 1)) : Nat) : Int) by rw [non_yes hi2 h79]; simp]
     exact G.roundK (i + 1) (by omega) (by omega) ⟨rfl, rfl, rfl, rfl, rfl, trivial⟩ (by (repeat' constructor)) (by ((repeat (apply Have.cons; (repeat (first | exact Pick.here | apply Pick.there)))); apply Have.base; repeat' constructor))
   ·refine G.skip (G.then_n (G.seq (G.region (G.q (Quiet.assign rfl) rfl (G.nil (G.then_n (G.block ?_)))))))
    refine G.loopK (ι := Nat) (fun q E => (13, vint q) :: E) (fun q => [treeR t τ]) (fun q => q ≤ (kidsZ τ (pathsZ τ)[i]).length) (fun q => (kidsZ τ (pathsZ τ)[i]).length - q) (0) (ts := [0, 3, 4, 5, 6, 7, 8, 9, 10, 18, 19, 20, 21, 24, 25, 26, 27, 28, 29, 30, 31, 32, 33, 34, 35, 36, 37, 38, 39, 40, 41, 42, 43, 44, 45, 46, 47, 48, 49, 50, 51, 52, 53, 54, 55, 56, 57, 58, 59, 60, 61, 62, 63, 64, 65, 66, 67, 68, 69, 70, 71, 72, 73, 74, 75, 76, 77, 78, 79]) (.cons rfl (.cons rfl (.cons rfl (.cons rfl (.cons rfl (.cons rfl (.cons rfl (.cons rfl (.cons rfl (.cons rfl (.cons rfl (.cons rfl (.cons rfl (.cons rfl (.cons rfl (.cons rfl (.cons rfl (.cons rfl (.cons rfl (.cons rfl (.cons rfl (.cons rfl (.cons rfl (.cons rfl (.cons rfl (.cons rfl (.cons rfl (.cons rfl (.cons rfl (.cons rfl (.cons rfl (.cons rfl (.cons rfl (.cons rfl (.cons rfl (.cons rfl (.cons rfl (.cons rfl (.cons rfl (.cons rfl (.cons rfl (.cons rfl (.cons rfl (.cons rfl (.cons rfl (.cons rfl (.cons rfl (.cons rfl (.cons rfl (.cons rfl (.cons rfl (.cons rfl (.cons rfl (.cons rfl (.cons rfl (.cons rfl (.cons rfl (.cons rfl (.cons rfl (.cons rfl (.cons rfl (.cons rfl (.cons rfl (.cons rfl (.cons rfl (.cons rfl (.cons rfl (.cons rfl (.cons rfl (.nil)))))))))))))))))))))))))))))))))))))))))))))))))))))))))))))))))))))) (Nat.zero_le _) ⟨rfl, rfl, rfl, rfl, rfl, rfl, rfl, rfl, rfl, rfl, rfl, rfl, rfl, rfl, rfl, rfl, rfl, rfl, rfl, rfl, rfl, rfl, rfl, rfl, rfl, rfl, rfl, rfl, rfl, rfl, rfl, rfl, rfl, rfl, rfl, rfl, rfl, rfl, rfl, rfl, rfl, rfl, rfl, rfl, rfl, rfl, rfl, rfl, rfl, rfl, rfl, rfl, rfl, rfl, rfl, rfl, rfl, rfl, rfl, rfl, rfl, rfl, rfl, rfl, rfl, rfl, rfl, rfl, rfl, rfl, trivial⟩ (by (repeat' constructor)) ?_
    rintro k hk
    refine G.seq (G.seq (G.region (G.q (Quiet.move rfl) rfl (G.q (Quiet.move rfl) rfl (G.q (Quiet.slen rfl Tryz.underlying40 rfl) rfl (G.q (Quiet.int rfl rfl rfl) rfl (G.nil (G.then_n ?_))))))))
    refine G.condD rfl (fun h97 => ?_) (fun h97 => ?_)
    ·have hk2 : k < (kidsZ τ (pathsZ τ)[i]).length := by omega
     refine G.slShape (v := .slice ak _ ck) (xs := strs (kidsZ τ (pathsZ τ)[i])) (by (repeat' constructor)) (by omega) fun bk ck' e0 mk _ => ?_
     simp only [Value.slice.injEq, true_and] at e0
     obtain ⟨rfl, rfl⟩ := e0
     obtain ⟨hkt, hkl2⟩ := kid_there' hinv hk2
     refine G.skip (G.then_n (G.seq (G.block (G.seq ?_))))
     refine G.draw [10, 14, 15] [[0, 1, 2, 3, 4, 5, 6, 7, 8, 9, 10, 11, 12, 13, 14, 15], [16]] mixed (by kernel_rfl) ?_
     refine Phases.go [slR 9 1 _ (pathsZ τ).length (strs (pathsZ τ)), slR 9 1 _ (kidsZ τ (pathsZ τ)[i]).length (strs (kidsZ τ (pathsZ τ)[i]))] (by (repeat' constructor)) ?_
     refine D.q rfl (by kernel_rfl) (Quiet.move rfl) ?_
     refine D.q rfl (by kernel_rfl) (Quiet.move rfl) ?_
     refine D.q rfl (by kernel_rfl) (Quiet.move rfl) ?_
     refine D.q rfl (by kernel_rfl) (Quiet.indexAddr rfl rfl el_40 (by omega)) ?_
     refine D.q rfl (by kernel_rfl) (Quiet.loadRd (sz := 1) (j := i * 1) (p := slR 9 1 _ (pathsZ τ).length (strs (pathsZ τ))) rfl ag_9 (by (repeat' constructor)) (fun h hp => slR_rd hp) (by omega) (strs_at hi2)) ?_
     refine D.q rfl (by kernel_rfl) (Quiet.move rfl) ?_
     refine D.q rfl (by kernel_rfl) (Quiet.move rfl) ?_
     refine D.q rfl (by kernel_rfl) (Quiet.indexAddr rfl rfl el_40 (by omega)) ?_
     refine D.q rfl (by kernel_rfl) (Quiet.loadRd (sz := 1) (j := k * 1) (p := slR 9 1 _ (kidsZ τ (pathsZ τ)[i]).length (strs (kidsZ τ (pathsZ τ)[i]))) rfl ag_9 (by (repeat' constructor)) (fun h hp => slR_rd hp) (by omega) (strs_at hk2)) ?_
     refine D.m rfl (by kernel_rfl) (OpSpec.call Tryz.func52 rfl rfl (vs := [_, _]) rfl (rkid_spec _ _ ?hs366 ?hn367)) (by (repeat' constructor)) ?nx368
     case hs366 => first | assumption | omega
     case hn367 => first | assumption | omega | simp
     refine D.h2 (k := 14) rfl rfl (by kernel_rfl) rfl (OpSpec.call Tryz.func16 rfl rfl (vs := [_, _]) rfl (trstat_spec t τ (kidZ (pathsZ τ)[i] (kidsZ τ (pathsZ τ)[i])[k]) 60 hok (by decide))) (by (repeat' constructor)) (OpSpec.allocA ze_43) (by (repeat' constructor)) ?nx370 ?nx371
     ·rintro v L' ⟨rfl, rfl⟩; rw [decide_eq_true (hkt)]
      refine D.q rfl (by kernel_rfl) (Quiet.move rfl) ?_
      refine D.q rfl (by kernel_rfl) (Quiet.extract rfl rfl) ?_
      refine D.q rfl (by kernel_rfl) (Quiet.extract rfl rfl) ?_
      refine D.h rfl (by kernel_rfl) (OpSpec.allocA ze_43) (by (repeat' constructor)) ?nx375
      rintro v L' ⟨b14, rfl, rfl⟩
      refine D.h rfl (by kernel_rfl) (OpSpec.storeA rfl rfl ?c377 sz_43 ?c380 ?c378 ?c379) (by (repeat' constructor)) ?nx381
      case c377 => intro v hv; simp only [stC, List.mem_cons, List.not_mem_nil, or_false] at hv; rcases hv with rfl | rfl | rfl | rfl | rfl | rfl | rfl | rfl | rfl <;> rfl
      case c380 => rfl
      case c378 => simp [stC]
      case c379 => exact nfz0 _ _
      rintro v L' rfl
      refine D.ph ?_
      refine Phases.go [] (by (repeat' constructor)) ?_
      refine D.qw [] rfl (by kernel_rfl) (Quiet.assign rfl) ?_
      refine D.ph (Phases.fin ?_)
      refine G.ptCast (b := b14) (l' := stC (statD τ (kidZ (pathsZ τ)[i] (kidsZ τ (pathsZ τ)[i])[k]))) (by (repeat' constructor)) rfl ?_
      refine G.then_n (G.seq ?_)
      refine G.draw [] [[0, 1, 2, 3, 4, 5, 6, 7, 8, 9, 10, 11, 12, 13, 14, 15, 16, 17]] mixed (by kernel_rfl) ?_
      refine Phases.go [] (by (repeat' constructor)) ?_
      refine D.qw [1, 2, 3, 4, 5, 6, 7, 8, 9, 10, 11, 12, 13, 14, 15, 16, 17] rfl (by kernel_rfl) (Quiet.move rfl) ?_
      refine D.qw [2, 3, 4, 5, 6, 7, 8, 9, 10, 11, 12, 13, 14, 15, 16, 17] rfl (by kernel_rfl) (Quiet.not rfl) ?_
      refine D.qw [3, 4, 5, 6, 7, 8, 9, 10, 11, 12, 13, 14, 15, 16, 17] rfl (by kernel_rfl) (Quiet.move rfl) ?_
      refine D.gqw [4, 5, 6, 7, 8, 9, 10, 11, 12, 13, 14, 15, 16, 17] (t := 116) rfl rfl rfl (by kernel_rfl) (Quiet.move rfl) ?_
      refine D.gqw [5, 6, 7, 8, 9, 10, 11, 12, 13, 14, 15, 16, 17] (t := 116) rfl rfl rfl (by kernel_rfl) (Quiet.int rfl rfl rfl) ?_
      refine D.gqw [6, 7, 8, 9, 10, 11, 12, 13, 14, 15, 16, 17] (t := 116) rfl rfl rfl (by kernel_rfl) (Quiet.move rfl) ?_
      refine D.dec (t := 119) rfl (fun h21_119 => ?_) (fun h21_119 => ?_)
      ·refine D.kDT (t := 118) rfl h21_119 ?_
       refine D.gqw [8, 9, 15, 16, 17] (t := 119) rfl rfl rfl (by kernel_rfl) (Quiet.move rfl) ?_
       refine D.gqw [8, 9, 15, 16, 17] (t := 119) rfl rfl rfl (by kernel_rfl) (Quiet.move rfl) ?_
       refine D.gqw [9, 15, 16, 17] (t := 119) rfl rfl rfl (by kernel_rfl) (Quiet.indexAddr rfl rfl el_40 (by omega)) ?_
       refine D.gqw [15, 16, 17] (t := 119) rfl rfl rfl (by kernel_rfl) (Quiet.loadRd (sz := 1) (j := k * 1) (p := slR 9 1 _ (kidsZ τ (pathsZ τ)[i]).length (strs (kidsZ τ (pathsZ τ)[i]))) rfl ag_9 (by (repeat' constructor)) (fun h hp => slR_rd hp) (by omega) (strs_at hk2)) ?_
       refine D.gqw [13, 14, 15, 16, 17] (t := 119) rfl rfl rfl (by kernel_rfl) (Quiet.move rfl) ?_
       refine D.gqw [12, 13, 14, 15, 16, 17] (t := 119) rfl rfl rfl (by kernel_rfl) (Quiet.move rfl) ?_
       refine D.gqw [13, 14, 15, 16, 17] (t := 119) rfl rfl rfl (by kernel_rfl) (Quiet.as (v' := vint ((k - 1 : Nat) : Int)) (by congr 1; omega) (Quiet.sub rfl rfl (by omega))) ?_
       refine D.gqw [14, 15, 16, 17] (t := 119) rfl rfl rfl (by kernel_rfl) (Quiet.indexAddr rfl rfl el_40 (by omega)) ?_
       refine D.gqw [15, 16, 17] (t := 119) rfl rfl rfl (by kernel_rfl) (Quiet.loadRd (sz := 1) (j := (k - 1) * 1) (p := slR 9 1 _ (kidsZ τ (pathsZ τ)[i]).length (strs (kidsZ τ (pathsZ τ)[i]))) rfl ag_9 (by (repeat' constructor)) (fun h hp => slR_rd hp) (by omega) (strs_at (by omega))) ?_
       refine D.gqw [16, 17] (t := 119) rfl rfl rfl (by kernel_rfl) (Quiet.as (v' := .bool false) (by exact congrArg Value.bool (decide_eq_false (fun g => g (kids_lt hok (by omega) hk2)))) (Quiet.strle rfl rfl)) ?_
       refine D.gqw [17] (t := 116) rfl rfl rfl (by kernel_rfl) (Quiet.pickT rfl rfl) ?_
       refine D.qw [] rfl (by kernel_rfl) (Quiet.pickF rfl rfl) ?_
       refine D.ph (Phases.fin (G.then_n (G.condF rfl (G.skip (G.blk_n (G.then_n (G.region (G.q (Quiet.move rfl) rfl ?_))))))))
       refine G.q (Quiet.add rfl rfl (by omega)) rfl ?_
       refine G.q (Quiet.assign rfl) rfl (G.nil (G.then_n ?_))
       exact G.roundK (k + 1) (by omega) (by omega) ⟨rfl, rfl, rfl, rfl, rfl, rfl, rfl, rfl, rfl, rfl, rfl, rfl, rfl, rfl, rfl, rfl, rfl, rfl, rfl, rfl, rfl, rfl, rfl, rfl, rfl, rfl, rfl, rfl, rfl, rfl, rfl, rfl, rfl, rfl, rfl, rfl, rfl, rfl, rfl, rfl, rfl, rfl, rfl, rfl, rfl, rfl, rfl, rfl, rfl, rfl, rfl, rfl, rfl, rfl, rfl, rfl, rfl, rfl, rfl, rfl, rfl, rfl, rfl, rfl, rfl, rfl, rfl, rfl, rfl, rfl, trivial⟩ (by (repeat' constructor)) (by ((repeat (apply Have.cons; (repeat (first | exact Pick.here | apply Pick.there)))); apply Have.base; repeat' constructor))
      ·refine D.kDF (t := 118) rfl h21_119 ?_
       refine D.gs (t := 119) rfl rfl rfl rfl (by kernel_rfl) ?_
       refine D.gs (t := 119) rfl rfl rfl rfl (by kernel_rfl) ?_
       refine D.gs (t := 119) rfl rfl rfl rfl (by kernel_rfl) ?_
       refine D.gs (t := 119) rfl rfl rfl rfl (by kernel_rfl) ?_
       refine D.gs (t := 119) rfl rfl rfl rfl (by kernel_rfl) ?_
       refine D.gs (t := 119) rfl rfl rfl rfl (by kernel_rfl) ?_
       refine D.gs (t := 119) rfl rfl rfl rfl (by kernel_rfl) ?_
       refine D.gs (t := 119) rfl rfl rfl rfl (by kernel_rfl) ?_
       refine D.gs (t := 119) rfl rfl rfl rfl (by kernel_rfl) ?_
       refine D.gs (t := 119) rfl rfl rfl rfl (by kernel_rfl) ?_
       refine D.gqw [17] (t := 116) rfl rfl rfl (by kernel_rfl) (Quiet.pickF rfl rfl) ?_
       refine D.qw [] rfl (by kernel_rfl) (Quiet.pickF rfl rfl) ?_
       refine D.ph (Phases.fin (G.then_n (G.condF rfl (G.skip (G.blk_n (G.then_n (G.region (G.q (Quiet.move rfl) rfl ?_))))))))
       refine G.q (Quiet.add rfl rfl (by omega)) rfl ?_
       refine G.q (Quiet.assign rfl) rfl (G.nil (G.then_n ?_))
       exact G.roundK (k + 1) (by omega) (by omega) ⟨rfl, rfl, rfl, rfl, rfl, rfl, rfl, rfl, rfl, rfl, rfl, rfl, rfl, rfl, rfl, rfl, rfl, rfl, rfl, rfl, rfl, rfl, rfl, rfl, rfl, rfl, rfl, rfl, rfl, rfl, rfl, rfl, rfl, rfl, rfl, rfl, rfl, rfl, rfl, rfl, rfl, rfl, rfl, rfl, rfl, rfl, rfl, rfl, rfl, rfl, rfl, rfl, rfl, rfl, rfl, rfl, rfl, rfl, rfl, rfl, rfl, rfl, rfl, rfl, rfl, rfl, rfl, rfl, rfl, rfl, trivial⟩ (by (repeat' constructor)) (by ((repeat (apply Have.cons; (repeat (first | exact Pick.here | apply Pick.there)))); apply Have.base; repeat' constructor))
     ·rintro v L' ⟨b14, rfl, rfl⟩
      refine D.h rfl (by kernel_rfl) (OpSpec.call Tryz.func16 rfl rfl (vs := [_, _]) rfl (trstat_spec t τ (kidZ (pathsZ τ)[i] (kidsZ τ (pathsZ τ)[i])[k]) 60 hok (by decide))) (by (repeat' constructor)) ?nx401
      rintro v L' ⟨rfl, rfl⟩; rw [decide_eq_true (hkt)]
      refine D.qw [12, 13, 15] rfl (by kernel_rfl) (Quiet.move rfl) ?_
      refine D.qw [15] rfl (by kernel_rfl) (Quiet.extract rfl rfl) ?_
      refine D.q rfl (by kernel_rfl) (Quiet.extract rfl rfl) ?_
      refine D.h rfl (by kernel_rfl) (OpSpec.storeA rfl rfl ?c405 sz_43 ?c408 ?c406 ?c407) (by (repeat' constructor)) ?nx409
      case c405 => intro v hv; simp only [stC, List.mem_cons, List.not_mem_nil, or_false] at hv; rcases hv with rfl | rfl | rfl | rfl | rfl | rfl | rfl | rfl | rfl <;> rfl
      case c408 => rfl
      case c406 => simp [stC]
      case c407 => exact nfz0 _ _
      rintro v L' rfl
      refine D.ph ?_
      refine Phases.go [] (by (repeat' constructor)) ?_
      refine D.qw [] rfl (by kernel_rfl) (Quiet.assign rfl) ?_
      refine D.ph (Phases.fin ?_)
      refine G.ptCast (b := b14) (l' := stC (statD τ (kidZ (pathsZ τ)[i] (kidsZ τ (pathsZ τ)[i])[k]))) (by (repeat' constructor)) rfl ?_
      refine G.then_n (G.seq ?_)
      refine G.draw [] [[0, 1, 2, 3, 4, 5, 6, 7, 8, 9, 10, 11, 12, 13, 14, 15, 16, 17]] mixed (by kernel_rfl) ?_
      refine Phases.go [] (by (repeat' constructor)) ?_
      refine D.qw [1, 2, 3, 4, 5, 6, 7, 8, 9, 10, 11, 12, 13, 14, 15, 16, 17] rfl (by kernel_rfl) (Quiet.move rfl) ?_
      refine D.qw [2, 3, 4, 5, 6, 7, 8, 9, 10, 11, 12, 13, 14, 15, 16, 17] rfl (by kernel_rfl) (Quiet.not rfl) ?_
      refine D.qw [3, 4, 5, 6, 7, 8, 9, 10, 11, 12, 13, 14, 15, 16, 17] rfl (by kernel_rfl) (Quiet.move rfl) ?_
      refine D.gqw [4, 5, 6, 7, 8, 9, 10, 11, 12, 13, 14, 15, 16, 17] (t := 116) rfl rfl rfl (by kernel_rfl) (Quiet.move rfl) ?_
      refine D.gqw [5, 6, 7, 8, 9, 10, 11, 12, 13, 14, 15, 16, 17] (t := 116) rfl rfl rfl (by kernel_rfl) (Quiet.int rfl rfl rfl) ?_
      refine D.gqw [6, 7, 8, 9, 10, 11, 12, 13, 14, 15, 16, 17] (t := 116) rfl rfl rfl (by kernel_rfl) (Quiet.move rfl) ?_
      refine D.dec (t := 119) rfl (fun h21_119 => ?_) (fun h21_119 => ?_)
      ·refine D.kDT (t := 118) rfl h21_119 ?_
       refine D.gqw [8, 9, 15, 16, 17] (t := 119) rfl rfl rfl (by kernel_rfl) (Quiet.move rfl) ?_
       refine D.gqw [8, 9, 15, 16, 17] (t := 119) rfl rfl rfl (by kernel_rfl) (Quiet.move rfl) ?_
       refine D.gqw [9, 15, 16, 17] (t := 119) rfl rfl rfl (by kernel_rfl) (Quiet.indexAddr rfl rfl el_40 (by omega)) ?_
       refine D.gqw [15, 16, 17] (t := 119) rfl rfl rfl (by kernel_rfl) (Quiet.loadRd (sz := 1) (j := k * 1) (p := slR 9 1 _ (kidsZ τ (pathsZ τ)[i]).length (strs (kidsZ τ (pathsZ τ)[i]))) rfl ag_9 (by (repeat' constructor)) (fun h hp => slR_rd hp) (by omega) (strs_at hk2)) ?_
       refine D.gqw [13, 14, 15, 16, 17] (t := 119) rfl rfl rfl (by kernel_rfl) (Quiet.move rfl) ?_
       refine D.gqw [12, 13, 14, 15, 16, 17] (t := 119) rfl rfl rfl (by kernel_rfl) (Quiet.move rfl) ?_
       refine D.gqw [13, 14, 15, 16, 17] (t := 119) rfl rfl rfl (by kernel_rfl) (Quiet.as (v' := vint ((k - 1 : Nat) : Int)) (by congr 1; omega) (Quiet.sub rfl rfl (by omega))) ?_
       refine D.gqw [14, 15, 16, 17] (t := 119) rfl rfl rfl (by kernel_rfl) (Quiet.indexAddr rfl rfl el_40 (by omega)) ?_
       refine D.gqw [15, 16, 17] (t := 119) rfl rfl rfl (by kernel_rfl) (Quiet.loadRd (sz := 1) (j := (k - 1) * 1) (p := slR 9 1 _ (kidsZ τ (pathsZ τ)[i]).length (strs (kidsZ τ (pathsZ τ)[i]))) rfl ag_9 (by (repeat' constructor)) (fun h hp => slR_rd hp) (by omega) (strs_at (by omega))) ?_
       refine D.gqw [16, 17] (t := 119) rfl rfl rfl (by kernel_rfl) (Quiet.as (v' := .bool false) (by exact congrArg Value.bool (decide_eq_false (fun g => g (kids_lt hok (by omega) hk2)))) (Quiet.strle rfl rfl)) ?_
       refine D.gqw [17] (t := 116) rfl rfl rfl (by kernel_rfl) (Quiet.pickT rfl rfl) ?_
       refine D.qw [] rfl (by kernel_rfl) (Quiet.pickF rfl rfl) ?_
       refine D.ph (Phases.fin (G.then_n (G.condF rfl (G.skip (G.blk_n (G.then_n (G.region (G.q (Quiet.move rfl) rfl ?_))))))))
       refine G.q (Quiet.add rfl rfl (by omega)) rfl ?_
       refine G.q (Quiet.assign rfl) rfl (G.nil (G.then_n ?_))
       exact G.roundK (k + 1) (by omega) (by omega) ⟨rfl, rfl, rfl, rfl, rfl, rfl, rfl, rfl, rfl, rfl, rfl, rfl, rfl, rfl, rfl, rfl, rfl, rfl, rfl, rfl, rfl, rfl, rfl, rfl, rfl, rfl, rfl, rfl, rfl, rfl, rfl, rfl, rfl, rfl, rfl, rfl, rfl, rfl, rfl, rfl, rfl, rfl, rfl, rfl, rfl, rfl, rfl, rfl, rfl, rfl, rfl, rfl, rfl, rfl, rfl, rfl, rfl, rfl, rfl, rfl, rfl, rfl, rfl, rfl, rfl, rfl, rfl, rfl, rfl, rfl, trivial⟩ (by (repeat' constructor)) (by ((repeat (apply Have.cons; (repeat (first | exact Pick.here | apply Pick.there)))); apply Have.base; repeat' constructor))
      ·refine D.kDF (t := 118) rfl h21_119 ?_
       refine D.gs (t := 119) rfl rfl rfl rfl (by kernel_rfl) ?_
       refine D.gs (t := 119) rfl rfl rfl rfl (by kernel_rfl) ?_
       refine D.gs (t := 119) rfl rfl rfl rfl (by kernel_rfl) ?_
       refine D.gs (t := 119) rfl rfl rfl rfl (by kernel_rfl) ?_
       refine D.gs (t := 119) rfl rfl rfl rfl (by kernel_rfl) ?_
       refine D.gs (t := 119) rfl rfl rfl rfl (by kernel_rfl) ?_
       refine D.gs (t := 119) rfl rfl rfl rfl (by kernel_rfl) ?_
       refine D.gs (t := 119) rfl rfl rfl rfl (by kernel_rfl) ?_
       refine D.gs (t := 119) rfl rfl rfl rfl (by kernel_rfl) ?_
       refine D.gs (t := 119) rfl rfl rfl rfl (by kernel_rfl) ?_
       refine D.gqw [17] (t := 116) rfl rfl rfl (by kernel_rfl) (Quiet.pickF rfl rfl) ?_
       refine D.qw [] rfl (by kernel_rfl) (Quiet.pickF rfl rfl) ?_
       refine D.ph (Phases.fin (G.then_n (G.condF rfl (G.skip (G.blk_n (G.then_n (G.region (G.q (Quiet.move rfl) rfl ?_))))))))
       refine G.q (Quiet.add rfl rfl (by omega)) rfl ?_
       refine G.q (Quiet.assign rfl) rfl (G.nil (G.then_n ?_))
       exact G.roundK (k + 1) (by omega) (by omega) ⟨rfl, rfl, rfl, rfl, rfl, rfl, rfl, rfl, rfl, rfl, rfl, rfl, rfl, rfl, rfl, rfl, rfl, rfl, rfl, rfl, rfl, rfl, rfl, rfl, rfl, rfl, rfl, rfl, rfl, rfl, rfl, rfl, rfl, rfl, rfl, rfl, rfl, rfl, rfl, rfl, rfl, rfl, rfl, rfl, rfl, rfl, rfl, rfl, rfl, rfl, rfl, rfl, rfl, rfl, rfl, rfl, rfl, rfl, rfl, rfl, rfl, rfl, rfl, rfl, rfl, rfl, rfl, rfl, rfl, rfl, trivial⟩ (by (repeat' constructor)) (by ((repeat (apply Have.cons; (repeat (first | exact Pick.here | apply Pick.there)))); apply Have.base; repeat' constructor))
    ·refine G.exit (G.then_e (G.then_e (G.blk_e (G.blk_n (G.then_n (G.region (G.q (Quiet.move rfl) rfl ?_)))))))
     refine G.q (Quiet.add rfl rfl (by omega)) rfl ?_
     refine G.q (Quiet.assign rfl) rfl (G.nil (G.then_n ?_))
     rw [show ((toldK τ ((pathsZ τ).take i) : Int) + ((kidsZ τ (pathsZ τ)[i]).length : Int)) = ((toldK τ ((pathsZ τ).take (i + 1)) : Nat) : Int) by rw [told_snoc τ hi2]; simp]
     rw [← non_no hi2 h79]
     exact G.roundK (i + 1) (by omega) (by omega) ⟨rfl, rfl, rfl, rfl, rfl, trivial⟩ (by (repeat' constructor)) (by ((repeat (apply Have.cons; (repeat (first | exact Pick.here | apply Pick.there)))); apply Have.base; repeat' constructor))
 ·have hii : i = (pathsZ τ).length := by omega
  rw [hii, List.take_length]
  refine G.exit (G.then_e (G.then_e (G.blk_e (G.then_n (G.seq (G.region (G.q (Quiet.move rfl) rfl (G.q (Quiet.move rfl) rfl ?_))))))))
  refine G.q (Quiet.as (v' := .bool true) (by exact congrArg Value.bool (decide_eq_true (by omega))) (Quiet.int rfl rfl rfl)) rfl ?_
  refine G.q (Quiet.move rfl) rfl (G.grun (t := 135) rfl rfl rfl (G.q (Quiet.move rfl) rfl (G.grun (t := 135) rfl rfl rfl (G.q (Quiet.slen rfl Tryz.underlying40 rfl) rfl (G.grun (t := 135) rfl rfl rfl (G.q (Quiet.move rfl) rfl (G.grun (t := 135) rfl rfl rfl ?_)))))))
  refine G.q (Quiet.add rfl rfl (by omega)) rfl ?_
  refine G.grun (t := 135) rfl rfl rfl ?_
  refine G.q (Quiet.as (v' := .bool true) (by exact congrArg Value.bool (decide_eq_true (by omega))) (Quiet.int rfl rfl rfl)) rfl ?_
  refine G.q (Quiet.pickT rfl rfl) rfl (G.q (Quiet.assign rfl) rfl (G.nil (G.then_n (G.ret ?_))))
  exact G.done (l := [.tmp 2]) rfl rfl ⟨rfl, rfl⟩ (by (repeat' constructor)) (by (repeat' constructor))

set_option maxRecDepth 100000 in
theorem tkeeps7_spec (v : Value) (xs : List Ac0) (p : HP) (hx : Acts1 p v xs) : Fn Tryz.prog 4 #[v] [p] fun r L => r = .bool true ∧ L = [p] := by
 refine Fn.intro (vs := [v]) Tryz.func4 rfl rfl ?_
 intro F W
 refine G.seq (G.region (G.q (Quiet.assign rfl) rfl (G.nil (G.then_n (G.seq (G.region ?_))))))
 refine G.op (OpSpec.call Tryz.func11 rfl rfl (vs := []) rfl (awake7_spec)) (by (repeat' constructor)) rfl ?nx2
 rintro v L' ⟨rfl, rfl⟩
 refine G.q (Quiet.assign rfl) rfl (G.nil (G.then_n (G.seq (G.region (G.q (Quiet.move rfl) rfl ?_)))))
 refine G.op (OpSpec.call Tryz.func12 rfl rfl (vs := [_, _]) rfl (history7_spec v xs 1 p hx (by decide))) (by (repeat' constructor)) rfl ?nx5
 rintro v L' ⟨es, τ, x, u, rfl, hh, ⟨hes, au, cu, rfl⟩, rfl⟩; have hinv := hh.inv; have hok := hinv.ok; have hfew := hok.few
 refine G.q (Quiet.move rfl) rfl (G.q (Quiet.extract rfl rfl) rfl (G.q (Quiet.extract rfl rfl) rfl (G.q (Quiet.assign rfl) rfl (G.q (Quiet.assign rfl) rfl (G.nil (G.then_n (G.seq (G.region ?_))))))))
 refine G.op (OpSpec.call Tryz.func13 rfl rfl (vs := []) rfl (trnew_spec)) (by (repeat' constructor)) rfl ?nx9
 rintro v L' ⟨t, rfl, rfl⟩
 refine G.q (Quiet.assign rfl) rfl (G.nil (G.then_n (G.seq (G.seq (G.region (G.q (Quiet.move rfl) rfl (G.q (Quiet.not rfl) rfl (G.q (Quiet.move rfl) rfl (G.grun (t := 22) rfl rfl rfl (G.q (Quiet.move rfl) rfl (G.grun (t := 22) rfl rfl rfl ?_)))))))))))
 refine G.q (Quiet.as (v' := .bool false) (by rfl) (Quiet.ptreq rfl rfl Tryz.underlying28)) rfl ?_
 refine G.q (Quiet.pickF rfl rfl) rfl (G.nil (G.then_n (G.condF rfl (G.skip (G.then_n (G.seq (G.seq (G.region (G.q (Quiet.assign rfl) rfl (G.nil (G.then_n (G.block ?_))))))))))))
 refine G.trCast (τ' := appL newT (es.take 0)) (by (repeat' constructor)) (by rw [List.take_zero]; rfl) ?_
 refine G.loopK (ι := Nat) (fun q E => (7, vint q) :: E) (fun q => [treeR t (appL newT (es.take q))]) (fun q => q ≤ es.length) (fun q => es.length - q) (0) (ts := [4, 6]) (.cons rfl (.cons rfl (.nil))) (Nat.zero_le _) ⟨rfl, rfl, rfl, trivial⟩ (by (repeat' constructor)) ?_
 rintro i hi
 refine G.seq (G.seq (G.region (G.q (Quiet.move rfl) rfl (G.q (Quiet.move rfl) rfl (G.q (Quiet.slen rfl Tryz.underlying24 rfl) rfl (G.q (Quiet.int rfl rfl rfl) rfl (G.nil (G.then_n ?_))))))))
 refine G.condD rfl (fun h29 => ?_) (fun h29 => ?_)
 ·have hi2 : i < es.length := by omega
  refine G.slShape (T := 39) (sz := 11) (v := .slice au es.length cu) (xs := es.flatMap enC) (by (repeat' constructor)) (by omega) fun be be' e0 mbe _ => ?_
  simp only [Value.slice.injEq, true_and] at e0
  obtain ⟨rfl, rfl⟩ := e0
  refine G.skip (G.then_n (G.seq (G.block (G.seq (G.region (G.q (Quiet.move rfl) rfl (G.q (Quiet.move rfl) rfl (G.q (Quiet.move rfl) rfl ?_))))))))
  refine G.q (Quiet.indexAddr rfl rfl el_24 (by omega)) rfl ?_
  refine G.q (Quiet.loadRdA (sz := 11) (j := i * 11) (k := 11) (p := slR 39 11 _ es.length (es.flatMap enC)) (vs := enC es[i]) rfl ag_39 (by (repeat' constructor)) (fun h hp => slR_rd hp) (by simp) (by omega) (by omega) (flatMap_at (f := enC) (sz := 11) (fun _ _ => rfl) (by omega))) rfl ?_
  refine G.op (OpSpec.call Tryz.func14 rfl rfl (vs := [_, _]) rfl (trapply_spec t (appL newT (es.take i)) es[i].zx es[i].ses es[i].xid es[i].x es[i].subs (ensA es) (hh.tx i hi2) 60 (hh.ok hi) (by have := hh.few hi2; omega))) (by (repeat' constructor)) rfl ?nx23
  rintro v L' ⟨ue, ee, rfl, he, hue, rfl⟩
  refine G.nil ?_
  refine G.trCast (τ' := appL newT (es.take (i + 1))) (by (repeat' constructor)) (by rw [appL_step _ hi2]; rfl) ?_
  have hinv1 := (hh.take (i + 1) (by omega)).inv
  refine G.then_n (G.seq (G.seq (G.region (G.q (Quiet.move rfl) rfl (G.q (Quiet.move rfl) rfl ?_)))))
  refine G.q (Quiet.indexAddr rfl rfl el_24 (by omega)) rfl ?_
  refine G.q (Quiet.fieldAddr rfl fo_39_3) rfl (G.q (Quiet.fieldAddr rfl fo_37_0) rfl ?_)
  refine G.q (Quiet.loadRd (sz := 11) (j := i * 11 + 3) (p := slR 39 11 _ es.length (es.flatMap enC)) rfl ag_3 (by (repeat' constructor)) (fun h hp => slR_rd hp) (by omega) ((en_cell (l := es) (i := i) (k := 3) (by omega) (by decide)).trans rfl)) rfl ?_
  refine G.q (Quiet.int rfl rfl rfl) rfl (G.nil (G.then_n ?_))
  refine G.condD rfl (fun h44 => ?_) (fun h44 => ?_)
  ·obtain ⟨hcl1, hcl2⟩ := hh.closed hi2 h44
   refine G.seq (G.region (G.q (Quiet.move rfl) rfl (G.q (Quiet.move rfl) rfl (G.q (Quiet.move rfl) rfl ?_))))
   refine G.q (Quiet.indexAddr rfl rfl el_24 (by omega)) rfl ?_
   refine G.q (Quiet.fieldAddr rfl fo_39_3) rfl (G.q (Quiet.fieldAddr rfl fo_37_4) rfl ?_)
   refine G.q (Quiet.loadRd (sz := 11) (j := i * 11 + 7) (p := slR 39 11 _ es.length (es.flatMap enC)) rfl ag_3 (by (repeat' constructor)) (fun h hp => slR_rd hp) (by omega) ((en_cell (l := es) (i := i) (k := 7) (by omega) (by decide)).trans rfl)) rfl ?_
   refine G.op (OpSpec.call Tryz.func18 rfl rfl (vs := [_, _]) rfl (trowned_spec t (appL newT (es.take (i + 1))) es[i].x.own 60 hinv1.ok (by decide))) (by (repeat' constructor)) rfl ?nx39
   rintro v L' ⟨⟨ao, co, rfl⟩, rfl⟩; rw [hcl1]
   refine G.q (Quiet.assign rfl) rfl (G.nil (G.then_n (G.seq (G.region (G.q (Quiet.move rfl) rfl (G.q (Quiet.move rfl) rfl (G.q (Quiet.move rfl) rfl ?_)))))))
   refine G.q (Quiet.indexAddr rfl rfl el_24 (by omega)) rfl ?_
   refine G.q (Quiet.fieldAddr rfl fo_39_3) rfl (G.q (Quiet.fieldAddr rfl fo_37_4) rfl ?_)
   refine G.q (Quiet.loadRd (sz := 11) (j := i * 11 + 7) (p := slR 39 11 _ es.length (es.flatMap enC)) rfl ag_3 (by (repeat' constructor)) (fun h hp => slR_rd hp) (by omega) ((en_cell (l := es) (i := i) (k := 7) (by omega) (by decide)).trans rfl)) rfl ?_
   refine G.op (OpSpec.call Tryz.func19 rfl rfl (vs := [_, _]) rfl (trsession_spec t (appL newT (es.take (i + 1))) es[i].x.own)) (by (repeat' constructor)) rfl ?nx48
   rintro v L' ⟨rfl, rfl⟩; rw [decide_eq_false hcl2]
   refine G.q (Quiet.move rfl) rfl (G.q (Quiet.extract rfl rfl) rfl (G.q (Quiet.extract rfl rfl) rfl (G.q (Quiet.extract rfl rfl) rfl (G.q (Quiet.assign rfl) rfl (G.q (Quiet.assign rfl) rfl (G.q (Quiet.assign rfl) rfl (G.nil (G.then_n (G.seq (G.region (G.q (Quiet.move rfl) rfl (G.q (Quiet.slen rfl Tryz.underlying40 rfl) rfl ?_))))))))))))
   refine G.q (Quiet.as (v' := .bool false) (by rfl) (Quiet.int rfl rfl rfl)) rfl ?_
   refine G.q (Quiet.move rfl) rfl (G.grun (t := 68) rfl rfl rfl (G.q (Quiet.move rfl) rfl (G.q (Quiet.pickF rfl rfl) rfl (G.nil (G.then_n (G.condF rfl (G.skip (G.then_n (G.seq (G.region (G.q (Quiet.move rfl) rfl ?_)))))))))))
   refine G.q (Quiet.remE rfl rfl (by omega) (by omega)) rfl ?_
   refine G.q (Quiet.int rfl rfl rfl) rfl (G.q (Quiet.move rfl) rfl ?_)
   refine G.dec (t := 74) rfl (fun h15_74 => ?_) (fun h15_74 => ?_)
   ·refine G.kDT (t := 73) rfl h15_74 (G.gskip (t := 74) rfl rfl rfl rfl (G.gskip (t := 74) rfl rfl rfl rfl (G.gskip (t := 74) rfl rfl rfl rfl (G.gskip (t := 74) rfl rfl rfl rfl (G.gskip (t := 74) rfl rfl rfl rfl (G.q (Quiet.pickT rfl rfl) rfl (G.nil (G.then_n (G.condT rfl (G.seq (G.region (G.q (Quiet.move rfl) rfl ?_))))))))))))
    refine G.op (OpSpec.call Tryz.func20 rfl rfl (vs := [_]) rfl (stands7_spec t (appL newT (es.take (i + 1))) _ hinv1)) (by (repeat' constructor)) rfl ?nx60
    rintro v L' ⟨rfl, rfl⟩
    refine G.q (Quiet.assign rfl) rfl (G.nil (G.then_n (G.seq (G.region (G.q (Quiet.move rfl) rfl (G.q (Quiet.not rfl) rfl (G.nil (G.then_n (G.condF rfl (G.skip (G.blk_n (G.then_n (G.region (G.q (Quiet.move rfl) rfl ?_))))))))))))))
    refine G.q (Quiet.add rfl rfl (by omega)) rfl ?_
    refine G.q (Quiet.assign rfl) rfl (G.nil (G.then_n ?_))
    exact G.roundK (i + 1) (by omega) (by omega) ⟨rfl, rfl, rfl, trivial⟩ (by (repeat' constructor)) (by ((repeat (apply Have.cons; (repeat (first | exact Pick.here | apply Pick.there)))); apply Have.base; repeat' constructor))
   ·refine G.kDF (t := 73) rfl h15_74 (G.grun (t := 74) rfl rfl rfl (G.q (Quiet.move rfl) rfl (G.grun (t := 74) rfl rfl rfl (G.q (Quiet.move rfl) rfl (G.grun (t := 74) rfl rfl rfl (G.q (Quiet.slen rfl Tryz.underlying24 rfl) rfl (G.grun (t := 74) rfl rfl rfl ?_)))))))
    refine G.q (Quiet.sub rfl rfl (by omega)) rfl ?_
    refine G.grun (t := 74) rfl rfl rfl (G.q (Quiet.int rfl rfl rfl) rfl (G.q (Quiet.pickF rfl rfl) rfl (G.nil (G.then_n ?_))))
    refine G.condD rfl (fun h80 => ?_) (fun h80 => ?_)
    ·refine G.seq (G.region (G.q (Quiet.move rfl) rfl ?_))
     refine G.op (OpSpec.call Tryz.func20 rfl rfl (vs := [_]) rfl (stands7_spec t (appL newT (es.take (i + 1))) _ hinv1)) (by (repeat' constructor)) rfl ?nx71
     rintro v L' ⟨rfl, rfl⟩
     refine G.q (Quiet.assign rfl) rfl (G.nil (G.then_n (G.seq (G.region (G.q (Quiet.move rfl) rfl (G.q (Quiet.not rfl) rfl (G.nil (G.then_n (G.condF rfl (G.skip (G.blk_n (G.then_n (G.region (G.q (Quiet.move rfl) rfl ?_))))))))))))))
     refine G.q (Quiet.add rfl rfl (by omega)) rfl ?_
     refine G.q (Quiet.assign rfl) rfl (G.nil (G.then_n ?_))
     exact G.roundK (i + 1) (by omega) (by omega) ⟨rfl, rfl, rfl, trivial⟩ (by (repeat' constructor)) (by ((repeat (apply Have.cons; (repeat (first | exact Pick.here | apply Pick.there)))); apply Have.base; repeat' constructor))
    ·refine G.skip (G.blk_n (G.then_n (G.region (G.q (Quiet.move rfl) rfl ?_))))
     refine G.q (Quiet.add rfl rfl (by omega)) rfl ?_
     refine G.q (Quiet.assign rfl) rfl (G.nil (G.then_n ?_))
     exact G.roundK (i + 1) (by omega) (by omega) ⟨rfl, rfl, rfl, trivial⟩ (by (repeat' constructor)) (by ((repeat (apply Have.cons; (repeat (first | exact Pick.here | apply Pick.there)))); apply Have.base; repeat' constructor))
  ·refine G.skip (G.then_n (G.seq (G.region (G.q (Quiet.move rfl) rfl ?_))))
   refine G.q (Quiet.remE rfl rfl (by omega) (by omega)) rfl ?_
   refine G.q (Quiet.int rfl rfl rfl) rfl (G.q (Quiet.move rfl) rfl ?_)
   refine G.dec (t := 74) rfl (fun h15_74 => ?_) (fun h15_74 => ?_)
   ·refine G.kDT (t := 73) rfl h15_74 (G.gskip (t := 74) rfl rfl rfl rfl (G.gskip (t := 74) rfl rfl rfl rfl (G.gskip (t := 74) rfl rfl rfl rfl (G.gskip (t := 74) rfl rfl rfl rfl (G.gskip (t := 74) rfl rfl rfl rfl (G.q (Quiet.pickT rfl rfl) rfl (G.nil (G.then_n (G.condT rfl (G.seq (G.region (G.q (Quiet.move rfl) rfl ?_))))))))))))
    refine G.op (OpSpec.call Tryz.func20 rfl rfl (vs := [_]) rfl (stands7_spec t (appL newT (es.take (i + 1))) _ hinv1)) (by (repeat' constructor)) rfl ?nx83
    rintro v L' ⟨rfl, rfl⟩
    refine G.q (Quiet.assign rfl) rfl (G.nil (G.then_n (G.seq (G.region (G.q (Quiet.move rfl) rfl (G.q (Quiet.not rfl) rfl (G.nil (G.then_n (G.condF rfl (G.skip (G.blk_n (G.then_n (G.region (G.q (Quiet.move rfl) rfl ?_))))))))))))))
    refine G.q (Quiet.add rfl rfl (by omega)) rfl ?_
    refine G.q (Quiet.assign rfl) rfl (G.nil (G.then_n ?_))
    exact G.roundK (i + 1) (by omega) (by omega) ⟨rfl, rfl, rfl, trivial⟩ (by (repeat' constructor)) (by ((repeat (apply Have.cons; (repeat (first | exact Pick.here | apply Pick.there)))); apply Have.base; repeat' constructor))
   ·refine G.kDF (t := 73) rfl h15_74 (G.grun (t := 74) rfl rfl rfl (G.q (Quiet.move rfl) rfl (G.grun (t := 74) rfl rfl rfl (G.q (Quiet.move rfl) rfl (G.grun (t := 74) rfl rfl rfl (G.q (Quiet.slen rfl Tryz.underlying24 rfl) rfl (G.grun (t := 74) rfl rfl rfl ?_)))))))
    refine G.q (Quiet.sub rfl rfl (by omega)) rfl ?_
    refine G.grun (t := 74) rfl rfl rfl (G.q (Quiet.int rfl rfl rfl) rfl (G.q (Quiet.pickF rfl rfl) rfl (G.nil (G.then_n ?_))))
    refine G.condD rfl (fun h80 => ?_) (fun h80 => ?_)
    ·refine G.seq (G.region (G.q (Quiet.move rfl) rfl ?_))
     refine G.op (OpSpec.call Tryz.func20 rfl rfl (vs := [_]) rfl (stands7_spec t (appL newT (es.take (i + 1))) _ hinv1)) (by (repeat' constructor)) rfl ?nx94
     rintro v L' ⟨rfl, rfl⟩
     refine G.q (Quiet.assign rfl) rfl (G.nil (G.then_n (G.seq (G.region (G.q (Quiet.move rfl) rfl (G.q (Quiet.not rfl) rfl (G.nil (G.then_n (G.condF rfl (G.skip (G.blk_n (G.then_n (G.region (G.q (Quiet.move rfl) rfl ?_))))))))))))))
     refine G.q (Quiet.add rfl rfl (by omega)) rfl ?_
     refine G.q (Quiet.assign rfl) rfl (G.nil (G.then_n ?_))
     exact G.roundK (i + 1) (by omega) (by omega) ⟨rfl, rfl, rfl, trivial⟩ (by (repeat' constructor)) (by ((repeat (apply Have.cons; (repeat (first | exact Pick.here | apply Pick.there)))); apply Have.base; repeat' constructor))
    ·refine G.skip (G.blk_n (G.then_n (G.region (G.q (Quiet.move rfl) rfl ?_))))
     refine G.q (Quiet.add rfl rfl (by omega)) rfl ?_
     refine G.q (Quiet.assign rfl) rfl (G.nil (G.then_n ?_))
     exact G.roundK (i + 1) (by omega) (by omega) ⟨rfl, rfl, rfl, trivial⟩ (by (repeat' constructor)) (by ((repeat (apply Have.cons; (repeat (first | exact Pick.here | apply Pick.there)))); apply Have.base; repeat' constructor))
 ·have hii : i = es.length := by omega
  rw [hii, List.take_length, ← hh.tree]
  refine G.exit (G.then_e (G.then_e (G.blk_e (G.then_n (G.seq (G.region (G.q (Quiet.move rfl) rfl ?_)))))))
  refine G.op (OpSpec.call Tryz.func20 rfl rfl (vs := [_]) rfl (stands7_spec t τ _ hinv)) (by (repeat' constructor)) rfl ?nx102
  rintro v L' ⟨rfl, rfl⟩
  refine G.q (Quiet.assign rfl) rfl (G.nil (G.then_n (G.ret ?_)))
  exact G.done (l := [.tmp 2]) rfl rfl ⟨rfl, rfl⟩ (by (repeat' constructor)) (by (repeat' constructor))

end Go.Proofs.YtnnbelmpbmfdnaaGreatDoor

/- Own work: from what a call is given to the atoms of SlCore, and back to what a statement asks. -/

namespace Go.Proofs.YtnnbelmpbmfdnaaGreatDoor
open Go Go.ChangeShapes Go.WideShapes Go.ChangeAt Go.RowKit

section
variable {H : Type} {enc : TypeId × Value → H} {P : Program} {W W' : World}
theorem trodAll_old (hl : laidOutB P = true) (hb : Below W.heap.size W W') (sp : Nat → Bool) : ∀ (ts : List TypeId) (vs : List Value) (ds : List (DataW H)) (p : List MemPlace), (∀ t ∈ ts, P.readableRec t = true ∧ t < P.types.size) →
    DataW.TrodAll enc P W 0 (fun _ => true) true ts vs ds p → (∀ x ∈ p, x.block < W.heap.size) → (∀ x ∈ p, sp x.block = true) → DataW.TrodAll enc P W' 0 sp true ts vs ds p
  | [], vs, ds, p, _, h, _, _ => by
    obtain ⟨rfl, rfl, rfl⟩ := trodAll_nil h
    exact h
  | t :: ts, vs, ds, p, hr, h, hlt, hsp => by
    obtain ⟨v, vs1, d, ds1, a, b, rfl, rfl, rfl, h1, h2⟩ := trodAll_cons h
    have r := hr t (by simp)
    refine ⟨a, b, WideElems.Trod_stays hl r.1 r.2 h1 (fun x hx => hb.same (hlt x (by simp [hx]))) (fun x hx => hsp x (by simp [hx])), ?_, rfl⟩
    exact trodAll_old hl hb sp ts vs1 ds1 b (fun t ht => hr t (by simp [ht])) h2 (fun x hx => hlt x (by simp [hx])) (fun x hx => hsp x (by simp [hx]))
theorem settled {fn : Func} {s : ChangeSpec} {apart fresh handsOn again : Bool} {args : Array Value} {ds gs : List (DataW H)} {before : List MemPlace} {tb : TypeId}
    (hW : DataW.Whole enc P fn.params.toList s.vars apart W args.toList ds gs before) (hvars : s.vars = []) (hspec : ∀ gs', gs' = [] → s.fn H (ds ++ gs') = { results := [.lit (.bool true)], args := ds })
    (hres : fn.resultTypes = #[tb]) (htb : P.underlying tb = some .bool) (hl : laidOutB P = true) (hr : ∀ t ∈ fn.params.toList, P.readableRec t = true ∧ t < P.types.size) (hb : Below W.heap.size W W') :
    s.post enc P fn apart fresh handsOn again W args (.bool true) W' := by
  have hW' := hW
  have hlt := hW.lt
  obtain ⟨p, q, hA, hV, rfl, hfz, hnd⟩ := hW
  rw [hvars] at hV
  obtain ⟨rfl, rfl⟩ := trodVars_none hV
  have hs := hspec [] rfl
  have hargs : ∀ sp : Nat → Bool, (∀ x ∈ p, sp x.block = true) → DataW.TrodAll enc P W' 0 sp true fn.params.toList args.toList ds p := fun sp hsp =>
    trodAll_old hl hb sp _ _ _ _ hr hA (fun x hx => hlt x (by simp [hx])) hsp
  have hbool : ∀ (b : Nat) (sp : Nat → Bool) (hd : Bool), DataW.TrodAll enc P W' b sp hd fn.resultTypes.toList ((Value.bool true).resultList fn.resultTypes.size) [.lit (.bool true)] [] := by
    intro b sp hd
    rw [hres]
    exact trodAll_cons_mk (shut_bool htb _) trodAll_mk0
  refine ⟨ds, [], p ++ [], [], p, [], hW', ?_, ?_, ?_, hb.frame _, fun _ => ⟨ok_one hres rfl (okWide_bool_mk htb _), [.lit (.bool true)] ++ ds, [], p, ⟨p, [], ?_, ?_, by simp, ?_, ?_⟩, ?_⟩⟩
  · rw [hs]; exact hbool _ _ _
  · rw [hs]; exact hargs _ (fun x hx => by simpa using hlt x (by simp [hx]))
  · rw [hs, hvars]; exact hV
  · exact trodAll_append (hargs _ (fun _ _ => rfl)) (hbool _ _ _)
  · rw [hvars]; exact hV
  · intro b off hp
    rw [hb.frozen (p := ⟨b, off, none⟩) (hlt (.cell b off) (by simp [hp]))]
    exact hfz b off (by simp [hp])
  · intro ha
    have := hnd ha
    simpa using this
  · intro x hx _
    simp [hx]
theorem old_calls {f : FuncId} {args : Array Value} (h : Fn P f args [Old W] fun v L => v = .bool true ∧ L = [Old W]) :
    Calls P f args W fun e W' => e = .returned (.bool true) ∧ Below W.heap.size W W' := by
  have h0 : St [Old W] W := ⟨fun b => W.heap[b]?, fun _ => none, fun _ => .inr rfl, fun b o h => h, fun b o h => (by cases h), fun b hb => rfl, trivial⟩
  refine (h [] W h0).mono ?_
  rintro e W' ⟨v, L, ⟨rfl, rfl⟩, rfl, hs, hk⟩
  refine ⟨rfl, hk.os, hk.tape, hk.output, hk.size, fun k hk' => ?_⟩
  obtain ⟨h1, a1, hp⟩ := sep_head hs
  have e1 := hp k hk'
  have : ∃ o, W.heap[k]? = some o := ⟨_, Array.getElem?_eq_getElem hk'⟩
  obtain ⟨o, ho⟩ := this
  rw [ho] at e1 ⊢
  exact a1 _ _ e1
theorem old_rd {a : Addr} {len cap : Nat} {V : Nat → Value} (hc : ∀ i, i < len → W.cell? (a.add i) = some (V i)) (hle : len ≤ cap) : ∀ h : Hp, Old W h → rdS 1 h (.slice (some a) len cap) len ((List.range len).map V) := by
  intro h hold
  rcases Nat.eq_zero_or_pos len with rfl | hpos
  · exact .inl ⟨rfl, rfl, some a, cap, rfl⟩
  · obtain ⟨b, off, spot⟩ := a
    have h0 := hc 0 hpos
    have e0 : (⟨b, off, spot⟩ : Addr).add 0 = ⟨b, off, spot⟩ := by simp [Addr.add]
    rw [e0] at h0
    simp only [World.cell?] at h0
    rcases hw : W.heap[b]? with _ | o
    · rw [hw] at h0; cases h0
    · cases o with
      | cells c T fr =>
        rw [hw] at h0
        dsimp only at h0
        split at h0
        · cases h0
        · rename_i hsp
          have hspot : spot = none := by simpa using hsp
          subst hspot
          have hc' : ∀ i, i < len → c[off + i]? = some (V i) := by
            intro i hi
            have := hc i hi
            have e1 : (⟨b, off, none⟩ : Addr).add i = ⟨b, off + i, none⟩ := by
              simp only [Addr.add]; split
              · rename_i h0; simp [h0]
              · rfl
            rw [e1] at this
            simp only [World.cell?, hw] at this
            simpa using this
          have hlt : b < W.heap.size := by
            rcases Nat.lt_or_ge b W.heap.size with h' | h'
            · exact h'
            · rw [Array.getElem?_eq_none h'] at hw; cases hw
          have hlen : off + len ≤ c.size := by
            have := hc' (len - 1) (by omega)
            rcases Nat.lt_or_ge (off + (len - 1)) c.size with h' | h'
            · omega
            · rw [Array.getElem?_eq_none h'] at this; cases this
          refine .inr ⟨b, off, cap, c.toList, T, fr, rfl, by rw [hold b hlt, hw], ?_, by simpa using hlen, hle⟩
          apply List.ext_getElem?
          intro i
          rw [Nat.mul_one, List.getElem?_take, List.getElem?_map, List.getElem?_drop]
          split
          · rename_i hi
            rw [List.getElem?_range hi]
            simpa using hc' i hi
          · rename_i hi
            rw [List.getElem?_eq_none (by simpa using hi)]; rfl
      | _ => rw [hw] at h0; cases h0
end
end Go.Proofs.YtnnbelmpbmfdnaaGreatDoor

/- Own work: strings and rows of strings as arguments. -/
namespace Go.Proofs.YtnnbelmpbmfdnaaGreatDoor
open Go Go.ChangeShapes Go.WideShapes Go.ChangeAt Go.RowKit

section
variable {H : Type} {enc : TypeId × Value → H} {P : Program} {W : World}
theorem string_vstr (s : ByteArray) : Value.string s = vstr s.data.toList := by cases s; rfl
end
end Go.Proofs.YtnnbelmpbmfdnaaGreatDoor

/- Own work: nested arguments decoded: slices of structs, and what the row says of their weight. -/

namespace Go.Proofs.YtnnbelmpbmfdnaaGreatDoor
open Go Go.ChangeShapes Go.WideShapes Go.ChangeAt Go.RowKit

section
variable {H : Type} {enc : TypeId × Value → H} {P : Program} {W : World}
/-- No slice and no string in this datum weighs more than the row's reach. -/
def Light (P : Program) (t : TypeId) (d : DataW H) : Prop := ∀ n ∈ d.weights P t, n ≤ reachBytes
theorem flat_at {α : Type} {sz : Nat} (f : Nat → List α) : ∀ n, (∀ i, i < n → (f i).length = sz) → ∀ j, j < n * sz → ((List.range n).flatMap f)[j]? = (f (j / sz))[j % sz]? ∧ ((List.range n).flatMap f).length = n * sz := by
  intro n
  induction n with
  | zero => intro _ j hj; omega
  | succ n ih =>
    intro hf j hj
    have hn := hf n (by omega)
    have hlen : ((List.range n).flatMap f).length = n * sz := by
      rcases Nat.eq_zero_or_pos (n * sz) with h0 | h0
      · rcases Nat.eq_zero_or_pos n with h1 | h1
        · subst h1; simp
        · have : sz = 0 := by
            rcases Nat.eq_zero_or_pos sz with h2 | h2
            · exact h2
            · have := Nat.mul_pos h1 h2; omega
          subst this; omega
      · exact (ih (fun i hi => hf i (by omega)) 0 h0).2
    have e : (List.range (n + 1)).flatMap f = (List.range n).flatMap f ++ f n := by simp [List.range_succ]
    have hm : (n + 1) * sz = n * sz + sz := by rw [Nat.add_mul, Nat.one_mul]
    rw [e]
    refine ⟨?_, by rw [List.length_append, hlen, hn, hm]⟩
    rcases Nat.lt_or_ge j (n * sz) with h | h
    · rw [List.getElem?_append_left (by omega)]
      exact (ih (fun i hi => hf i (by omega)) j h).1
    · rw [List.getElem?_append_right (by omega), hlen]
      have hs : 0 < sz := by omega
      have h1 : j / sz = n := by
        have : j < (n + 1) * sz := hj
        have a := Nat.div_lt_of_lt_mul (show j < sz * (n + 1) by rw [Nat.mul_comm]; exact this)
        have b := (Nat.le_div_iff_mul_le hs).2 h
        omega
      have h2 : j % sz = j - n * sz := by
        have := Nat.div_add_mod j sz
        rw [h1, Nat.mul_comm] at this; omega
      rw [h1, h2]
theorem rdS_regroup {sz n c c1 : Nat} {a : Option Addr} {ys : List Value} {h : Hp} (hr : rdS 1 h (.slice a (n * sz) c1) (n * sz) ys) (hc : n ≤ c) (hs : 0 < sz) : rdS sz h (.slice a n c) n ys := by
  rcases hr with ⟨h1, h2, -⟩ | ⟨b, off, cap, l, T, fr, hv, hb, h1, h2, h3⟩
  · have : n = 0 := by
      rcases Nat.eq_zero_or_pos n with h0 | h0
      · exact h0
      · have := Nat.mul_pos h0 hs; omega
    subst this
    exact .inl ⟨rfl, h2, a, c, rfl⟩
  · simp only [Value.slice.injEq] at hv
    obtain ⟨rfl, -, -⟩ := hv
    exact .inr ⟨b, off, c, l, T, fr, rfl, hb, by rw [← h1, Nat.mul_one], by rw [Nat.mul_one] at h2; exact h2, hc⟩
abbrev Reads (enc : TypeId × Value → H) (P : Program) (W : World) (fuel : Nat) (t : TypeId) (cs : List Value) (x : DataW H × List MemPlace) : Prop := DataW.trod enc P W 0 (fun _ => true) true fuel t cs = some x
theorem dec_int {t : TypeId} {fuel : Nat} {cs : List Value} {x : DataW H × List MemPlace} (ht : P.underlying t = some (.int .i64)) (h : Reads enc P W fuel t cs x) : ∃ n : Int, cs = [vint n] ∧ -9223372036854775808 ≤ n ∧ n ≤ 9223372036854775807 := by
  obtain ⟨n, rfl, -, hwf⟩ := DataW.trod_int ht h
  exact ⟨n, rfl, bounds_i64 hwf⟩
end
end Go.Proofs.YtnnbelmpbmfdnaaGreatDoor

/- Own work: arguments of a bounded bulk (the second form's bound), decoded. -/
namespace Go.Proofs.YtnnbelmpbmfdnaaGreatDoor
open Go Go.ChangeShapes Go.WideShapes Go.ChangeAt Go.RowKit

theorem bulk_pos {H : Type} (d : DataW H) : 1 ≤ Rows.uptoBulk d := by
  cases d with
  | lit l => cases l <;> simp [Rows.uptoBulk]
  | _ => simp [Rows.uptoBulk]
theorem bulk_part {H : Type} {d : DataW H} : ∀ {l : List (DataW H)}, d ∈ l → Rows.uptoBulk d ≤ Rows.uptoBulkAll l
  | x :: l, h => by
    unfold Rows.uptoBulkAll
    rcases List.mem_cons.1 h with rfl | h
    · omega
    · have := bulk_part h; omega
theorem bulk_count {H : Type} : ∀ l : List (DataW H), l.length ≤ Rows.uptoBulkAll l
  | [] => by simp
  | x :: l => by
    have h1 := bulk_pos x
    have h2 := bulk_count l
    unfold Rows.uptoBulkAll
    rw [List.length_cons]; omega
theorem bulk_agg {H : Type} {d : DataW H} {l : List (DataW H)} {N : Nat} (h : Rows.uptoBulk (.agg l) ≤ N) (hd : d ∈ l) : Rows.uptoBulk d ≤ N := by
  have := bulk_part hd
  simp only [Rows.uptoBulk] at h
  omega
theorem bulk_small {H : Type} {l : List (DataW H)} (h : Rows.uptoSmall H l = true) {d : DataW H} (hd : d ∈ l) : Rows.uptoBulk d ≤ 1048576 :=
  Nat.le_trans (bulk_part hd) (of_decide_eq_true h)
instance : Inhabited Value := ⟨.bool false⟩
section
variable {H : Type} {enc : TypeId × Value → H} {P : Program} {W : World} {N : Nat}
theorem dec_str {t : TypeId} {fuel : Nat} {cs : List Value} {x : DataW H × List MemPlace} (ht : P.underlying t = some .string) (h : Reads enc P W fuel t cs x) (hb : Rows.uptoBulk x.1 ≤ N) : ∃ s : List UInt8, cs = [vstr s] ∧ s.length ≤ N := by
  obtain ⟨s, rfl, rfl, -⟩ := DataW.trod_string ht h
  simp only [Rows.uptoBulk] at hb
  exact ⟨s.data.toList, by rw [string_vstr], by omega⟩
theorem dec_int' {t : TypeId} {fuel : Nat} {cs : List Value} {x : DataW H × List MemPlace} (ht : P.underlying t = some (.int .i64)) (h : Reads enc P W fuel t cs x) : ∃ n : Int, cs = [vint n] ∧ (-9223372036854775808 ≤ n ∧ n ≤ 9223372036854775807) := by
  obtain ⟨n, h1, h2⟩ := dec_int ht h; exact ⟨n, h1, h2⟩
theorem slice_cell {t e : TypeId} {fuel : Nat} {v : Value} {x : DataW H × List MemPlace} (ht : P.underlying t = some (.slice e)) (h : Reads enc P W fuel t [v] x) : isCell v = true := by
  rcases Go.Deep.open_slice ht h with ⟨hv, -⟩ | ⟨a, len, cap, m, n, Dd, Pl, hv, -⟩
  · rw [List.cons.injEq] at hv; rw [hv.1]; rfl
  · rw [List.cons.injEq] at hv; rw [hv.1]; rfl
/-- A slice, each of whose elements is decoded. -/
theorem dec_sliceU {Z : Type} [Inhabited Z] (toC : Z → List Value) (Q : Z → Prop) {t e : TypeId} {sz : Nat} {fuel : Nat} {cs : List Value} {x : DataW H × List MemPlace} (ht : P.underlying t = some (.slice e)) (hc : P.cellsOf e = sz) (hs : 0 < sz)
    (hdec : ∀ (n : Nat) (cs : List Value) (y : DataW H × List MemPlace), Reads enc P W n e cs y → Rows.uptoBulk y.1 ≤ N → ∃ z, cs = toC z ∧ Q z) (h : Reads enc P W fuel t cs x) (hb : Rows.uptoBulk x.1 ≤ N) :
    ∃ z : Value × List Z, cs = [z.1] ∧ (∀ h : Hp, Old W h → rdS sz h z.1 z.2.length (z.2.flatMap toC)) ∧ z.2.length ≤ N ∧ ∀ y ∈ z.2, Q y := by
  subst hc
  rcases Go.Deep.open_slice ht h with ⟨rfl, rfl⟩ | ⟨a, len, cap, m, n, Dd, Pl, rfl, -, hl, hm, hmm, rfl, hx⟩
  · exact ⟨(_, []), rfl, fun h _ => .inl ⟨rfl, rfl, none, 0, rfl⟩, by simp, by simp⟩
  · simp only [if_true] at hmm
    subst hmm
    have hbl : len ≤ N := by
      have := bulk_count ((List.range len).map Dd)
      simp only [Rows.uptoBulk] at hb
      rw [List.length_map, List.length_range] at this
      omega
    have hbe : ∀ i, i < len → Rows.uptoBulk (Dd i) ≤ N := fun i hi => by
      have := bulk_part (d := Dd i) (l := (List.range len).map Dd) (List.mem_map_of_mem (by simpa using hi))
      simp only [Rows.uptoBulk] at hb
      omega
    obtain ⟨Zf, hZ⟩ := Go.Deep.choose_lt (α := Z) (p := fun i z => W.cells? 0 (a.add (i * P.cellsOf e)) (P.cellsOf e) = some (toC z) ∧ Q z) (n := len) (fun i hi => by
      obtain ⟨cs', h1, h2⟩ := hx i (by omega)
      obtain ⟨z, rfl, h3⟩ := hdec _ _ _ h2 (hbe i hi)
      exact ⟨z, h1, h3⟩)
    have hlenf : ∀ i, i < len → (toC (Zf i)).length = P.cellsOf e := fun i hi => (World.cells?_some (hZ i hi).1).2.1
    have hflat := flat_at (fun i => toC (Zf i)) len hlenf
    refine ⟨(_, (List.range len).map Zf), rfl, ?_, ?_, ?_⟩
    · intro h hold
      dsimp only
      rw [List.length_map, List.length_range]
      refine rdS_regroup (c1 := len * P.cellsOf e) ?_ hl hs
      have e1 : ((List.range len).map Zf).flatMap toC = (List.range (len * P.cellsOf e)).map (fun j => ((List.range len).flatMap fun i => toC (Zf i)).getD j (.bool false)) := by
        rw [List.flatMap_map]
        apply List.ext_getElem?
        intro j
        rcases Nat.lt_or_ge j (len * P.cellsOf e) with hj | hj
        · rw [List.getElem?_map, List.getElem?_range hj]
          have := (hflat j hj).2
          have hjl : j < ((List.range len).flatMap fun i => toC (Zf i)).length := by omega
          simp only [Option.map_some, List.getD_eq_getElem?_getD, List.getElem?_eq_getElem hjl, Option.getD_some]
        · have : ((List.range len).flatMap fun i => toC (Zf i)).length = len * P.cellsOf e := by
            rcases Nat.eq_zero_or_pos (len * P.cellsOf e) with h0 | h0
            · have : len = 0 := by
                rcases Nat.eq_zero_or_pos len with h1 | h1
                · exact h1
                · have := Nat.mul_pos h1 hs; omega
              subst this; simp
            · exact (hflat 0 h0).2
          rw [List.getElem?_eq_none (by omega), List.getElem?_eq_none (by simpa using hj)]
      rw [e1]
      refine old_rd (W := W) (fun j hj => ?_) (Nat.le_refl _) h hold
      have hi : j / P.cellsOf e < len := Nat.div_lt_of_lt_mul (by rw [Nat.mul_comm]; exact hj)
      have hcell := (World.cells?_some (hZ (j / P.cellsOf e) hi).1).2.2 (j % P.cellsOf e) (Nat.mod_lt _ hs)
      rw [Addr.add_add, Nat.mul_comm, Nat.div_add_mod] at hcell
      rw [hcell]
      obtain ⟨f1, f2⟩ := hflat j hj
      rw [List.getD_eq_getElem?_getD, f1]
      have : j % P.cellsOf e < (toC (Zf (j / P.cellsOf e))).length := by rw [hlenf _ hi]; exact Nat.mod_lt _ hs
      simp [this]
    · dsimp only; rw [List.length_map, List.length_range]; exact hbl
    · intro z hz
      obtain ⟨i, hi, rfl⟩ := List.mem_map.1 hz
      exact (hZ i (by simpa using hi)).2
end
end Go.Proofs.YtnnbelmpbmfdnaaGreatDoor

/- Own work, by program: what the arguments are. -/
namespace Go.Proofs.YtnnbelmpbmfdnaaGreatDoor
open Go Go.ChangeShapes Go.WideShapes Go.ChangeAt Go.RowKit
theorem cells_3 : Tryz.prog.cellsOf 3 = 1 := by kernel_rfl
theorem cells_9 : Tryz.prog.cellsOf 9 = 1 := by kernel_rfl
theorem cells_22 : Tryz.prog.cellsOf 22 = 1 := by kernel_rfl
theorem cells_94 : Tryz.prog.cellsOf 94 = 5 := by kernel_rfl
def okAct (N : Nat) (_p : HP) (z : Ac0) : Prop := (-9223372036854775808 ≤ z.1 ∧ z.1 ≤ 9223372036854775807) ∧ (-9223372036854775808 ≤ z.2.1 ∧ z.2.1 ≤ 9223372036854775807) ∧ (-9223372036854775808 ≤ z.2.2.1 ∧ z.2.2.1 ≤ 9223372036854775807) ∧ z.2.2.2.1.length ≤ N ∧ isCell z.2.2.2.2 = true
set_option maxRecDepth 100000 in
theorem dec_Act {H : Type} {enc : TypeId × Value → H} {W : World} {N : Nat} (n : Nat) (cs : List Value) (y : DataW H × List MemPlace) (h : Reads enc Tryz.prog W n 94 cs y) (hb : Rows.uptoBulk y.1 ≤ N) : ∃ z : Ac0, cs = ac0C z ∧ okAct N (Old W) z := by
  obtain ⟨xs, m, -, rfl, hlen, hxs, hf⟩ := DataW.trod_struct Tryz.underlying94 h
  rw [cells_94] at hlen
  obtain ⟨a0, a1, a2, a3, a4, rfl⟩ : ∃ a0 a1 a2 a3 a4, cs = [a0, a1, a2, a3, a4] := by
    match cs, hlen with
    | [a0, a1, a2, a3, a4], _ => exact ⟨a0, a1, a2, a3, a4, rfl⟩
  obtain ⟨y0, y1, y2, y3, y4, rfl⟩ : ∃ y0 y1 y2 y3 y4, xs = [y0, y1, y2, y3, y4] := by
    match xs, hxs with
    | [y0, y1, y2, y3, y4], _ => exact ⟨y0, y1, y2, y3, y4, rfl⟩
  have f0 := hf 0 _ rfl
  have g0 : Reads enc Tryz.prog W m 3 (([a0, a1, a2, a3, a4] : List Value).drop 0 |>.take (Tryz.prog.cellsOf 3)) y0 := f0
  rw [cells_3] at g0
  have b0 : Rows.uptoBulk y0.1 ≤ N := bulk_agg hb (by simp)
  obtain ⟨z0, e0, q0⟩ := dec_int' Tryz.underlying3 g0
  simp at e0
  have f1 := hf 1 _ rfl
  have g1 : Reads enc Tryz.prog W m 3 (([a0, a1, a2, a3, a4] : List Value).drop 1 |>.take (Tryz.prog.cellsOf 3)) y1 := f1
  rw [cells_3] at g1
  have b1 : Rows.uptoBulk y1.1 ≤ N := bulk_agg hb (by simp)
  obtain ⟨z1, e1, q1⟩ := dec_int' Tryz.underlying3 g1
  simp at e1
  have f2 := hf 2 _ rfl
  have g2 : Reads enc Tryz.prog W m 3 (([a0, a1, a2, a3, a4] : List Value).drop 2 |>.take (Tryz.prog.cellsOf 3)) y2 := f2
  rw [cells_3] at g2
  have b2 : Rows.uptoBulk y2.1 ≤ N := bulk_agg hb (by simp)
  obtain ⟨z2, e2, q2⟩ := dec_int' Tryz.underlying3 g2
  simp at e2
  have f3 := hf 3 _ rfl
  have g3 : Reads enc Tryz.prog W m 9 (([a0, a1, a2, a3, a4] : List Value).drop 3 |>.take (Tryz.prog.cellsOf 9)) y3 := f3
  rw [cells_9] at g3
  have b3 : Rows.uptoBulk y3.1 ≤ N := bulk_agg hb (by simp)
  obtain ⟨z3, e3, q3⟩ := dec_str Tryz.underlying9 g3 b3
  simp at e3
  have f4 := hf 4 _ rfl
  have g4 : Reads enc Tryz.prog W m 22 (([a0, a1, a2, a3, a4] : List Value).drop 4 |>.take (Tryz.prog.cellsOf 22)) y4 := f4
  rw [cells_22] at g4
  obtain ⟨z4, e4, q4⟩ : ∃ z : Value, a4 = z ∧ isCell z = true := ⟨_, rfl, slice_cell Tryz.underlying22 g4⟩
  subst e0
  subst e1
  subst e2
  subst e3
  replace e4 := e4.symm
  subst e4
  exact ⟨(z0, z1, z2, z3, z4), rfl, q0, q1, q2, q3, q4⟩
def okAct1 (N : Nat) (_p : HP) (z : Ac0) : Prop := (-9223372036854775808 ≤ z.1 ∧ z.1 ≤ 9223372036854775807) ∧ (-9223372036854775808 ≤ z.2.1 ∧ z.2.1 ≤ 9223372036854775807) ∧ (-9223372036854775808 ≤ z.2.2.1 ∧ z.2.2.1 ≤ 9223372036854775807) ∧ z.2.2.2.1.length ≤ N ∧ (∃ l : List Ac0, (∀ h : Hp, _p h → rdS 5 h z.2.2.2.2 l.length (l.flatMap (ac0C))) ∧ l.length ≤ N ∧ ∀ y ∈ l, okAct N _p y)
set_option maxRecDepth 100000 in
theorem dec_Act1 {H : Type} {enc : TypeId × Value → H} {W : World} {N : Nat} (n : Nat) (cs : List Value) (y : DataW H × List MemPlace) (h : Reads enc Tryz.prog W n 94 cs y) (hb : Rows.uptoBulk y.1 ≤ N) : ∃ z : Ac0, cs = ac0C z ∧ okAct1 N (Old W) z := by
  obtain ⟨xs, m, -, rfl, hlen, hxs, hf⟩ := DataW.trod_struct Tryz.underlying94 h
  rw [cells_94] at hlen
  obtain ⟨a0, a1, a2, a3, a4, rfl⟩ : ∃ a0 a1 a2 a3 a4, cs = [a0, a1, a2, a3, a4] := by
    match cs, hlen with
    | [a0, a1, a2, a3, a4], _ => exact ⟨a0, a1, a2, a3, a4, rfl⟩
  obtain ⟨y0, y1, y2, y3, y4, rfl⟩ : ∃ y0 y1 y2 y3 y4, xs = [y0, y1, y2, y3, y4] := by
    match xs, hxs with
    | [y0, y1, y2, y3, y4], _ => exact ⟨y0, y1, y2, y3, y4, rfl⟩
  have f0 := hf 0 _ rfl
  have g0 : Reads enc Tryz.prog W m 3 (([a0, a1, a2, a3, a4] : List Value).drop 0 |>.take (Tryz.prog.cellsOf 3)) y0 := f0
  rw [cells_3] at g0
  have b0 : Rows.uptoBulk y0.1 ≤ N := bulk_agg hb (by simp)
  obtain ⟨z0, e0, q0⟩ := dec_int' Tryz.underlying3 g0
  simp at e0
  have f1 := hf 1 _ rfl
  have g1 : Reads enc Tryz.prog W m 3 (([a0, a1, a2, a3, a4] : List Value).drop 1 |>.take (Tryz.prog.cellsOf 3)) y1 := f1
  rw [cells_3] at g1
  have b1 : Rows.uptoBulk y1.1 ≤ N := bulk_agg hb (by simp)
  obtain ⟨z1, e1, q1⟩ := dec_int' Tryz.underlying3 g1
  simp at e1
  have f2 := hf 2 _ rfl
  have g2 : Reads enc Tryz.prog W m 3 (([a0, a1, a2, a3, a4] : List Value).drop 2 |>.take (Tryz.prog.cellsOf 3)) y2 := f2
  rw [cells_3] at g2
  have b2 : Rows.uptoBulk y2.1 ≤ N := bulk_agg hb (by simp)
  obtain ⟨z2, e2, q2⟩ := dec_int' Tryz.underlying3 g2
  simp at e2
  have f3 := hf 3 _ rfl
  have g3 : Reads enc Tryz.prog W m 9 (([a0, a1, a2, a3, a4] : List Value).drop 3 |>.take (Tryz.prog.cellsOf 9)) y3 := f3
  rw [cells_9] at g3
  have b3 : Rows.uptoBulk y3.1 ≤ N := bulk_agg hb (by simp)
  obtain ⟨z3, e3, q3⟩ := dec_str Tryz.underlying9 g3 b3
  simp at e3
  have f4 := hf 4 _ rfl
  have g4 : Reads enc Tryz.prog W m 22 (([a0, a1, a2, a3, a4] : List Value).drop 4 |>.take (Tryz.prog.cellsOf 22)) y4 := f4
  rw [cells_22] at g4
  have b4 : Rows.uptoBulk y4.1 ≤ N := bulk_agg hb (by simp)
  obtain ⟨w4, e4, q4⟩ := dec_sliceU (N := N) (ac0C) (fun y => okAct N (Old W) y) Tryz.underlying22 cells_94 (by decide) (fun n cs y h hb => dec_Act n cs y h hb) g4 b4
  simp at e4
  obtain ⟨z4, l4⟩ := w4
  dsimp only at e4 q4
  subst e0
  subst e1
  subst e2
  subst e3
  replace e4 := e4.symm
  subst e4
  exact ⟨(z0, z1, z2, z3, z4), rfl, q0, q1, q2, q3, ⟨l4, q4⟩⟩
theorem acts1_of {p : HP} {v : Value} {xs : List Ac0} (q : (∀ h : Hp, p h → rdS 5 h v xs.length (xs.flatMap ac0C)) ∧ xs.length ≤ 1048576 ∧ ∀ y ∈ xs, okAct1 1048576 p y) : Acts1 p v xs := by
  obtain ⟨q1, q2, q3⟩ := q
  refine ⟨⟨q1, q2, fun a ha => ?_⟩, fun a ha => ?_⟩
  · obtain ⟨h1, h2, h3, h4, -⟩ := q3 a ha
    exact ⟨h1, h2, h3, h4⟩
  · obtain ⟨-, -, -, -, l, g1, g2, g3⟩ := q3 a ha
    refine ⟨l, ⟨g1, g2, fun s hs => ?_⟩, fun s hs => (g3 s hs).2.2.2.2⟩
    obtain ⟨h1, h2, h3, h4, -⟩ := g3 s hs
    exact ⟨h1, h2, h3, h4⟩
end Go.Proofs.YtnnbelmpbmfdnaaGreatDoor

/- Own work: treeKeeps: the walk, brought to the given second form and its card. -/

namespace Go.Proofs.YtnnbelmpbmfdnaaGreatDoor.treeKeeps
open Go Go.ChangeShapes Go.WideShapes Go.ChangeAt Go.RowKit
theorem own : ownKnob Tryz.prog.godebug = none := by kernel_rfl
theorem laid : laidOutB Tryz.prog = true := by kernel_rfl
theorem readable : ∀ t ∈ Tryz.f4.params.toList, Tryz.prog.readableRec t = true ∧ t < Tryz.prog.types.size := by
  have h : (Tryz.f4.params.toList.all fun t => Tryz.prog.readableRec t && decide (t < Tryz.prog.types.size)) = true := by kernel_rfl
  intro t ht
  simpa using List.all_eq_true.1 h t ht
set_option maxRecDepth 100000 in
theorem contract (H : Type) (enc : TypeId × Value → H) (W : World) (base : Nat) (args : Array Value) (ds gs : List (DataW H)) (before : List MemPlace)
    (hval : ∀ (j : Nat) t v, Tryz.f4.params[j]? = some t → args[j]? = some v → Value.okWide Tryz.prog W .any base t v)
    (hW : DataW.Whole enc Tryz.prog Tryz.f4.params.toList Rows.treeKeepsSpec.vars false W args.toList ds gs before) (hk : Rows.uptoSmall H (ds ++ gs) = true) :
    Calls Tryz.prog 4 args W fun e W' => ∃ v, e = .returned v ∧ Rows.treeKeepsSpec.post enc Tryz.prog Tryz.f4 false true false false W args v W' := by
  have hW' := hW
  obtain ⟨p, q, hA, hV, rfl, hfz, hnd⟩ := hW
  obtain ⟨rfl, -⟩ := trodVars_none hV
  rw [List.append_nil] at hk
  have hpar : Tryz.f4.params = #[22] := Tryz.params4
  rw [hpar] at hval
  have hA' := hA
  rw [hpar] at hA'
  obtain ⟨v0, vs0, d0, ds0, p0, r0, ha0, rfl, rfl, h0, t0⟩ := trodAll_cons hA'
  obtain ⟨hv, rfl, rfl⟩ := trodAll_nil t0
  obtain rfl : args = #[v0] := by
    have e : args.toList = [v0] := by rw [ha0, hv]
    cases args; simp_all
  have b0 := bulk_small hk (d := d0) (by simp)
  obtain ⟨ad0, nn0, cp0, rfl⟩ := okWide_slice Tryz.underlying22 (hval 0 _ _ rfl rfl)
  obtain ⟨fu0, g0⟩ := h0
  obtain ⟨z0, e0, q0⟩ := dec_sliceU (N := 1048576) (ac0C) (fun y => okAct1 1048576 (Old W) y) Tryz.underlying22 cells_94 (by decide) (fun n cs y h hb => dec_Act1 n cs y h hb) g0 b0
  simp [Value.cells] at e0
  obtain ⟨v0, xs0⟩ := z0
  dsimp only at e0 q0
  subst e0
  refine (old_calls (tkeeps7_spec _ xs0 (Old W) (acts1_of q0))).mono fun e W' ⟨he, hb⟩ => ⟨_, he, ?_⟩
  exact settled hW' rfl (fun gs' h => by subst h; rfl) rfl Tryz.underlying4 laid readable hb
/-- A world for the witness: the two tables that the row lists, as they are laid. -/
def cellsTo (l : List Value) : Obj → Obj
  | .cells _ t frozen => .cells l.toArray t frozen
  | o => o
noncomputable def laidWorld (os : Os) : World :=
  let w := World.holding Tryz.prog os ⟨#[], #[], []⟩
  { w with heap := (w.heap.modify 1 (cellsTo (Pinned.utf8FirstZ.map fun (n : Nat) => Value.int .u8 n))).modify 2 (cellsTo [.int .u8 128, .int .u8 191, .int .u8 160, .int .u8 191, .int .u8 128, .int .u8 159, .int .u8 144, .int .u8 191, .int .u8 128, .int .u8 143, .int .u8 0, .int .u8 0, .int .u8 0, .int .u8 0, .int .u8 0, .int .u8 0, .int .u8 0, .int .u8 0, .int .u8 0, .int .u8 0, .int .u8 0, .int .u8 0, .int .u8 0, .int .u8 0, .int .u8 0, .int .u8 0, .int .u8 0, .int .u8 0, .int .u8 0, .int .u8 0, .int .u8 0, .int .u8 0]) }
theorem laid_met (os : Os) : laidMet Tryz.prog Rows.treeKeepsUptoRow.laid ((laidWorld os).forCall (fun _ _ => 0) ⟨#[], #[.slice none 0 0], []⟩).memory :=
  laidMet_of_run' 8 (by kernel_rfl) (by kernel_rfl)
theorem reads (os : Os) {H : Type} (enc : TypeId × Value → H) : ∃ places, DataW.whole enc Tryz.prog ((laidWorld os).forCall (fun _ _ => 0) ⟨#[], #[.slice none 0 0], []⟩).memory Tryz.f4.params.toList Rows.treeKeepsSpec.vars false (#[.slice none 0 0] : Array Value).toList 8 = some ([.nil], [], places) :=
  ⟨[], by kernel_rfl⟩
set_option maxRecDepth 100000 in
theorem lifted (os : Os) (started : os.Started) (H : Type) (enc : TypeId × Value → H) (F : Stop.Interp) :
    ReturnsInHanded {} Tryz.checked os 4 .any ((Rows.OpenSpec.upto Rows.treeKeepsSpec).preRow enc Tryz.prog Tryz.f4 Rows.treeKeepsUptoRow.domain false Rows.treeKeepsUptoRow.laid) (((Rows.OpenSpec.upto Rows.treeKeepsSpec).at F).post enc Tryz.prog Tryz.f4 false true false false) := by
  obtain ⟨places, hx⟩ := reads os enc
  refine returnsInHanded_of_row (C := Tryz.checked) (s := Rows.OpenSpec.upto Rows.treeKeepsSpec) own started (by kernel_rfl) Tryz.func4
    (witness_row_at (enc := enc) (C := Tryz.checked) false (laidWorld os) #[.slice none 0 0] rfl (by kernel_rfl) (by kernel_rfl) (by kernel_rfl)
      (OpenSpec.preRow_of_cond 8 hx (by kernel_rfl) (fun k hk => by cases hk; kernel_rfl) (by kernel_rfl) (laid_met os))) ?_
  intro W base args ds gs before hval hW _ hcond _ _ _ _
  exact contract H enc W base args ds gs before hval hW (hcond _ rfl)
theorem saidUpto : Rows.TreeKeepsUptoSaid :=
  OpenClaim.holds_of_cond 4 Tryz.f4 rfl rfl rfl rfl rfl rfl rfl ⟨rfl, rfl, rfl, rfl, rfl⟩ rfl rfl rfl rfl rfl (by kernel_rfl) Tryz.func4 (by kernel_rfl)
    (of_decide_eq_true (by kernel_rfl)) (by unfold Func.isWrapper; first | (rw [if_pos (by decide +kernel)]; kernel_rfl) | (rw [if_neg (by decide +kernel)]; exact ⟨rfl, rfl⟩))
    (fun os started H enc _ F => by rw [OpenClaim.pre_eq_preRow]; exact lifted os started H enc F)
theorem plain (f : FuncId) (fn : Func) (hf : Tryz.pinned.checked.prog.funcNamed "arboretum/arboretumlaw07.TreeKeeps" = some f) (hfn : Tryz.pinned.checked.prog.funcs[f]? = some fn) :
    true = Tryz.pinned.checked.prog.looks [] ∧ ∀ (j : Nat) t, fn.params[j]? = some t → Tryz.pinned.checked.prog.wantsStandIn t = false := by
  obtain rfl : f = 4 := Option.some.inj ((show Tryz.prog.funcNamed "arboretum/arboretumlaw07.TreeKeeps" = some 4 by kernel_rfl).symm.trans hf) |>.symm
  obtain rfl : fn = Tryz.f4 := (Option.some.inj (Tryz.func4.symm.trans hfn)).symm
  refine ⟨by kernel_rfl, fun j t ht => ?_⟩
  have h : (Tryz.f4.params.toList.all fun t => !Tryz.pinned.checked.prog.wantsStandIn t) = true := by kernel_rfl
  have h2 := List.all_eq_true.1 h t (Array.mem_def.1 (Array.mem_of_getElem? ht))
  simpa using h2
theorem proved : Rows.TreeKeepsUptoCardSaid :=
  Claim7.holds_tied_plain_at .later [] _ _ _ _ saidUpto (fun _ h => by cases h) (by kernel_rfl) (fun _ h => by cases h) treeKeepsUpto_row_tie rfl ⟨rfl, rfl⟩ (by kernel_rfl) rfl plain (by kernel_rfl)
end Go.Proofs.YtnnbelmpbmfdnaaGreatDoor.treeKeeps

