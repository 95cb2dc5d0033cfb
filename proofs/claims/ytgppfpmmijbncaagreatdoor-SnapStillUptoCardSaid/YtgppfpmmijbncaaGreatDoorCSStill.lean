/- Own work: snapStill.proved: the given second form, from the walk in the other texts, for arguments of bounded bulk. -/
import Derived.Test.YtgppfpmmijbncaaGreatDoorCSStillP3
import Derived.Test.YtgppfpmmijbncaaGreatDoorCSStillP2
import Derived.Test.YtgppfpmmijbncaaGreatDoorCSStillP0
import Derived.Test.YtgppfpmmijbncaaGreatDoorRows
import Derived.WalkKit
import Derived.ProofKit
import Derived.OpenShut
import Derived.JoinedCond
import Derived.Carry
import Derived.Deep.Grids
import Derived.Handed
import Derived.Deep.Strs
import Derived.Test.YtgppfpmmijbncaaGreatDoorCards
import Derived.Test.YtgppfpmmijbncaaGreatDoorTie
import Derived.Deep.DeepHandedRow
import Derived.Lib.LaidTab
set_option maxRecDepth 100000
namespace Go.Proofs.YtgppfpmmijbncaaGreatDoor
open Go
def applyZ0 (τ : Tr) (zx : Int) (x : Pt) (subs : List Pt) : Tr × (List Ev × Int) :=
 if x.kind = 5 then (if 0 < x.own then openS τ x.own x.num x.data else τ, ([], 0))
 else if x.kind = 6 then (dropS (partsZ τ zx (subs.filter isDel)).1 x.own, ((partsZ τ zx (subs.filter isDel)).2, 0))
 else if x.kind = 7 then ((partsZ τ zx subs).1, ((partsZ τ zx subs).2, 0))
 else if x.kind = 8 then (τ, ([], x.err))
 else ((partZ τ x zx).1, ((partZ τ x zx).2, 0))
theorem part_zx (τ : Tr) (x : Pt) (zx z : Int) : partZ (zxT τ z) x zx = (zxT (partZ τ x zx).1 z, (partZ τ x zx).2) := by
 unfold partZ createZ eraseZ
 have h : ∀ p, thereT (zxT τ z) p ↔ thereT τ p := fun p => Iff.rfl
 simp only [h]
 repeat' split
 all_goals first | rfl | contradiction
theorem parts_zx (τ : Tr) (zx z : Int) (l : List Pt) : partsZ (zxT τ z) zx l = (zxT (partsZ τ zx l).1 z, (partsZ τ zx l).2) := by
 have key : ∀ (l : List Pt) (r : Tr × List Ev), l.foldl (fun r x => ((partZ r.1 x zx).1, r.2 ++ (partZ r.1 x zx).2)) (zxT r.1 z, r.2) = (zxT (l.foldl (fun r x => ((partZ r.1 x zx).1, r.2 ++ (partZ r.1 x zx).2)) r).1 z, (l.foldl (fun r x => ((partZ r.1 x zx).1, r.2 ++ (partZ r.1 x zx).2)) r).2) := by
  intro l
  induction l with
  | nil => intro r; rfl
  | cons x l ih =>
   intro r
   rw [List.foldl_cons, List.foldl_cons]
   dsimp only
   rw [part_zx]
   exact ih ((partZ r.1 x zx).1, r.2 ++ (partZ r.1 x zx).2)
 exact key l (τ, [])
theorem apply_zx (τ : Tr) (zx : Int) (x : Pt) (subs : List Pt) : applyZ τ zx x subs = (zxT (applyZ0 τ zx x subs).1 zx, (applyZ0 τ zx x subs).2) := by
 unfold applyZ applyZ0
 dsimp only
 rw [part_zx, parts_zx, parts_zx]
 repeat' split
 all_goals rfl
theorem rapply_spec (x : Nat) (τ : Tr) (zx ses xid : Int) (y : Pt) (subs : List Pt) (p : HP) (hx : TxA p y subs) (N : Nat) (ho : τ.Ok N) (hN : N + subs.length + 1 ≤ 1073741824) : Fn Tryz.prog 30 #[vptr x, .agg ([vint zx, vint ses, vint xid] ++ ptC y).toArray] [refR x τ, p] fun v L => ∃ u e, v = .tuple #[u, vint e] ∧ e = (applyZ τ zx y subs).2.2 ∧ (∃ a c, u = .slice a (applyZ τ zx y subs).2.1.length c) ∧ L = [refR x (applyZ τ zx y subs).1, p, slR 150 3 u (applyZ τ zx y subs).2.1.length ((applyZ τ zx y subs).2.1.flatMap evC)] := by
 refine Fn.intro Tryz.func30 rfl rfl fun F W => ?_
 refine .rdAny (p := p) hx.rd (by repeat' constructor) fun asb csb esub _ => ?_
 have hrd := hx.rd
 rw [esub] at hrd
 have hfs := hx.few
 have hosf := ho.sfew
 refine .sr (.oq (.box rfl) ?_)
 rintro v L' ⟨be, rfl, rfl⟩
 refine .a rfl (.a rfl (.nil (.ptCast (b := be) (l' := ([vint zx, vint ses, vint xid] ++ ptC y)) (by repeat' constructor) rfl (.then_n (.sr (.u (.fieldAddr rfl fo_39_3) (.q (.loadAs (vs := ptC y) rfl ag_37 (by repeat' constructor) (by simp [ptC]) rfl) rfl (.oq (.allocA ze_37) ?_))))))))
 rintro v L' ⟨bx, rfl, rfl⟩
 refine .oq (.storeA rfl rfl ?c9 sz_37 ?c12 ?c10 (nfz0 _ _)) ?_
 case c9 => exact hx.own.all
 case c12 => rfl
 case c10 => simp [ptC]
 rintro v L' rfl
 refine .nil (.ptCast (b := bx) (l' := ptC y) (by repeat' constructor) rfl (.then_n (.sr (.an rfl (.sr (.an rfl (.seq (.sr (.u (.fieldAddr rfl fo_37_0) (.u (.ld rfl ag_3) (.nt (.block (.sr (.ui rfl rfl rfl (.an rfl (.condD rfl (fun h20 => ?_) (fun h20 => ?_)))))))))))))))))
 ·refine .sr (.u (.fieldAddr rfl fo_37_4) (.u (.ld rfl ag_3) (.ui rfl rfl rfl (.nt (.condD rfl (fun h24 => ?_) (fun h24 => ?_))))))
  ·refine .region (.m rfl (.u (.fieldAddr rfl fo_37_4) (.u (.ld rfl ag_3) (.u (.fieldAddr rfl fo_37_5) (.u (.ld rfl ag_3) (.u (.fieldAddr rfl fo_37_2) (.u (.ld rfl ag_9) (.q (.to (v' := .agg (rsC (y.own, (y.num, y.data))).toArray) (.build (us := [(0, _), (1, _), (2, _)]) fl_127 ze_127 rfl rfl (by simp [isCell])) rfl) rfl (.cv Tryz.func78 [_, _] (ropen_spec x τ y.own y.num y.data N ho (by omega)) ?_)))))))))
   refine .nil (.blk_n (.then_n (.seq (.add (slR_nil 150 3) ?_))))
   have hz : (applyZ τ zx y subs) = (zxT (openS τ y.own y.num y.data) zx, ([], 0)) := by rw [apply_zx]; unfold applyZ0; rw [if_pos h20, if_pos (show 0 < y.own by omega)]
   refine .rtOpen (x := x) (τ := (openS τ y.own y.num y.data)) (by repeat' constructor) fun an cn as1 cs l hl => (.region (.m rfl (.u (.fieldAddr rfl fo_39_0) (.u (.ld rfl ag_3) (.nf rfl fo_87_2 (.st rfl rfl rfl sz_3 ?_))))))
   refine .nil (.rtFold (x := x) (τ := (zxT (openS τ y.own y.num y.data) zx)) (l := l) hl (by repeat' constructor) rfl rfl rfl rfl rfl (.then_n (.sm rfl (.m rfl (.a rfl (.an rfl (.ret (.rfCast (x := x) (τ' := (applyZ τ zx y subs).1) (by repeat' constructor) (by rw [hz]) (.slCast (T := 150) (sz := 3) (m' := (applyZ τ zx y subs).2.1.length) (xs' := (applyZ τ zx y subs).2.1.flatMap evC) (by repeat' constructor) (by (rw [hz]; try rfl)) (by (rw [hz]; try rfl)) ?_)))))))))
   exact .dn rfl rfl ⟨_, _, rfl, by rw [hz], ⟨_, _, by (rw [hz]; try rfl)⟩, rfl⟩
  refine .skip (.blk_n (.then_n (.seq (.add (slR_nil 150 3) ?_))))
  have hz : (applyZ τ zx y subs) = (zxT (τ) zx, ([], 0)) := by rw [apply_zx]; unfold applyZ0; rw [if_pos h20, if_neg (show ¬ 0 < y.own by omega)]
  refine .rtOpen (x := x) (τ := (τ)) (by repeat' constructor) fun an cn as1 cs l hl => (.region (.m rfl (.u (.fieldAddr rfl fo_39_0) (.u (.ld rfl ag_3) (.nf rfl fo_87_2 (.st rfl rfl rfl sz_3 ?_))))))
  refine .nil (.rtFold (x := x) (τ := (zxT (τ) zx)) (l := l) hl (by repeat' constructor) rfl rfl rfl rfl rfl (.then_n (.sm rfl (.m rfl (.a rfl (.an rfl (.ret (.rfCast (x := x) (τ' := (applyZ τ zx y subs).1) (by repeat' constructor) (by rw [hz]) (.slCast (T := 150) (sz := 3) (m' := (applyZ τ zx y subs).2.1.length) (xs' := (applyZ τ zx y subs).2.1.flatMap evC) (by repeat' constructor) (by (rw [hz]; try rfl)) (by (rw [hz]; try rfl)) ?_)))))))))
  exact .dn rfl rfl ⟨_, _, rfl, by rw [hz], ⟨_, _, by (rw [hz]; try rfl)⟩, rfl⟩
 refine .seq (.sr ?_)
 rcases Decidable.em (y.kind = 6) with hk6 | hk6
 ·refine .q (.as (v' := .bool true) (by exact congrArg Value.bool (decide_eq_true hk6)) (.int rfl rfl rfl)) rfl (.an rfl (.condT rfl (.sk (.condT rfl (.seq (.sr (.an rfl (.block (.add (slR_nil 150 3) (.rfCast (x := x) (τ' := (partsZ τ zx ((subs.take 0).filter isDel)).1) (by repeat' constructor) (by rw [List.take_zero]; rfl) (.slCast (T := 150) (sz := 3) (m' := (partsZ τ zx ((subs.take 0).filter isDel)).2.length) (xs' := (partsZ τ zx ((subs.take 0).filter isDel)).2.flatMap evC) (by repeat' constructor) (by rw [List.take_zero]; rfl) (by rw [List.take_zero]; rfl) (.loopK (ι := Nat × Value) (fun q E => (9, vint q.1) :: (7, q.2) :: E) (fun q => [refR x (partsZ τ zx ((subs.take q.1).filter isDel)).1, slR 150 3 q.2 (partsZ τ zx ((subs.take q.1).filter isDel)).2.length ((partsZ τ zx ((subs.take q.1).filter isDel)).2.flatMap evC)]) (fun q => q.1 ≤ subs.length ∧ ∃ a c, q.2 = .slice a (partsZ τ zx ((subs.take q.1).filter isDel)).2.length c) (fun q => subs.length - q.1) (0, .slice none 0 0) (ts := [0, 3, 4, 5, 6, 8]) (.cons rfl (.cons rfl (.cons rfl (.cons rfl (.cons rfl (.cons rfl (.nil))))))) (⟨Nat.zero_le _, none, 0, by rw [List.take_zero]; rfl⟩) ⟨rfl, rfl, rfl, rfl, rfl, rfl, rfl, rfl, trivial⟩ (by repeat' constructor) ?_))))))))))))
  rintro ⟨i, u⟩ ⟨hi, au, cu, hu⟩
  dsimp only
  dsimp only at hi hu
  subst hu
  have hev := parts_ev τ zx ((subs.take i).filter isDel)
  have hfl := List.length_filter_le isDel (subs.take i)
  rw [List.length_take] at hfl
  have hok : (partsZ τ zx ((subs.take i).filter isDel)).1.Ok (N + subs.length) := (ho.parts zx _ (fun w hw => (hx.each w (List.mem_of_mem_take (List.mem_filter.1 hw).1)).few)).more (by omega)
  refine .seq (.sm rfl (.u (.fieldAddr rfl fo_37_7) (.q (.as (v' := .slice asb subs.length csb) (by exact esub) (.ld rfl ag_35)) rfl (.q (.slen rfl Tryz.underlying35 rfl) rfl (.ui rfl rfl rfl (.nt (.condD rfl (fun h41 => ?_) (fun h41 => ?_))))))))
  ·have hi2 : i < subs.length := by omega
   refine .rdShape (p := p) hrd (by repeat' constructor) (by omega) fun bs os e1 => ?_
   subst e1
   have hys := hx.each _ (List.getElem_mem hi2)
   refine .sk (.seq (.block (.sr (.u (.fieldAddr rfl fo_37_0) (.u (.ld rfl ag_3) (.q (.as (v' := .bool false) (by exact congrArg Value.bool (decide_eq_false (by omega))) (.int rfl rfl rfl)) rfl (.m rfl (.grun (t := 47) rfl rfl rfl (.u (.fieldAddr rfl fo_37_7) (.grun (t := 47) rfl rfl rfl (.q (.as (v' := .slice (some ⟨bs, os, none⟩) subs.length csb) (by exact esub) (.ld rfl ag_35)) rfl (.grun (t := 47) rfl rfl rfl (.m rfl (.grun (t := 47) rfl rfl rfl (.q (.indexAddr rfl rfl el_35 (by omega)) rfl (.grun (t := 47) rfl rfl rfl (.u (.fieldAddr rfl fo_37_0) (.grun (t := 47) rfl rfl rfl (.q (.loadRd (sz := 8) (j := i * 8 + 0) (p := p) rfl ag_3 (by repeat' constructor) hrd (by omega) ((flatMap_cell (f := ptC) (sz := 8) (l := subs) (i := i) (k := 0) (fun _ _ => rfl) (by omega) (by decide)).trans rfl)) rfl ?_)))))))))))))))))))
   refine .grun (t := 47) rfl rfl rfl (.ui rfl rfl rfl (.u (.pickF rfl rfl) (.nt (.condD rfl (fun h55 => ?_) (fun h55 => ?_)))))
   ·refine .seq (.draw [8] [[0, 1, 2, 3, 4, 5, 6, 7, 8], [9]] mixed (by kernel_rfl) (.g0 (.mv rfl rfl (.kv rfl (.fieldAddr rfl fo_37_7) (.kv rfl (.as (v' := .slice (some ⟨bs, os, none⟩) subs.length csb) (by exact esub) (.ld rfl ag_35)) (.mv rfl rfl (.kv rfl (.indexAddr rfl rfl el_35 (by omega)) (.kv rfl (.loadRdA (sz := 8) (j := i * 8) (k := 8) (p := p) (vs := ptC subs[i]) rfl ag_37 (by repeat' constructor) hrd (by simp) (by omega) (by omega) (flatMap_at (f := ptC) (sz := 8) (fun _ _ => rfl) (by omega))) (.kv rfl (.fieldAddr rfl fo_39_0) (.kv rfl (.ld rfl ag_3) (.hh rfl (.c Tryz.func79 [_, _, _] (rpart_spec x (partsZ τ zx ((subs.take i).filter isDel)).1 subs[i] zx p hys (N + subs.length) hok (by omega))) ?_)))))))))))
    rintro v L' ⟨a15, c15, rfl, rfl⟩
    refine D.ph (.g0 (.kv rfl (.assign rfl) (.pf (.region (.m rfl (.m rfl (.oq (.append (n := (partsZ τ zx ((subs.take i).filter isDel)).2.length) (m := (partZ (partsZ τ zx ((subs.take i).filter isDel)).1 subs[i] zx).2.length) (ys := (partZ (partsZ τ zx ((subs.take i).filter isDel)).1 subs[i] zx).2.flatMap evC) (p := slR 150 3 (.slice a15 (partZ (partsZ τ zx ((subs.take i).filter isDel)).1 subs[i] zx).2.length c15) (partZ (partsZ τ zx ((subs.take i).filter isDel)).1 subs[i] zx).2.length ((partZ (partsZ τ zx ((subs.take i).filter isDel)).1 subs[i] zx).2.flatMap evC)) rfl rfl rfl el_30 (.inl ⟨_, Tryz.underlying30⟩) ze_150 rfl rfl ?hc76 ?hr77 ?hb78 (by decide)) ?_)))))))
    case hc76 => exact evC_cells _
    case hr77 => exact fun h hp => slR_rd hp
    case hb78 => have := part_ev (partsZ τ zx ((subs.take i).filter isDel)).1 subs[i] zx; omega
    rintro v L' ⟨⟨a16_2, c16_2, rfl⟩, rfl⟩
    refine .a rfl (.nil (.blk_n (.then_n (.region (.m rfl (.q (.add rfl rfl (by omega)) rfl (.an rfl ?_)))))))
    have hst := filter_take_yes (f := isDel) hi2 (by unfold isDel; rw [decide_eq_true h55])
    refine .rfCast (x := x) (τ' := (partsZ τ zx ((subs.take (i + 1)).filter isDel)).1) (by repeat' constructor) (by rw [hst, parts_snoc]) (.slCast (T := 150) (sz := 3) (m' := (partsZ τ zx ((subs.take (i + 1)).filter isDel)).2.length) (xs' := (partsZ τ zx ((subs.take (i + 1)).filter isDel)).2.flatMap evC) (by repeat' constructor) (by rw [hst, parts_snoc]; simp) (by rw [hst, parts_snoc]; simp) ?_)
    exact .rk ((i + 1, .slice a16_2 ((partsZ τ zx ((subs.take i).filter isDel)).2.length + (partZ (partsZ τ zx ((subs.take i).filter isDel)).1 subs[i] zx).2.length) c16_2)) (⟨by dsimp only; omega, _, _, by rw [hst, parts_snoc, List.length_append]⟩) (by dsimp only; omega) ⟨rfl, rfl, rfl, rfl, rfl, rfl, rfl, rfl, trivial⟩
   refine .skip (.blk_n (.then_n (.region (.m rfl (.q (.add rfl rfl (by omega)) rfl (.an rfl ?_))))))
   have hst := filter_take_no (f := isDel) hi2 (by unfold isDel; rw [decide_eq_false h55])
   refine .rfCast (x := x) (τ' := (partsZ τ zx ((subs.take (i + 1)).filter isDel)).1) (by repeat' constructor) (by rw [hst]) (.slCast (T := 150) (sz := 3) (m' := (partsZ τ zx ((subs.take (i + 1)).filter isDel)).2.length) (xs' := (partsZ τ zx ((subs.take (i + 1)).filter isDel)).2.flatMap evC) (by repeat' constructor) (by rw [hst]) (by rw [hst]) ?_)
   exact .rk ((i + 1, .slice au (partsZ τ zx ((subs.take i).filter isDel)).2.length cu)) (⟨by dsimp only; omega, _, _, by rw [hst]⟩) (by dsimp only; omega) ⟨rfl, rfl, rfl, rfl, rfl, rfl, rfl, rfl, trivial⟩
  have hii : i = subs.length := by omega
  rw [hii, List.take_length]
  refine .exit (.then_e (.then_e (.blk_e (.then_n (.sr (.u (.fieldAddr rfl fo_37_0) (.u (.ld rfl ag_3) (.q (.as (v' := .bool true) (by exact congrArg Value.bool (decide_eq_true hk6)) (.int rfl rfl rfl)) rfl (.nt (.condT rfl (.region (.m rfl (.u (.fieldAddr rfl fo_37_4) (.u (.ld rfl ag_3) (.cv Tryz.func80 [_, _] (rdrop_spec x (partsZ τ zx (subs.filter isDel)).1 y.own (by have := (ho.parts zx (subs.filter isDel) (fun w hw => (hx.each w (List.mem_filter.1 hw).1).few)).sfew; have := List.length_filter_le isDel subs; omega)) ?_)))))))))))))))
  refine .nil (.blk_n (.then_n (.seq ?_)))
  have hz : (applyZ τ zx y subs) = (zxT (dropS (partsZ τ zx (subs.filter isDel)).1 y.own) zx, ((partsZ τ zx (subs.filter isDel)).2, 0)) := by rw [apply_zx]; unfold applyZ0; rw [if_neg h20, if_pos hk6]
  refine .rtOpen (x := x) (τ := (dropS (partsZ τ zx (subs.filter isDel)).1 y.own)) (by repeat' constructor) fun an cn as1 cs l hl => (.region (.m rfl (.u (.fieldAddr rfl fo_39_0) (.u (.ld rfl ag_3) (.nf rfl fo_87_2 (.st rfl rfl rfl sz_3 ?_))))))
  refine .nil (.rtFold (x := x) (τ := (zxT (dropS (partsZ τ zx (subs.filter isDel)).1 y.own) zx)) (l := l) hl (by repeat' constructor) rfl rfl rfl rfl rfl (.then_n (.sm rfl (.m rfl (.a rfl (.an rfl (.ret (.rfCast (x := x) (τ' := (applyZ τ zx y subs).1) (by repeat' constructor) (by rw [hz]) (.slCast (T := 150) (sz := 3) (m' := (applyZ τ zx y subs).2.1.length) (xs' := (applyZ τ zx y subs).2.1.flatMap evC) (by repeat' constructor) (by (rw [hz]; try rfl)) (by (rw [hz]; try rfl)) ?_)))))))))
  exact .dn rfl rfl ⟨_, _, rfl, by rw [hz], ⟨_, _, by (rw [hz]; try rfl)⟩, rfl⟩
 refine .q (.as (v' := .bool false) (by exact congrArg Value.bool (decide_eq_false hk6)) (.int rfl rfl rfl)) rfl (.an rfl (.condF rfl (.region ?_)))
 rcases Decidable.em (y.kind = 7) with hk7 | hk7
 ·refine .q (.as (v' := .bool true) (by exact congrArg Value.bool (decide_eq_true hk7)) (.int rfl rfl rfl)) rfl (.an rfl (.condT rfl (.seq (.sr (.an rfl (.block (.add (slR_nil 150 3) (.rfCast (x := x) (τ' := (partsZ τ zx (subs.take 0)).1) (by repeat' constructor) (by rw [List.take_zero]; rfl) (.slCast (T := 150) (sz := 3) (m' := (partsZ τ zx (subs.take 0)).2.length) (xs' := (partsZ τ zx (subs.take 0)).2.flatMap evC) (by repeat' constructor) (by rw [List.take_zero]; rfl) (by rw [List.take_zero]; rfl) (.loopK (ι := Nat × Value) (fun q E => (9, vint q.1) :: (7, q.2) :: E) (fun q => [refR x (partsZ τ zx (subs.take q.1)).1, slR 150 3 q.2 (partsZ τ zx (subs.take q.1)).2.length ((partsZ τ zx (subs.take q.1)).2.flatMap evC)]) (fun q => q.1 ≤ subs.length ∧ ∃ a c, q.2 = .slice a (partsZ τ zx (subs.take q.1)).2.length c) (fun q => subs.length - q.1) (0, .slice none 0 0) (ts := [0, 3, 4, 5, 6, 8]) (.cons rfl (.cons rfl (.cons rfl (.cons rfl (.cons rfl (.cons rfl (.nil))))))) (⟨Nat.zero_le _, none, 0, by rw [List.take_zero]; rfl⟩) ⟨rfl, rfl, rfl, rfl, rfl, rfl, rfl, rfl, trivial⟩ (by repeat' constructor) ?_))))))))))
  rintro ⟨i, u⟩ ⟨hi, au, cu, hu⟩
  dsimp only
  dsimp only at hi hu
  subst hu
  have hev := parts_ev τ zx (subs.take i)
  have hfl := List.length_take_le i subs
  have hok : (partsZ τ zx (subs.take i)).1.Ok (N + subs.length) := (ho.parts zx _ (fun w hw => (hx.each w (List.mem_of_mem_take hw)).few)).more (by rw [List.length_take]; omega)
  refine .seq (.sm rfl (.u (.fieldAddr rfl fo_37_7) (.q (.as (v' := .slice asb subs.length csb) (by exact esub) (.ld rfl ag_35)) rfl (.q (.slen rfl Tryz.underlying35 rfl) rfl (.ui rfl rfl rfl (.nt (.condD rfl (fun h41 => ?_) (fun h41 => ?_))))))))
  ·have hi2 : i < subs.length := by omega
   refine .rdShape (p := p) hrd (by repeat' constructor) (by omega) fun bs os e1 => ?_
   subst e1
   have hys := hx.each _ (List.getElem_mem hi2)
   refine .sk (.seq (.block (.sr (.u (.fieldAddr rfl fo_37_0) (.u (.ld rfl ag_3) (.q (.as (v' := .bool true) (by exact congrArg Value.bool (decide_eq_true hk7)) (.int rfl rfl rfl)) rfl (.m rfl (.gk (.gk (.gk (.gk (.gk (.gk (.gk (.u (.pickT rfl rfl) (.nt (.condT rfl (.seq (.draw [8] [[0, 1, 2, 3, 4, 5, 6, 7, 8], [9]] mixed (by kernel_rfl) (.g0 (.mv rfl rfl (.kv rfl (.fieldAddr rfl fo_37_7) (.kv rfl (.as (v' := .slice (some ⟨bs, os, none⟩) subs.length csb) (by exact esub) (.ld rfl ag_35)) (.mv rfl rfl (.kv rfl (.indexAddr rfl rfl el_35 (by omega)) (.kv rfl (.loadRdA (sz := 8) (j := i * 8) (k := 8) (p := p) (vs := ptC subs[i]) rfl ag_37 (by repeat' constructor) hrd (by simp) (by omega) (by omega) (flatMap_at (f := ptC) (sz := 8) (fun _ _ => rfl) (by omega))) ?_))))))))))))))))))))))))))
   refine D.kv rfl (.fieldAddr rfl fo_39_0) (.kv rfl (.ld rfl ag_3) (.hh rfl (.c Tryz.func79 [_, _, _] (rpart_spec x (partsZ τ zx (subs.take i)).1 subs[i] zx p hys (N + subs.length) hok (by omega))) ?_))
   rintro v L' ⟨a15, c15, rfl, rfl⟩
   refine D.ph (.g0 (.kv rfl (.assign rfl) (.pf (.region (.m rfl (.m rfl (.oq (.append (n := (partsZ τ zx (subs.take i)).2.length) (m := (partZ (partsZ τ zx (subs.take i)).1 subs[i] zx).2.length) (ys := (partZ (partsZ τ zx (subs.take i)).1 subs[i] zx).2.flatMap evC) (p := slR 150 3 (.slice a15 (partZ (partsZ τ zx (subs.take i)).1 subs[i] zx).2.length c15) (partZ (partsZ τ zx (subs.take i)).1 subs[i] zx).2.length ((partZ (partsZ τ zx (subs.take i)).1 subs[i] zx).2.flatMap evC)) rfl rfl rfl el_30 (.inl ⟨_, Tryz.underlying30⟩) ze_150 rfl rfl ?hc126 ?hr127 ?hb128 (by decide)) ?_)))))))
   case hc126 => exact evC_cells _
   case hr127 => exact fun h hp => slR_rd hp
   case hb128 => have := part_ev (partsZ τ zx (subs.take i)).1 subs[i] zx; omega
   rintro v L' ⟨⟨a16_2, c16_2, rfl⟩, rfl⟩
   refine .a rfl (.nil (.blk_n (.then_n (.region (.m rfl (.q (.add rfl rfl (by omega)) rfl (.an rfl ?_)))))))
   have hst := List.take_succ_eq_append_getElem hi2
   refine .rfCast (x := x) (τ' := (partsZ τ zx (subs.take (i + 1))).1) (by repeat' constructor) (by rw [hst, parts_snoc]) (.slCast (T := 150) (sz := 3) (m' := (partsZ τ zx (subs.take (i + 1))).2.length) (xs' := (partsZ τ zx (subs.take (i + 1))).2.flatMap evC) (by repeat' constructor) (by rw [hst, parts_snoc]; simp) (by rw [hst, parts_snoc]; simp) ?_)
   exact .rk ((i + 1, .slice a16_2 ((partsZ τ zx (subs.take i)).2.length + (partZ (partsZ τ zx (subs.take i)).1 subs[i] zx).2.length) c16_2)) (⟨by dsimp only; omega, _, _, by rw [hst, parts_snoc, List.length_append]⟩) (by dsimp only; omega) ⟨rfl, rfl, rfl, rfl, rfl, rfl, rfl, rfl, trivial⟩
  have hii : i = subs.length := by omega
  rw [hii, List.take_length]
  refine .exit (.then_e (.then_e (.blk_e (.then_n (.sr (.u (.fieldAddr rfl fo_37_0) (.u (.ld rfl ag_3) (.q (.as (v' := .bool false) (by exact congrArg Value.bool (decide_eq_false (by omega))) (.int rfl rfl rfl)) rfl (.nt (.condF rfl (.skip (.blk_n (.then_n (.seq ?_))))))))))))))
  have hz : (applyZ τ zx y subs) = (zxT ((partsZ τ zx subs).1) zx, ((partsZ τ zx subs).2, 0)) := by rw [apply_zx]; unfold applyZ0; rw [if_neg h20, if_neg hk6, if_pos hk7]
  refine .rtOpen (x := x) (τ := ((partsZ τ zx subs).1)) (by repeat' constructor) fun an cn as1 cs l hl => (.region (.m rfl (.u (.fieldAddr rfl fo_39_0) (.u (.ld rfl ag_3) (.nf rfl fo_87_2 (.st rfl rfl rfl sz_3 ?_))))))
  refine .nil (.rtFold (x := x) (τ := (zxT ((partsZ τ zx subs).1) zx)) (l := l) hl (by repeat' constructor) rfl rfl rfl rfl rfl (.then_n (.sm rfl (.m rfl (.a rfl (.an rfl (.ret (.rfCast (x := x) (τ' := (applyZ τ zx y subs).1) (by repeat' constructor) (by rw [hz]) (.slCast (T := 150) (sz := 3) (m' := (applyZ τ zx y subs).2.1.length) (xs' := (applyZ τ zx y subs).2.1.flatMap evC) (by repeat' constructor) (by (rw [hz]; try rfl)) (by (rw [hz]; try rfl)) ?_)))))))))
  exact .dn rfl rfl ⟨_, _, rfl, by rw [hz], ⟨_, _, by (rw [hz]; try rfl)⟩, rfl⟩
 refine .q (.as (v' := .bool false) (by exact congrArg Value.bool (decide_eq_false hk7)) (.int rfl rfl rfl)) rfl (.an rfl (.condF rfl (.sr (.ui rfl rfl rfl (.an rfl (.condD rfl (fun h75 => ?_) (fun h75 => ?_)))))))
 ·refine .region (.u (.fieldAddr rfl fo_37_6) (.u (.ld rfl ag_31) (.a rfl (.nil (.blk_n (.then_n (.seq (.add (slR_nil 150 3) ?_))))))))
  have hz : (applyZ τ zx y subs) = (zxT (τ) zx, ([], y.err)) := by rw [apply_zx]; unfold applyZ0; rw [if_neg h20, if_neg hk6, if_neg hk7, if_pos h75]
  refine .rtOpen (x := x) (τ := (τ)) (by repeat' constructor) fun an cn as1 cs l hl => (.region (.m rfl (.u (.fieldAddr rfl fo_39_0) (.u (.ld rfl ag_3) (.nf rfl fo_87_2 (.st rfl rfl rfl sz_3 ?_))))))
  refine .nil (.rtFold (x := x) (τ := (zxT (τ) zx)) (l := l) hl (by repeat' constructor) rfl rfl rfl rfl rfl (.then_n (.sm rfl (.m rfl (.a rfl (.an rfl (.ret (.rfCast (x := x) (τ' := (applyZ τ zx y subs).1) (by repeat' constructor) (by rw [hz]) (.slCast (T := 150) (sz := 3) (m' := (applyZ τ zx y subs).2.1.length) (xs' := (applyZ τ zx y subs).2.1.flatMap evC) (by repeat' constructor) (by (rw [hz]; try rfl)) (by (rw [hz]; try rfl)) ?_)))))))))
  exact .dn rfl rfl ⟨_, _, rfl, by rw [hz], ⟨_, _, by (rw [hz]; try rfl)⟩, rfl⟩
 refine .region (.m rfl (.q (.loadAs (vs := ptC y) rfl ag_37 (by repeat' constructor) (by simp [ptC]) rfl) rfl (.u (.fieldAddr rfl fo_39_0) (.u (.ld rfl ag_3) (.oq (.c Tryz.func79 [_, _, _] (rpart_spec x τ y zx p hx.own N ho (by omega))) ?_)))))
 rintro v L' ⟨a5, c5, rfl, rfl⟩
 refine .a rfl (.nil (.blk_n (.then_n (.seq ?_))))
 have hz : (applyZ τ zx y subs) = (zxT ((partZ τ y zx).1) zx, ((partZ τ y zx).2, 0)) := by rw [apply_zx]; unfold applyZ0; rw [if_neg h20, if_neg hk6, if_neg hk7, if_neg h75]
 refine .rtOpen (x := x) (τ := ((partZ τ y zx).1)) (by repeat' constructor) fun an cn as1 cs l hl => (.region (.m rfl (.u (.fieldAddr rfl fo_39_0) (.u (.ld rfl ag_3) (.nf rfl fo_87_2 (.st rfl rfl rfl sz_3 ?_))))))
 refine .nil (.rtFold (x := x) (τ := (zxT ((partZ τ y zx).1) zx)) (l := l) hl (by repeat' constructor) rfl rfl rfl rfl rfl (.then_n (.sm rfl (.m rfl (.a rfl (.an rfl (.ret (.rfCast (x := x) (τ' := (applyZ τ zx y subs).1) (by repeat' constructor) (by rw [hz]) (.slCast (T := 150) (sz := 3) (m' := (applyZ τ zx y subs).2.1.length) (xs' := (applyZ τ zx y subs).2.1.flatMap evC) (by repeat' constructor) (by (rw [hz]; try rfl)) (by (rw [hz]; try rfl)) ?_)))))))))
 exact .dn rfl rfl ⟨_, _, rfl, by rw [hz], ⟨_, _, by (rw [hz]; try rfl)⟩, rfl⟩
set_option maxHeartbeats 1000000 in
theorem txn7_spec (x : Nat) (τ : Tr) (a : Ac0) (q : HP) (ss : List Ac0) (zx K : Int) (hinv : HInv τ K) (hK : K ≤ 1099511620000) (ha : IntsOk a) (hd : a.2.2.2.1.length ≤ 100) (hq : Acts0 q a.2.2.2.2 ss) (hsm : Smalls ss) : Fn Tryz.prog 36 #[vptr x, .agg (ac0C a).toArray, vint zx] [refR x τ, q] fun v L => ∃ (y : Pt) (subs : List Pt), v = .agg (ptC y).toArray ∧ ShapeH τ zx y subs K ∧ TxC y subs ∧ L = [refR x τ, q, txRd y subs] := by
 refine Fn.intro Tryz.func36 rfl rfl fun F W => ?_
 refine .rdAny (p := q) hq.cells (by repeat' constructor) fun ab cb eab _ => ?_
 have hrd := hq.cells
 rw [eab] at hrd
 have hfew := hinv.ok.few
 have hsf := hinv.ok.sfew
 have hs6 := hsm.few
 have hca : isCell a.2.2.2.2 = true := by rw [eab]; rfl
 have hp5 := pickZ_range a.2.1 (n := 5) (by decide)
 have hp50 := pickZ_range a.2.2.1 (n := 50) (by decide)
 have hp99 := pickZ_range a.2.1 (n := 99) (by decide)
 have hwl : (ownedZ τ (1 + pickZ a.2.1 5)).length ≤ 60 := Nat.le_trans (owned_len τ (1 + pickZ a.2.1 5)) hfew
 refine .sr (.oq (.box rfl) ?_)
 rintro v L' ⟨ba, rfl, rfl⟩
 refine .oq (.allocA ze_37) ?_
 rintro v L' ⟨b6, rfl, rfl⟩
 refine .nil (.ptCast (b := ba) (l' := ac0C a) (by repeat' constructor) rfl (.then_n (.seq (.sr (.u (.fieldAddr rfl fo_82_0) (.u (.ld rfl ag_3) (.oq (.call Tryz.func35 rfl rfl (vs := [_, _]) rfl (pick7_spec _ _ ha.h1 (by decide))) ?_)))))))
 rintro v L' ⟨rfl, rfl⟩
 refine .nt (.block (.sr (.ui rfl rfl rfl (.an rfl (.condD rfl (fun h23 => ?_) (fun h23 => ?_))))))
 ·refine .seq (.draw [11] [[0, 1, 2, 3, 4, 5, 6, 7, 8, 9, 10, 11]] mixed (by kernel_rfl) (.go [ptc ba _ _] (by repeat' constructor) (.kv rfl (.fieldAddr rfl fo_82_1) (.kv rfl (.ld rfl ag_3) (.m rfl (by kernel_rfl) (.call Tryz.func35 rfl rfl (vs := [_, _]) rfl (pick7_spec _ _ ha.h2 (by decide))) (by repeat' constructor) ?_)))))
  refine D.kv rfl (.add rfl rfl (by omega)) (.kv rfl (.fieldAddr rfl fo_82_2) (.kv rfl (.ld rfl ag_3) (.m rfl (by kernel_rfl) (.call Tryz.func35 rfl rfl (vs := [_, _]) rfl (pick7_spec _ _ ha.h3 (by decide))) (by repeat' constructor) ?_)))
  refine D.kv rfl (.add rfl rfl (by omega)) (.kv rfl (.fieldAddr rfl fo_82_3) (.kv rfl (.ld rfl ag_9) (.kv rfl (.to (v' := .agg (ptC (⟨5, [], a.2.2.2.1, .slice none 0 0, [], (1 + pickZ a.2.1 5), 4 + pickZ a.2.2.1 50, 0, .slice none 0 0⟩ : Pt)).toArray) (.build (us := [(0, _), (4, _), (5, _), (2, _)]) fl_37 ze_37 rfl rfl (by simp [isCell])) rfl) (.hh rfl (.storeA rfl rfl ?c23 sz_37 ?c26 ?c24 (nfz0 _ _)) ?_))))
  case c23 => exact pt_cells rfl rfl
  case c26 => rfl
  case c24 => simp [ptC]
  rintro v L' rfl
  refine D.pf (.ret (.blk_r (.then_r (.ptCast (b := b6) (l' := ptC (⟨5, [], a.2.2.2.1, .slice none 0 0, [], (1 + pickZ a.2.1 5), 4 + pickZ a.2.2.1 50, 0, .slice none 0 0⟩ : Pt)) (by repeat' constructor) rfl (.add (p := txRd (⟨5, [], a.2.2.2.1, .slice none 0 0, [], (1 + pickZ a.2.1 5), 4 + pickZ a.2.2.1 50, 0, .slice none 0 0⟩ : Pt) []) (txRd_none rfl rfl rfl) ?_)))))
  exact .d1 rfl (.cellA rfl ag_37 (by repeat' constructor) (by simp [ptC]) rfl) ⟨(⟨5, [], a.2.2.2.1, .slice none 0 0, [], (1 + pickZ a.2.1 5), 4 + pickZ a.2.2.1 50, 0, .slice none 0 0⟩ : Pt), [], rfl, .opens rfl rfl ⟨by show 1 ≤ (1 + pickZ a.2.1 5); omega, by show (1 + pickZ a.2.1 5) ≤ 5; omega⟩ ⟨by show 4 ≤ 4 + pickZ a.2.2.1 50; omega, by show 4 + pickZ a.2.2.1 50 ≤ 53; omega⟩ hd rfl rfl, ⟨rfl, rfl, (fun w hw => by cases hw)⟩, rfl⟩
 refine .sr (.ui rfl rfl rfl (.an rfl (.condD rfl (fun h36 => ?_) (fun h36 => ?_))))
 ·refine .sr (.u (.fieldAddr rfl fo_82_1) (.u (.ld rfl ag_3) (.oq (.call Tryz.func35 rfl rfl (vs := [_, _]) rfl (pick7_spec _ _ ha.h2 (by decide))) ?_)))
  rintro v L' ⟨rfl, rfl⟩
  refine .q (.add rfl rfl (by omega)) rfl (.q (.to (v' := .agg (ptC (⟨6, [], [], .slice none 0 0, [], (1 + pickZ a.2.1 5), 0, 0, (.slice none 0 0)⟩ : Pt)).toArray) (.build (us := [(0, _), (4, _)]) fl_37 ze_37 rfl rfl (by simp [isCell])) rfl) rfl (.oq (.allocA ze_37) ?_))
  rintro v L' ⟨bT, rfl, rfl⟩
  refine .oq (.storeA rfl rfl ?c37 sz_37 ?c40 ?c38 (nfz0 _ _)) ?_
  case c37 => exact pt_cells rfl rfl
  case c40 => rfl
  case c38 => simp [ptC]
  rintro v L' rfl
  refine .nil (.ptCast (b := bT) (l' := ptC (⟨6, [], [], .slice none 0 0, [], (1 + pickZ a.2.1 5), 0, 0, (.slice none 0 0)⟩ : Pt)) (by repeat' constructor) rfl (.then_n (.sm rfl (.oq (.c Tryz.func81 [_] (rclone_spec x τ 60 hinv.ok (by omega))) ?_))))
  rintro v L' ⟨u, rfl, rfl⟩
  refine .an rfl (.sm rfl (.u (.fieldAddr rfl fo_37_4) (.u (.ld rfl ag_3) (.oq (.c Tryz.func72 [_, _] (rowned_spec x τ (1 + pickZ a.2.1 5) 60 hinv.ok (by omega))) ?_))))
  rintro v L' ⟨⟨ao, co, rfl⟩, rfl⟩
  refine .an rfl (.seq (.seq (.add (slR_nil 37 8) (.region (.m rfl (.q (.slen rfl Tryz.underlying54 rfl) rfl (.q (.sub rfl rfl (by omega)) rfl (.an rfl (.block (.rfCast (x := u) (τ' := (zxT (partsZ τ zx []).1 τ.zx)) (by repeat' constructor) (rfl) (.loopK (ι := Nat × (List Pt) × Int × Value) (fun q E => (10, vint ((q.1 : Int) - 1)) :: E) (fun q => [ptc bT (ptC (⟨6, [], [], .slice none 0 0, [], (1 + pickZ a.2.1 5), 0, 0, q.2.2.2⟩ : Pt)) 37, refR u (zxT (partsZ τ zx q.2.1).1 q.2.2.1), slR 37 8 q.2.2.2 q.2.1.length (q.2.1.flatMap ptC)]) (fun q => DelI τ zx K (1 + pickZ a.2.1 5) q.1 q.2.1 ∧ ∃ a c, q.2.2.2 = .slice a q.2.1.length c) (fun q => q.1) ((ownedZ τ (1 + pickZ a.2.1 5)).length, [], τ.zx, .slice none 0 0) (ts := [0, 2, 4, 6, 7, 8, 9]) (.cons rfl (.cons rfl (.cons rfl (.cons rfl (.cons rfl (.cons rfl (.cons rfl (.nil)))))))) (⟨DelI.init hinv _, none, 0, rfl⟩) ⟨rfl, rfl, rfl, rfl, rfl, rfl, rfl, rfl, trivial⟩ (by repeat' constructor) ?_)))))))))))
  rintro ⟨j, acc, z, w⟩ ⟨hdel, aw, cw, hw⟩
  dsimp only
  dsimp only at hdel hw
  subst hw
  have hdl := hdel.len
  have hal : ∀ w ∈ acc, w.acl.length ≤ 1 := fun w hw => by rw [(hdel.kinds w hw).2.2.1]; simp
  have hok := parts_ok hinv.ok zx hal z
  refine .seq (.sm rfl (.ui rfl rfl rfl (.nt (.condD rfl (fun h53 => ?_) (fun h53 => ?_)))))
  ·obtain ⟨k, rfl⟩ : ∃ k, j = k + 1 := ⟨j - 1, by omega⟩
   rw [show (((k + 1 : Nat) : Int) - 1) = (k : Int) by omega]
   have hk2 : k < (ownedZ τ (1 + pickZ a.2.1 5)).length := by omega
   refine .slShape (T := 9) (sz := 1) (v := .slice ao (ownedZ τ (1 + pickZ a.2.1 5)).length co) (xs := strs (ownedZ τ (1 + pickZ a.2.1 5))) (by repeat' constructor) (by omega) fun bo bo' e0 mbo _ => ?_
   simp only [Value.slice.injEq, true_and] at e0
   obtain ⟨rfl, rfl⟩ := e0
   have hth := hdel.parent hinv
   have hpl := able_len (.inr (owned_able hinv (List.getElem_mem hk2)).1)
   refine .sk (.seq (.block (.sm rfl (.m rfl (.m rfl (.q (.indexAddr rfl rfl el_54 (by omega)) rfl (.q (.loadRd (sz := 1) (j := k * 1) (p := slR 9 1 _ (ownedZ τ (1 + pickZ a.2.1 5)).length (strs (ownedZ τ (1 + pickZ a.2.1 5)))) rfl ag_9 (by repeat' constructor) (fun h hp => slR_rd hp) (by omega) (strs_at hk2)) rfl (.oq (.c Tryz.func83 [_] (rparent_spec _ ?hs59)) ?_))))))))
   case hs59 => first | assumption | omega
   rintro v L' ⟨rfl, rfl⟩
   refine .cv Tryz.func82 [_, _] (rplace_spec u (zxT (partsZ τ zx acc).1 z) (parentZ (ownedZ τ (1 + pickZ a.2.1 5))[k]) (by have := hok.few; omega)) ?_
   refine .a rfl (.nil ?_)
   obtain ⟨n, hn, hpn, hkn⟩ := place_get (l := (partsZ τ zx acc).1.nodes) (p := parentZ (ownedZ τ (1 + pickZ a.2.1 5))[k]) (place_iff.2 hth)
   have hpz : placeZ (zxT (partsZ τ zx acc).1 z) (parentZ (ownedZ τ (1 + pickZ a.2.1 5))[k]) = n := hpn
   rw [hpz]
   refine .rtOpen (x := u) (τ := (zxT (partsZ τ zx acc).1 z)) (by repeat' constructor) fun am cm as2 cs2 m hm => ?_
   have hml := nds_len hm
   have hml2 : m.length = (partsZ τ zx acc).1.nodes.length := hml
   have hnm : n < m.length := by omega
   refine .slShape (T := 129) (sz := 12) (v := .slice am m.length cm) (xs := m.flatMap rnC) (by repeat' constructor) (by omega) fun bm bm' e0 mbm _ => ?_
   simp only [Value.slice.injEq, true_and] at e0
   obtain ⟨rfl, rfl⟩ := e0
   have hlk : alook (partsZ τ zx acc).1.nodes (parentZ (ownedZ τ (1 + pickZ a.2.1 5))[k]) = some m[n].2.2 := by have g := nds_get hm (i := n) hnm; have g2 : alook (partsZ τ zx acc).1.nodes ((partsZ τ zx acc).1.nodes[n]).1 = some ((partsZ τ zx acc).1.nodes[n]).2 := al_get (hok.sorted.nodup linB) (i := n) hn; rw [hkn, show (partsZ τ zx acc).1.nodes[n] = (m[n].1, m[n].2.2) from g] at g2; exact g2
   have hv := hdel.ver _ _ hlk
   have hdel2 := hdel.step hinv hlk
   refine .then_n (.seq (.draw [15, 16] [[0, 1, 2, 3, 4, 5, 6, 7, 8, 9, 10, 11, 12, 13, 14, 15], [16]] mixed (by kernel_rfl) (.go [rnR _ _, ptc u _ _, slR 9 1 _ _ _] (by repeat' constructor) (.k rfl (.move rfl) (.k rfl (.move rfl) (.k rfl (.indexAddr rfl rfl el_54 (by omega)) (.k rfl (.loadRd (sz := 1) (j := k * 1) (p := slR 9 1 _ (ownedZ τ (1 + pickZ a.2.1 5)).length (strs (ownedZ τ (1 + pickZ a.2.1 5)))) rfl ag_9 (by repeat' constructor) (fun h hp => slR_rd hp) (by omega) (strs_at hk2)) (.k rfl (.move rfl) (.k rfl (.nilp rfl) (.k rfl (.fieldAddr rfl fo_87_0) (.k rfl (.ld rfl ag_73) (.k rfl (.move rfl) (.k rfl (.indexAddr rfl rfl el_73 (by omega)) (.k rfl (.fieldAddr rfl fo_129_3) (.k rfl (.fieldAddr rfl fo_92_4) (.k rfl (.loadRd (sz := 12) (j := n * 12 + 7) (p := rnR _ m) rfl ag_3 (by repeat' constructor) (fun h hp => slR_rd hp) (by omega) ((rn_cell (l := m) (i := n) (k := 7) (by omega) (by decide)).trans rfl)) ?_))))))))))))))))
   refine D.k rfl (.add rfl rfl (by omega)) (.k rfl (.to (v' := .agg (ptC (⟨2, (ownedZ τ (1 + pickZ a.2.1 5))[k], [], .slice none 0 0, [], 0, m[n].2.2.st.cver + 1, 0, .slice none 0 0⟩ : Pt)).toArray) (.build (us := [(0, _), (1, _), (5, _)]) fl_37 ze_37 rfl rfl (by simp [isCell])) rfl) (.hh rfl (.allocA ze_37) ?_))
   rintro v L' ⟨b12, rfl, rfl⟩
   refine D.ph (.g0 (.hh rfl (.storeA rfl rfl ?c80 sz_37 ?c83 ?c81 (nfz0 _ _)) ?_))
   case c80 => exact pt_cells rfl rfl
   case c83 => rfl
   case c81 => simp [ptC]
   rintro v L' rfl
   refine D.ph (.fin (.ptCast (b := b12) (l' := ptC (⟨2, (ownedZ τ (1 + pickZ a.2.1 5))[k], [], .slice none 0 0, [], 0, m[n].2.2.st.cver + 1, 0, .slice none 0 0⟩ : Pt)) (by repeat' constructor) rfl (.rtFold (x := u) (τ := (zxT (partsZ τ zx acc).1 z)) (l := m) hm (by repeat' constructor) rfl rfl rfl rfl rfl (.then_n (.sr (.u (.fieldAddr rfl fo_37_7) (.u (.ld rfl ag_35) (.q (.loadAs (vs := ptC (⟨2, (ownedZ τ (1 + pickZ a.2.1 5))[k], [], .slice none 0 0, [], 0, m[n].2.2.st.cver + 1, 0, .slice none 0 0⟩ : Pt)) rfl ag_37 (by repeat' constructor) (by simp [ptC]) rfl) rfl (.oq (.buildSlice (vs := [_]) el_35 ze_37 rfl rfl rfl rfl (by first | (simp [Value.cells]; done) | (intro v hv; simp only [List.mem_cons, List.not_mem_nil, or_false] at hv; (repeat (first | (subst hv; rfl) | (rcases hv with hv | hv; (subst hv; rfl)))))) (by decide)) ?_)))))))))
   rintro v L' ⟨b13, rfl, rfl⟩
   refine .oq (.append1 rfl rfl rfl el_35 ze_37 rfl rfl ?c90 ?c91 (Nat.le_refl _) ?c92 (by decide)) ?_
   case c90 => simp only [List.map_cons, List.map_nil, List.flatten_cons, List.flatten_nil, List.append_nil]; exact pt_cells rfl rfl
   case c91 => rfl
   case c92 => first | omega | (simp; omega)
   rintro v L' ⟨⟨a13_4, c13_4, rfl⟩, rfl⟩
   refine .u (.fieldAddr rfl fo_37_7) (.oq (.store rfl rfl rfl sz_35 ?c96 (nfz0 _ _)) ?_)
   case c96 => simp [ptC]
   rintro v L' rfl
   refine .nil (.slCast (T := 37) (sz := 8) (m' := (acc ++ [(⟨2, (ownedZ τ (1 + pickZ a.2.1 5))[k], [], .slice none 0 0, [], 0, m[n].2.2.st.cver + 1, 0, .slice none 0 0⟩ : Pt)]).length) (xs' := (acc ++ [(⟨2, (ownedZ τ (1 + pickZ a.2.1 5))[k], [], .slice none 0 0, [], 0, m[n].2.2.st.cver + 1, 0, .slice none 0 0⟩ : Pt)]).flatMap ptC) (by repeat' constructor) (by rw [List.length_append]; rfl) (by rw [List.flatMap_append]; simp; rfl) ?_)
   rw [show acc.length + 1 = (acc ++ [(⟨2, (ownedZ τ (1 + pickZ a.2.1 5))[k], [], .slice none 0 0, [], 0, m[n].2.2.st.cver + 1, 0, .slice none 0 0⟩ : Pt)]).length by rw [List.length_append]; rfl]
   refine .then_n (.add (p := nilA) nilA_ok (.region (.m rfl (.m rfl (.q (.loadAs (vs := ptC (⟨2, (ownedZ τ (1 + pickZ a.2.1 5))[k], [], .slice none 0 0, [], 0, m[n].2.2.st.cver + 1, 0, .slice none 0 0⟩ : Pt)) rfl ag_37 (by repeat' constructor) (by simp [ptC]) rfl) rfl (.q (.buildN (pl := [(0, 1), (1, 1), (2, 1), (3, 8)]) (us := [(0, vint zx), (3, .agg (ptC (⟨2, (ownedZ τ (1 + pickZ a.2.1 5))[k], [], .slice none 0 0, [], 0, m[n].2.2.st.cver + 1, 0, .slice none 0 0⟩ : Pt)).toArray)]) (cells := [vint zx, vint 0, vint 0] ++ ptC (⟨2, (ownedZ τ (1 + pickZ a.2.1 5))[k], [], .slice none 0 0, [], 0, m[n].2.2.st.cver + 1, 0, .slice none 0 0⟩ : Pt)) Tryz.underlying39 (by kernel_rfl) ze_39 rfl (fill_entry _ _ _ _ _ _ _ _ _)) rfl (.oq (.call Tryz.func30 rfl rfl (vs := [_, _]) rfl (rapply_spec u (zxT (partsZ τ zx acc).1 z) zx 0 0 (⟨2, (ownedZ τ (1 + pickZ a.2.1 5))[k], [], .slice none 0 0, [], 0, m[n].2.2.st.cver + 1, 0, .slice none 0 0⟩ : Pt) [] nilA ⟨⟨fun h _ => rd_none 2 h, by simp, by show ((ownedZ τ (1 + pickZ a.2.1 5))[k]).length ≤ 1048576; omega, rfl, rfl⟩, fun h _ => rd_none 8 h, by simp, fun w hw => by cases hw⟩ (60 + acc.length) hok (by simp; omega))) ?_)))))))
   rintro v L' ⟨ue, ee, rfl, he, hue, rfl⟩
   refine .nil (.rfCast (x := u) (τ' := (zxT (partsZ τ zx (acc ++ [(⟨2, (ownedZ τ (1 + pickZ a.2.1 5))[k], [], .slice none 0 0, [], 0, m[n].2.2.st.cver + 1, 0, .slice none 0 0⟩ : Pt)])).1 zx)) (by repeat' constructor) (by have h1 := app_part (τ := (zxT (partsZ τ zx acc).1 z)) (e := ⟨zx, 0, 0, (⟨2, (ownedZ τ (1 + pickZ a.2.1 5))[k], [], .slice none 0 0, [], 0, m[n].2.2.st.cver + 1, 0, .slice none 0 0⟩ : Pt), []⟩) (.inl (by show (2 : Int) ≤ 4; decide)); rw [parts_snoc]; dsimp only; rw [part_zx'] at h1; exact h1.symm) (.blk_n (.then_n (.region (.m rfl (.q (.sub rfl rfl (by omega)) rfl (.an rfl (.ptCast (b := bT) (l' := ptC (⟨6, [], [], .slice none 0 0, [], (1 + pickZ a.2.1 5), 0, 0, (.slice a13_4 (acc ++ [(⟨2, (ownedZ τ (1 + pickZ a.2.1 5))[k], [], .slice none 0 0, [], 0, m[n].2.2.st.cver + 1, 0, .slice none 0 0⟩ : Pt)]).length c13_4)⟩ : Pt)) (by repeat' constructor) rfl ?_))))))))
   exact .rk ((k, acc ++ [(⟨2, (ownedZ τ (1 + pickZ a.2.1 5))[k], [], .slice none 0 0, [], 0, m[n].2.2.st.cver + 1, 0, .slice none 0 0⟩ : Pt)], zx, .slice a13_4 (acc ++ [(⟨2, (ownedZ τ (1 + pickZ a.2.1 5))[k], [], .slice none 0 0, [], 0, m[n].2.2.st.cver + 1, 0, .slice none 0 0⟩ : Pt)]).length c13_4)) (⟨hdel2, _, _, rfl⟩) (by dsimp only; omega) ⟨rfl, rfl, rfl, rfl, rfl, rfl, rfl, rfl, trivial⟩
  have hj0 : j = 0 := by omega
  subst hj0
  refine .exit (.then_e (.then_e (.blk_e (.then_n (.sr (.q (.loadAs (vs := ptC (⟨6, [], [], .slice none 0 0, [], (1 + pickZ a.2.1 5), 0, 0, (.slice aw acc.length cw)⟩ : Pt)) rfl ag_37 (by repeat' constructor) (by simp [ptC]) rfl) rfl (.oq (.storeA rfl rfl ?c108 sz_37 ?c111 ?c109 (nfz0 _ _)) ?_)))))))
  case c108 => exact pt_cells rfl rfl
  case c111 => rfl
  case c109 => simp [ptC]
  rintro v L' rfl
  refine .nt (.ret (.blk_r (.then_r (.add (p := aclsA acc) (fun h w hw => by obtain ⟨-, e1, e2, -⟩ := hdel.kinds w hw; rw [e1, e2]; exact rd_none 2 h) (.ptCast (b := b6) (l' := ptC (⟨6, [], [], .slice none 0 0, [], (1 + pickZ a.2.1 5), 0, 0, (.slice aw acc.length cw)⟩ : Pt)) (by repeat' constructor) rfl (.fold (p := txRd (⟨6, [], [], .slice none 0 0, [], (1 + pickZ a.2.1 5), 0, 0, (.slice aw acc.length cw)⟩ : Pt) acc) (by repeat' constructor) (fun _ hp => txRd_of (T := 37) (x := (⟨6, [], [], .slice none 0 0, [], (1 + pickZ a.2.1 5), 0, 0, (.slice aw acc.length cw)⟩ : Pt)) rfl rfl hp) ?_))))))
  exact .d1 rfl (.cellA rfl ag_37 (by repeat' constructor) (by simp [ptC]) rfl) ⟨(⟨6, [], [], .slice none 0 0, [], (1 + pickZ a.2.1 5), 0, 0, (.slice aw acc.length cw)⟩ : Pt), acc, rfl, .close rfl (DelI.closeH (x := (⟨6, [], [], .slice none 0 0, [], (1 + pickZ a.2.1 5), 0, 0, (.slice aw acc.length cw)⟩ : Pt)) hdel ⟨by show 1 ≤ (1 + pickZ a.2.1 5); omega, by show (1 + pickZ a.2.1 5) ≤ 5; omega⟩) hdel.parts rfl rfl (by have := hdel.len; omega) rfl, ⟨rfl, rfl, (fun w hw => by obtain ⟨-, e1, -, e2⟩ := hdel.kinds w hw; rw [e1, e2]; exact ⟨rfl, rfl⟩)⟩, rfl⟩
 refine .sr (.ui rfl rfl rfl (.an rfl (.condD rfl (fun h90 => ?_) (fun h90 => ?_))))
 ·refine .sr (.q (.to (v' := .agg (ptC (⟨7, [], [], .slice none 0 0, [], 0, 0, 0, (.slice none 0 0)⟩ : Pt)).toArray) (.build (us := [(0, _)]) fl_37 ze_37 rfl rfl (by simp [isCell])) rfl) rfl (.oq (.allocA ze_37) ?_))
  rintro v L' ⟨bT, rfl, rfl⟩
  refine .oq (.storeA rfl rfl ?c117 sz_37 ?c120 ?c118 (nfz0 _ _)) ?_
  case c117 => exact pt_cells rfl rfl
  case c120 => rfl
  case c118 => simp [ptC]
  rintro v L' rfl
  refine .nil (.ptCast (b := bT) (l' := ptC (⟨7, [], [], .slice none 0 0, [], 0, 0, 0, (.slice none 0 0)⟩ : Pt)) (by repeat' constructor) rfl (.then_n (.sm rfl (.oq (.c Tryz.func81 [_] (rclone_spec x τ 60 hinv.ok (by omega))) ?_))))
  rintro v L' ⟨u, rfl, rfl⟩
  refine .an rfl (.seq (.seq (.add (slR_nil 37 8) (.add (p := aclsA []) aclsA_nil (.region (.an rfl (.block (.rfCast (x := u) (τ' := (zxT (partsZ τ zx []).1 τ.zx)) (by repeat' constructor) (rfl) (.loopK (ι := Nat × (List Pt) × Int × Value) (fun q E => (15, vint q.1) :: E) (fun q => [ptc bT (ptC (⟨7, [], [], .slice none 0 0, [], 0, 0, 0, q.2.2.2⟩ : Pt)) 37, refR u (zxT (partsZ τ zx q.2.1).1 q.2.2.1), slR 37 8 q.2.2.2 q.2.1.length (q.2.1.flatMap ptC), aclsA q.2.1]) (fun q => (q.1 ≤ ss.length ∧ q.1 ≤ 6 ∧ q.2.1.length ≤ q.1) ∧ PartsH τ zx q.2.1 K ∧ HInv (partsZ τ zx q.2.1).1 (K + q.2.1.length) ∧ (∀ y ∈ q.2.1, isCell y.aclV = true ∧ isCell y.subsV = true) ∧ ∃ a c, q.2.2.2 = .slice a q.2.1.length c) (fun q => ss.length - q.1) (0, [], τ.zx, .slice none 0 0) (ts := [0, 2, 4, 6, 13, 14]) (.cons rfl (.cons rfl (.cons rfl (.cons rfl (.cons rfl (.cons rfl (.nil))))))) (⟨⟨Nat.zero_le _, Nat.zero_le _, Nat.le_refl _⟩, (fun i hi => by simp at hi), hinv.more (by simp), (fun w hw => by cases hw), none, 0, rfl⟩) ⟨rfl, rfl, rfl, rfl, rfl, rfl, rfl, trivial⟩ (by repeat' constructor) ?_)))))))))
  rintro ⟨i, acc, z, w⟩ ⟨⟨hi, hi6, hai⟩, hps, hiv, hcs, aw, cw, hw⟩
  dsimp only
  dsimp only at hi hi6 hai hps hiv hcs hw
  subst hw
  have hivz := hiv.zx z
  refine .seq (.sm rfl (.u (.fieldAddr rfl fo_82_4) (.q (.as (v' := .slice ab ss.length cb) (by exact eab) (.ld rfl ag_22)) rfl (.q (.slen rfl Tryz.underlying22 rfl) rfl (.ui rfl rfl rfl (.m rfl (.dec (t := 100) rfl (fun h20_100 => ?_) (fun h20_100 => ?_))))))))
  ·refine .kDT (t := 99) rfl h20_100 (.grun (t := 100) rfl rfl rfl (.m rfl (.grun (t := 100) rfl rfl rfl (.ui rfl rfl rfl (.u (.pickT rfl rfl) (.nt (.condD rfl (fun h103 => ?_) (fun h103 => ?_))))))))
   ·have hi2 : i < ss.length := by omega
    refine .rdShape (p := q) hrd (by repeat' constructor) (by omega) fun bb ob e1 => ?_
    subst e1
    obtain ⟨hio, hdo⟩ := hsm.ok _ (List.getElem_mem hi2)
    refine .sk (.seq (.block (.sm rfl (.u (.fieldAddr rfl fo_82_4) (.q (.as (v' := .slice (some ⟨bb, ob, none⟩) ss.length cb) (by exact eab) (.ld rfl ag_22)) rfl (.m rfl (.q (.indexAddr rfl rfl el_22 (by omega)) rfl (.q (.loadRdA (sz := 5) (j := i * 5) (k := 5) (p := q) (vs := ac0C ss[i]) rfl ag_82 (by repeat' constructor) hrd (by simp) (by omega) (by omega) (flatMap_at (f := ac0C) (sz := 5) (fun _ _ => rfl) (by omega))) rfl (.oq (.c Tryz.func84 [_, _, _] (part7_spec u (zxT (partsZ τ zx acc).1 z) ss[i] (K + acc.length) hivz (by omega) hio hdo)) ?_)))))))))
    rintro v L' ⟨y, b, rfl, hP, hB, rfl⟩
    refine .m rfl (.u (.extract rfl rfl) (.u (.extract rfl rfl) (.oq (.allocA ze_37) ?_)))
    rintro v L' ⟨b16, rfl, rfl⟩
    refine .oq (.storeA rfl rfl ?c145 sz_37 ?c148 ?c146 (nfz0 _ _)) ?_
    case c145 => exact pt_cells hB.cell (by rw [hB.subs]; rfl)
    case c148 => rfl
    case c146 => simp [ptC]
    rintro v L' rfl
    refine .a rfl (.nil (.ptCast (b := b16) (l' := ptC y) (by repeat' constructor) rfl ?_))
    have htx : TxA (rdO 2 y.aclV y.acl.length (y.acl.flatMap acC)) y [] := ⟨⟨fun h hp => hp, by have := hB.acl; omega, by have := hB.path; omega, by rw [hB.subs]; rfl, hB.cell⟩, fun h _ => by rw [hB.subs]; exact rd_none 8 h, by simp, fun w hw => by cases hw⟩
    refine .then_n (.sm rfl (.m rfl (.bool (t := 117) rfl (fun h23_117 => ?_) (fun h23_117 => ?_))))
    ·have hb1 : b = true := h23_117
     have hPH := (hP hb1).congr (υ := (partsZ τ zx acc).1) rfl (by rfl)
     refine .kB (t := 115) rfl h23_117 (.kB (t := 17) rfl h23_117 (.kB (t := 116) rfl h23_117 (.grun (t := 117) rfl rfl rfl (.m rfl (.grun (t := 117) rfl rfl rfl (.m rfl (.grun (t := 117) rfl rfl rfl (.q (.loadAs (vs := ptC y) rfl ag_37 (by repeat' constructor) (by simp [ptC]) rfl) rfl (.grun (t := 117) rfl rfl rfl (.q (.buildN (pl := [(0, 1), (1, 1), (2, 1), (3, 8)]) (us := [(0, vint zx), (3, .agg (ptC y).toArray)]) (cells := [vint zx, vint 0, vint 0] ++ ptC y) Tryz.underlying39 (by kernel_rfl) ze_39 rfl (fill_entry _ _ _ _ _ _ _ _ _)) rfl (.grun (t := 117) rfl rfl rfl (.oq (.call Tryz.func38 rfl rfl (vs := [_, _]) rfl (rsound_spec u (zxT (partsZ τ zx acc).1 z) zx 0 0 y [] _ htx 60 hivz.ok (by simp))) ?_))))))))))))
     rintro v L' ⟨rfl, rfl⟩
     refine .u (.pickT rfl rfl) (.nt (.condB rfl (fun h123 => ?_) (fun h123 => ?_)))
     ·have hsd : soundZ (partsZ τ zx acc).1 zx y [] = true := (sound_zx hPH.kind.2).symm.trans h123
      have hiv2 : HInv (partsZ τ zx (acc ++ [y])).1 (K + (acc ++ [y]).length) := by rw [parts_snoc, List.length_append]; exact (hiv.part' hsd hPH).more (by simp; omega)
      have hps2 := hps.snoc hPH
      refine .sr (.u (.fieldAddr rfl fo_37_7) (.u (.ld rfl ag_35) (.q (.loadAs (vs := ptC y) rfl ag_37 (by repeat' constructor) (by simp [ptC]) rfl) rfl (.oq (.buildSlice (vs := [_]) el_35 ze_37 rfl rfl rfl rfl (by first | (simp [Value.cells]; done) | (intro v hv; simp only [List.mem_cons, List.not_mem_nil, or_false] at hv; (repeat (first | (subst hv; rfl) | (rcases hv with hv | hv; (subst hv; rfl)))))) (by decide)) ?_))))
      rintro v L' ⟨b24, rfl, rfl⟩
      refine .oq (.append1 rfl rfl rfl el_35 ze_37 rfl rfl ?c161 ?c162 (Nat.le_refl _) ?c163 (by decide)) ?_
      case c161 => simp only [List.map_cons, List.map_nil, List.flatten_cons, List.flatten_nil, List.append_nil]; exact pt_cells hB.cell (by rw [hB.subs]; rfl)
      case c162 => rfl
      case c163 => first | omega | (simp; omega)
      rintro v L' ⟨⟨a24_4, c24_4, rfl⟩, rfl⟩
      refine .u (.fieldAddr rfl fo_37_7) (.oq (.store rfl rfl rfl sz_35 ?c167 (nfz0 _ _)) ?_)
      case c167 => simp [ptC]
      rintro v L' rfl
      refine .nil (.slCast (T := 37) (sz := 8) (m' := (acc ++ [y]).length) (xs' := (acc ++ [y]).flatMap ptC) (by repeat' constructor) (by rw [List.length_append]; rfl) (by rw [List.flatMap_append]; simp; rfl) ?_)
      rw [show acc.length + 1 = (acc ++ [y]).length by rw [List.length_append]; rfl]
      refine .then_n (.region (.m rfl (.m rfl (.q (.loadAs (vs := ptC y) rfl ag_37 (by repeat' constructor) (by simp [ptC]) rfl) rfl (.q (.buildN (pl := [(0, 1), (1, 1), (2, 1), (3, 8)]) (us := [(0, vint zx), (3, .agg (ptC y).toArray)]) (cells := [vint zx, vint 0, vint 0] ++ ptC y) Tryz.underlying39 (by kernel_rfl) ze_39 rfl (fill_entry _ _ _ _ _ _ _ _ _)) rfl (.oq (.call Tryz.func30 rfl rfl (vs := [_, _]) rfl (rapply_spec u (zxT (partsZ τ zx acc).1 z) zx 0 0 y [] _ htx 60 hivz.ok (by simp))) ?_))))))
      rintro v L' ⟨ue, ee, rfl, he, hue, rfl⟩
      refine .nil (.rfCast (x := u) (τ' := (zxT (partsZ τ zx (acc ++ [y])).1 zx)) (by repeat' constructor) (by have h1 := app_part (τ := (zxT (partsZ τ zx acc).1 z)) (e := ⟨zx, 0, 0, y, []⟩) (.inl hPH.kind.2); rw [parts_snoc]; dsimp only; rw [part_zx'] at h1; exact h1.symm) (.fold (p := aclsA (acc ++ [y])) (by repeat' constructor) (fun _ hp => aclsA_snoc hp) (.blk_n (.then_n (.region (.m rfl (.q (.add rfl rfl (by omega)) rfl (.an rfl (.ptCast (b := bT) (l' := ptC (⟨7, [], [], .slice none 0 0, [], 0, 0, 0, (.slice a24_4 (acc ++ [y]).length c24_4)⟩ : Pt)) (by repeat' constructor) rfl ?_)))))))))
      exact .rk ((i + 1, acc ++ [y], zx, .slice a24_4 (acc ++ [y]).length c24_4)) (⟨⟨by dsimp only; omega, by dsimp only; omega, by dsimp only; rw [List.length_append]; simp; omega⟩, hps2, hiv2, (fun w hw => by rcases List.mem_append.1 hw with hw | hw; exact hcs w hw; rw [List.mem_singleton] at hw; subst hw; exact ⟨hB.cell, by rw [hB.subs]; rfl⟩), _, _, rfl⟩) (by dsimp only; omega) ⟨rfl, rfl, rfl, rfl, rfl, rfl, rfl, trivial⟩
     refine .skip (.blk_n (.then_n (.region (.m rfl (.q (.add rfl rfl (by omega)) rfl (.an rfl ?_))))))
     exact .rk ((i + 1, acc, z, .slice aw acc.length cw)) (⟨⟨by dsimp only; omega, by dsimp only; omega, by dsimp only; omega⟩, hps, hiv, hcs, _, _, rfl⟩) (by dsimp only; omega) ⟨rfl, rfl, rfl, rfl, rfl, rfl, rfl, trivial⟩
    refine .kB (t := 115) rfl h23_117 (.kB (t := 17) rfl h23_117 (.kB (t := 116) rfl h23_117 (.gk (.gk (.gk (.gk (.gk (.u (.pickF rfl rfl) (.nt (.condF rfl (.skip (.blk_n (.then_n (.region (.m rfl (.q (.add rfl rfl (by omega)) rfl (.an rfl ?_)))))))))))))))))
    exact .rk ((i + 1, acc, z, .slice aw acc.length cw)) (⟨⟨by dsimp only; omega, by dsimp only; omega, by dsimp only; omega⟩, hps, hiv, hcs, _, _, rfl⟩) (by dsimp only; omega) ⟨rfl, rfl, rfl, rfl, rfl, rfl, rfl, trivial⟩
   refine .exit (.then_e (.then_e (.blk_e (.then_n (.sr (.q (.loadAs (vs := ptC (⟨7, [], [], .slice none 0 0, [], 0, 0, 0, (.slice aw acc.length cw)⟩ : Pt)) rfl ag_37 (by repeat' constructor) (by simp [ptC]) rfl) rfl (.oq (.storeA rfl rfl ?c184 sz_37 ?c187 ?c185 (nfz0 _ _)) ?_)))))))
   case c184 => exact pt_cells rfl rfl
   case c187 => rfl
   case c185 => simp [ptC]
   rintro v L' rfl
   refine .nt (.ret (.blk_r (.then_r (.ptCast (b := b6) (l' := ptC (⟨7, [], [], .slice none 0 0, [], 0, 0, 0, (.slice aw acc.length cw)⟩ : Pt)) (by repeat' constructor) rfl (.fold (p := txRd (⟨7, [], [], .slice none 0 0, [], 0, 0, 0, (.slice aw acc.length cw)⟩ : Pt) acc) (by repeat' constructor) (fun _ hp => txRd_of (T := 37) (x := (⟨7, [], [], .slice none 0 0, [], 0, 0, 0, (.slice aw acc.length cw)⟩ : Pt)) rfl rfl hp) ?_)))))
   exact .d1 rfl (.cellA rfl ag_37 (by repeat' constructor) (by simp [ptC]) rfl) ⟨(⟨7, [], [], .slice none 0 0, [], 0, 0, 0, (.slice aw acc.length cw)⟩ : Pt), acc, rfl, .multi rfl hps rfl rfl (by omega) rfl, ⟨rfl, rfl, hcs⟩, rfl⟩
  refine .kDF (t := 99) rfl h20_100 (.gk (.gk (.u (.pickF rfl rfl) (.nt (.condF rfl (.exit (.then_e (.then_e (.blk_e (.then_n (.sr (.q (.loadAs (vs := ptC (⟨7, [], [], .slice none 0 0, [], 0, 0, 0, (.slice aw acc.length cw)⟩ : Pt)) rfl ag_37 (by repeat' constructor) (by simp [ptC]) rfl) rfl (.oq (.storeA rfl rfl ?c191 sz_37 ?c194 ?c192 (nfz0 _ _)) ?_)))))))))))))
  case c191 => exact pt_cells rfl rfl
  case c194 => rfl
  case c192 => simp [ptC]
  rintro v L' rfl
  refine .nt (.ret (.blk_r (.then_r (.ptCast (b := b6) (l' := ptC (⟨7, [], [], .slice none 0 0, [], 0, 0, 0, (.slice aw acc.length cw)⟩ : Pt)) (by repeat' constructor) rfl (.fold (p := txRd (⟨7, [], [], .slice none 0 0, [], 0, 0, 0, (.slice aw acc.length cw)⟩ : Pt) acc) (by repeat' constructor) (fun _ hp => txRd_of (T := 37) (x := (⟨7, [], [], .slice none 0 0, [], 0, 0, 0, (.slice aw acc.length cw)⟩ : Pt)) rfl rfl hp) ?_)))))
  exact .d1 rfl (.cellA rfl ag_37 (by repeat' constructor) (by simp [ptC]) rfl) ⟨(⟨7, [], [], .slice none 0 0, [], 0, 0, 0, (.slice aw acc.length cw)⟩ : Pt), acc, rfl, .multi rfl hps rfl rfl (by omega) rfl, ⟨rfl, rfl, hcs⟩, rfl⟩
 refine .sr (.ui rfl rfl rfl (.an rfl (.condD rfl (fun h136 => ?_) (fun h136 => ?_))))
 ·refine .sr (.u (.fieldAddr rfl fo_82_1) (.u (.ld rfl ag_3) (.oq (.call Tryz.func35 rfl rfl (vs := [_, _]) rfl (pick7_spec _ _ ha.h2 (by decide))) ?_)))
  rintro v L' ⟨rfl, rfl⟩
  refine .q (.to (v' := .agg (ptC (⟨8, [], [], .slice none 0 0, [], 0, -1, pickZ a.2.1 99, .slice none 0 0⟩ : Pt)).toArray) (.build (us := [(0, _), (6, _), (5, _)]) fl_37 ze_37 rfl rfl (by simp [isCell])) rfl) rfl (.oq (.storeA rfl rfl ?c202 sz_37 ?c205 ?c203 (nfz0 _ _)) ?_)
  case c202 => exact pt_cells rfl rfl
  case c205 => rfl
  case c203 => simp [ptC]
  rintro v L' rfl
  refine .nt (.ret (.blk_r (.then_r (.ptCast (b := b6) (l' := ptC (⟨8, [], [], .slice none 0 0, [], 0, -1, pickZ a.2.1 99, .slice none 0 0⟩ : Pt)) (by repeat' constructor) rfl (.add (p := txRd (⟨8, [], [], .slice none 0 0, [], 0, -1, pickZ a.2.1 99, .slice none 0 0⟩ : Pt) []) (txRd_none rfl rfl rfl) ?_)))))
  exact .d1 rfl (.cellA rfl ag_37 (by repeat' constructor) (by simp [ptC]) rfl) ⟨(⟨8, [], [], .slice none 0 0, [], 0, -1, pickZ a.2.1 99, .slice none 0 0⟩ : Pt), [], rfl, .error rfl rfl ⟨by show 0 ≤ pickZ a.2.1 99; omega, by show pickZ a.2.1 99 < 99; omega⟩ rfl rfl rfl rfl, ⟨rfl, rfl, (fun w hw => by cases hw)⟩, rfl⟩
 refine .sr (.ui rfl rfl rfl (.an rfl (.condD rfl (fun h142 => ?_) (fun h142 => ?_))))
 ·refine .sr (.q (.to (v' := .agg (ptC (⟨0, [], [], .slice none 0 0, [], 0, 0, 0, .slice none 0 0⟩ : Pt)).toArray) (.build (us := [(0, _)]) fl_37 ze_37 rfl rfl (by simp [isCell])) rfl) rfl (.oq (.storeA rfl rfl ?c209 sz_37 ?c212 ?c210 (nfz0 _ _)) ?_))
  case c209 => exact pt_cells rfl rfl
  case c212 => rfl
  case c210 => simp [ptC]
  rintro v L' rfl
  refine .nt (.ret (.blk_r (.then_r (.ptCast (b := b6) (l' := ptC (⟨0, [], [], .slice none 0 0, [], 0, 0, 0, .slice none 0 0⟩ : Pt)) (by repeat' constructor) rfl (.add (p := txRd (⟨0, [], [], .slice none 0 0, [], 0, 0, 0, .slice none 0 0⟩ : Pt) []) (txRd_none rfl rfl rfl) ?_)))))
  exact .d1 rfl (.cellA rfl ag_37 (by repeat' constructor) (by simp [ptC]) rfl) ⟨(⟨0, [], [], .slice none 0 0, [], 0, 0, 0, .slice none 0 0⟩ : Pt), [], rfl, .part rfl ⟨⟨by show (0 : Int) ≤ 0; decide, by show (0 : Int) ≤ 4; decide⟩, by simp, by simp, .inl rfl, .inl rfl, ⟨by show (0 : Int) ≤ 0; decide, by show (0 : Int) ≤ K + 1; have := hinv.zx0; omega⟩, rfl, (fun e => by cases e)⟩, ⟨rfl, rfl, (fun w hw => by cases hw)⟩, rfl⟩
 refine .skip (.blk_n (.then_n (.sm rfl (.q (.loadAs (vs := ac0C a) rfl ag_82 (by repeat' constructor) (by simp [ac0C]) rfl) rfl (.oq (.c Tryz.func84 [_, _, _] (part7_spec x τ a K hinv (by omega) ha hd)) ?_)))))
 rintro v L' ⟨y, b, rfl, hP, hB, rfl⟩
 refine .m rfl (.u (.extract rfl rfl) (.u (.extract rfl rfl) (.oq (.allocA ze_37) ?_)))
 rintro v L' ⟨b18, rfl, rfl⟩
 refine .oq (.storeA rfl rfl ?c222 sz_37 ?c225 ?c223 (nfz0 _ _)) ?_
 case c222 => exact pt_cells hB.cell (by rw [hB.subs]; rfl)
 case c225 => rfl
 case c223 => simp [ptC]
 rintro v L' rfl
 refine .a rfl (.nil (.ptCast (b := b18) (l' := ptC y) (by repeat' constructor) rfl (.then_n (.seq (.sm rfl (.u (.not rfl) (.nt (.condB rfl (fun h152 => ?_) (fun h152 => ?_)))))))))
 ·refine .sr (.q (.to (v' := .agg (ptC (⟨0, [], [], .slice none 0 0, [], 0, 0, 0, .slice none 0 0⟩ : Pt)).toArray) (.build (us := []) fl_37 ze_37 rfl rfl (by simp [isCell])) rfl) rfl (.oq (.storeA rfl rfl ?c229 sz_37 ?c232 ?c230 (nfz0 _ _)) ?_))
  case c229 => exact pt_cells rfl rfl
  case c232 => rfl
  case c230 => simp [ptC]
  rintro v L' rfl
  refine .nt (.rt (.ptCast (b := b6) (l' := ptC (⟨0, [], [], .slice none 0 0, [], 0, 0, 0, .slice none 0 0⟩ : Pt)) (by repeat' constructor) rfl (.add (p := txRd (⟨0, [], [], .slice none 0 0, [], 0, 0, 0, .slice none 0 0⟩ : Pt) []) (txRd_none rfl rfl rfl) ?_)))
  exact .d1 rfl (.cellA rfl ag_37 (by repeat' constructor) (by simp [ptC]) rfl) ⟨(⟨0, [], [], .slice none 0 0, [], 0, 0, 0, .slice none 0 0⟩ : Pt), [], rfl, .part rfl ⟨⟨by show (0 : Int) ≤ 0; decide, by show (0 : Int) ≤ 4; decide⟩, by simp, by simp, .inl rfl, .inl rfl, ⟨by show (0 : Int) ≤ 0; decide, by show (0 : Int) ≤ K + 1; have := hinv.zx0; omega⟩, rfl, (fun e => by cases e)⟩, ⟨rfl, rfl, (fun w hw => by cases hw)⟩, rfl⟩
 refine .sk (.sr (.q (.loadAs (vs := ptC y) rfl ag_37 (by repeat' constructor) (by simp [ptC]) rfl) rfl (.oq (.storeA rfl rfl ?c235 sz_37 ?c238 ?c236 (nfz0 _ _)) ?_)))
 case c235 => exact pt_cells hB.cell (by rw [hB.subs]; rfl)
 case c238 => rfl
 case c236 => simp [ptC]
 rintro v L' rfl
 refine .nt (.ret (.ptCast (b := b6) (l' := ptC y) (by repeat' constructor) rfl (.fold (p := txRd y []) (L := _) (by repeat' constructor) (fun _ hp => txRd_one hB.subs hp) ?_)))
 exact .d1 rfl (.cellA rfl ag_37 (by repeat' constructor) (by simp [ptC]) rfl) ⟨y, [], rfl, .part rfl (hP (by simpa using h152)), ⟨hB.cell, by rw [hB.subs]; rfl, (fun w hw => by cases hw)⟩, rfl⟩
theorem fill_entry4 (zx ss xi : Int) (s0 s1 s2 s3 s4 s5 s6 s7 : Value) : Instr.fill (fun i => [(0, 1), (1, 1), (2, 1), (3, 8)].toArray[i]?) ([.int .i64 0, .int .i64 0, .int .i64 0, .int .i64 0, .string (bs []), .string (bs []), .slice none 0 0, .int .i64 0, .int .i64 0, .int .i64 0, .slice none 0 0] : List Value).toArray [(0, vint zx), (1, vint ss), (2, vint xi), (3, .agg ([s0, s1, s2, s3, s4, s5, s6, s7] : List Value).toArray)] = some (([vint zx, vint ss, vint xi] ++ [s0, s1, s2, s3, s4, s5, s6, s7] : List Value).toArray) := by kernel_rfl
theorem en_cells {e : En} (h : TxC e.x e.subs) : ∀ v ∈ enC e, isCell v = true := by
 intro v hv
 unfold enC at hv
 rcases List.mem_append.1 hv with hv | hv
 ·simp only [List.mem_cons, List.not_mem_nil, or_false] at hv
  rcases hv with rfl | rfl | rfl <;> rfl
 ·exact pt_cells h.1 h.2.1 v hv
set_option maxHeartbeats 1000000 in
theorem history7_spec (v : Value) (xs : List Ac0) (z0 : Int) (p : HP) (hx : Acts1 p v xs) (hz : 0 ≤ z0 ∧ z0 ≤ 2199023255552) : Fn Tryz.prog 10 #[v, vint z0] [p] fun v L => ∃ (es : List En) (τ : Tr) (x : Nat) (u : Value), v = .tuple #[u, vptr x] ∧ Hist z0 es τ ∧ (es.length ≤ 150 ∧ ∃ a c, u = .slice a es.length c) ∧ L = [p, refR x τ, slR 39 11 u es.length (es.flatMap enC), ensA es] := by
 refine Fn.intro Tryz.func10 rfl rfl fun F W => ?_
 refine .rdAny (p := p) hx.own.cells (by repeat' constructor) fun av cv ev0 _ => ?_
 subst ev0
 have hrd := hx.own.cells
 have hlen := hx.own.len
 refine .sr (.a rfl (.an rfl (.sr (.oq (.c Tryz.func34 [] (rfnew_spec)) ?_))))
 rintro v L' ⟨x, rfl, rfl⟩
 refine .an rfl (.seq (.add (slR_nil 39 11) (.add (p := ensA []) (fun h e he => by cases he) (.region (.an rfl (.seq (.sr (.an rfl (.block (.loopK (ι := Nat × (List En) × Tr × Value) (fun q E => (8, vint q.1) :: (7, q.2.2.2) :: E) (fun q => [refR x q.2.2.1, slR 39 11 q.2.2.2 q.2.1.length (q.2.1.flatMap enC), ensA q.2.1]) (fun q => (q.1 ≤ xs.length ∧ q.1 ≤ 150 ∧ q.2.1.length ≤ q.1) ∧ Hist z0 q.2.1 q.2.2.1 ∧ ∃ a c, q.2.2.2 = .slice a q.2.1.length c) (fun q => xs.length - q.1) (0, [], newT, .slice none 0 0) (ts := [0, 1, 4, 5, 6]) (.cons rfl (.cons rfl (.cons rfl (.cons rfl (.cons rfl (.nil)))))) (⟨⟨Nat.zero_le _, Nat.zero_le _, Nat.le_refl _⟩, .nil, none, 0, rfl⟩) ⟨rfl, rfl, rfl, rfl, rfl, rfl, rfl, trivial⟩ (by repeat' constructor) ?_))))))))))
 rintro ⟨i, es, τ, u⟩ ⟨⟨hi, hi150, hei⟩, hh, au, cu, hu⟩
 dsimp only
 dsimp only at hi hi150 hei hh hu
 subst hu
 have hinv := hh.inv
 have hfew := hinv.ok.few
 refine .seq (.sm rfl (.m rfl (.q (.slen rfl Tryz.underlying22 rfl) rfl (.ui rfl rfl rfl (.m rfl (.dec (t := 16) rfl (fun h4_16 => ?_) (fun h4_16 => ?_)))))))
 ·refine .kDT (t := 15) rfl h4_16 (.grun (t := 16) rfl rfl rfl (.m rfl (.grun (t := 16) rfl rfl rfl (.ui rfl rfl rfl (.u (.pickT rfl rfl) (.nt (.condD rfl (fun h19 => ?_) (fun h19 => ?_))))))))
  ·have hi2 : i < xs.length := by omega
   refine .rdShape (p := p) hrd (by repeat' constructor) (by omega) fun bv ov e1 => ?_
   subst e1
   obtain ⟨hk1, hk2, hk3, hk4⟩ := hx.own.ok _ (List.getElem_mem hi2)
   obtain ⟨ss, hss, hcs⟩ := hx.subs _ (List.getElem_mem hi2)
   have hp9 := pickZ_range xs[i].2.1 (n := 9) (by decide)
   refine .sk (.seq (.block (.seq (.draw [16, 21, 23, 24] [[0, 1, 2, 3, 4, 5, 6, 7, 8, 9, 10, 11, 12, 13, 14, 15, 17, 18, 19, 20, 16, 21, 22, 23], [24]] mixed (by kernel_rfl) (.go [p] (by repeat' constructor) (.k rfl (.move rfl) (.k rfl (.move rfl) (.k rfl (.slen rfl Tryz.underlying24 rfl) (.k rfl (.add rfl rfl (by omega)) (.k rfl (.move rfl) (.k rfl (.move rfl) (.k rfl (.indexAddr rfl rfl el_22 (by omega)) (.k rfl (.fieldAddr rfl fo_82_1) (.k rfl (.loadRd (sz := 5) (j := i * 5 + 1) (p := p) rfl ag_3 (by repeat' constructor) hrd (by omega) ((ac0_cell (l := xs) (i := i) (k := 1) (by omega) (by decide)).trans rfl)) (.m rfl (by kernel_rfl) (.call Tryz.func35 rfl rfl (vs := [_, _]) rfl (pick7_spec _ _ hk2 (by decide))) (by repeat' constructor) ?_)))))))))))))))
   refine D.k rfl (.move rfl) (.k rfl (.move rfl) (.k rfl (.move rfl) (.k rfl (.move rfl) (.k rfl (.indexAddr rfl rfl el_22 (by omega)) (.k rfl (.loadRdA (sz := 5) (j := i * 5) (k := 5) (p := p) (vs := ac0C xs[i]) rfl ag_82 (by repeat' constructor) hrd (by simp) (by omega) (by omega) (flatMap_at (f := ac0C) (sz := 5) (fun _ _ => rfl) (by omega))) (.k rfl (.move rfl) (.k rfl (.move rfl) (.k rfl (.slen rfl Tryz.underlying24 rfl) (.k rfl (.add rfl rfl (by omega)) (.h2R (k := 23) rfl rfl (by kernel_rfl) rfl (SpecR.ro [p] (.c Tryz.func37 [_] (small7_ro xs[i] p ss hss hcs (by omega))) (by repeat' constructor)) (by repeat' constructor) (SpecR.own (.allocA ze_39)) (by repeat' constructor) ?_ ?_))))))))))
   ·rintro v L' ⟨uv, us, rfl, hsm, rfl⟩
    refine D.h2 (k := 23) rfl rfl (by kernel_rfl) rfl (.call Tryz.func36 rfl rfl (vs := [_, _, _]) rfl (txn7_spec x τ (xs[i].1, (xs[i].2.1, (xs[i].2.2.1, (xs[i].2.2.2.1.take 100, uv)))) _ us (z0 + es.length) (60 * es.length) hinv (by omega) ⟨hk1, hk2, hk3⟩ (by rw [List.length_take]; omega) (acts0_own hsm) hsm)) (by repeat' constructor) (.allocA ze_39) (by repeat' constructor) ?_ ?_
    ·rintro v L' ⟨y, subs, rfl, hsh, hcc, rfl⟩
     refine D.k rfl (.buildN (pl := [(0, 1), (1, 1), (2, 1), (3, 8)]) (us := [(0, vint (z0 + es.length)), (1, vint (pickZ xs[i].2.1 9)), (2, vint i), (3, .agg (ptC y).toArray)]) (cells := enC (⟨z0 + es.length, pickZ xs[i].2.1 9, i, y, subs⟩ : En)) Tryz.underlying39 (by kernel_rfl) ze_39 rfl (fill_entry4 _ _ _ _ _ _ _ _ _ _ _)) (.hh rfl (.allocA ze_39) ?_)
     rintro v L' ⟨b9, rfl, rfl⟩
     refine D.ph (.g0 (.hh rfl (.storeA rfl rfl ?c43 sz_39 ?c46 ?c44 (nfz0 _ _)) ?_))
     case c43 => exact en_cells (e := (⟨z0 + es.length, pickZ xs[i].2.1 9, i, y, subs⟩ : En)) hcc
     case c46 => rfl
     case c44 => simp [enC, ptC]
     rintro v L' rfl
     refine D.ph (.fin (.ptCast (b := b9) (l' := enC (⟨z0 + es.length, pickZ xs[i].2.1 9, i, y, subs⟩ : En)) (by repeat' constructor) rfl ?_))
     have htx := ShapeH.tx (e := (⟨z0 + es.length, pickZ xs[i].2.1 9, i, y, subs⟩ : En)) hsh hcc (p := txRd y subs) (fun h hp => hp)
     have hfs := (ShapeH.sz (e := (⟨z0 + es.length, pickZ xs[i].2.1 9, i, y, subs⟩ : En)) hsh).few
     have hfs2 : subs.length ≤ 60 := hfs
     refine .then_n (.sm rfl (.q (.loadAs (vs := enC (⟨z0 + es.length, pickZ xs[i].2.1 9, i, y, subs⟩ : En)) rfl ag_39 (by repeat' constructor) (by simp [enC, ptC]) rfl) rfl (.oq (.call Tryz.func38 rfl rfl (vs := [_, _]) rfl (rsound_spec x τ (z0 + es.length) (pickZ xs[i].2.1 9) i y subs _ htx 60 hinv.ok (by omega))) ?_)))
     rintro v L' ⟨rfl, rfl⟩
     refine .an rfl (.seq (.seq (.rtOpen (x := x) (τ := τ) (by repeat' constructor) fun an cn as1 cs l hl => ?_)))
     have hll := nds_len hl
     refine .region (.m rfl (.u (.not rfl) (.m rfl (.bool (t := 50) rfl (fun h8_50 => ?_) (fun h8_50 => ?_)))))
     ·refine .kB (t := 49) rfl h8_50 (.gk (.gk (.gk (.gk (.gk (.gk (.gk (.gskipU (t := 57) rfl rfl rfl (.gskipU (t := 57) rfl rfl rfl (.gskipU (t := 57) rfl rfl rfl (.gskipU (t := 57) rfl rfl rfl (.gskipU (t := 57) rfl rfl rfl (.gskipU (t := 62) rfl rfl rfl (.gskipU (t := 62) rfl rfl rfl (.gskipU (t := 62) rfl rfl rfl (.gskipU (t := 62) rfl rfl rfl (.gskipU (t := 57) rfl rfl rfl (.gk (.u (.pickT rfl rfl) (.nil (.rtFold (x := x) (τ := τ) (l := l) hl (by repeat' constructor) rfl rfl rfl rfl rfl (.then_n (.condT rfl (.exit (.then_e (.blk_e (.then_n (.region (.m rfl (.q (.add rfl rfl (by omega)) rfl (.an rfl ?_)))))))))))))))))))))))))))))))
      exact .rk ((i + 1, es, τ, .slice au es.length cu)) (⟨⟨by dsimp only; omega, by dsimp only; omega, by dsimp only; omega⟩, hh, _, _, rfl⟩) (by dsimp only; omega) ⟨rfl, rfl, rfl, rfl, rfl, rfl, rfl, trivial⟩
     refine .kB (t := 49) rfl h8_50 (.grun (t := 50) rfl rfl rfl (.m rfl (.grun (t := 50) rfl rfl rfl (.u (.nilp rfl) (.grun (t := 50) rfl rfl rfl (.u (.fieldAddr rfl fo_87_0) (.grun (t := 50) rfl rfl rfl (.u (.ld rfl ag_73) (.grun (t := 50) rfl rfl rfl (.q (.slen rfl Tryz.underlying73 rfl) rfl (.grun (t := 50) rfl rfl rfl (.q (.as (v' := .bool false) (by exact congrArg Value.bool (decide_eq_false (by omega))) (.int rfl rfl rfl)) rfl (.grun (t := 50) rfl rfl rfl (.m rfl (.gk (.gk (.gk (.gk (.gk (.gskipU (t := 62) rfl rfl rfl (.gskipU (t := 62) rfl rfl rfl (.gskipU (t := 62) rfl rfl rfl (.gskipU (t := 62) rfl rfl rfl (.gk (.grun (t := 50) rfl rfl rfl (.u (.pickF rfl rfl) (.u (.pickF rfl rfl) (.nil (.rtFold (x := x) (τ := τ) (l := l) hl (by repeat' constructor) rfl rfl rfl rfl rfl (.then_n (.condF rfl (.sk (.seq ?_)))))))))))))))))))))))))))))))))
     have hsd : soundZ τ (z0 + es.length) y subs = true := by simpa using h8_50
     have hE : EntH τ (⟨z0 + es.length, pickZ xs[i].2.1 9, i, y, subs⟩ : En) (60 * es.length) := ⟨hsd, hsh, ⟨hp9.1, hp9.2⟩, hcc⟩
     refine .region (.m rfl (.q (.loadAs (vs := enC (⟨z0 + es.length, pickZ xs[i].2.1 9, i, y, subs⟩ : En)) rfl ag_39 (by repeat' constructor) (by simp [enC, ptC]) rfl) rfl (.oq (.call Tryz.func30 rfl rfl (vs := [_, _]) rfl (rapply_spec x τ (z0 + es.length) (pickZ xs[i].2.1 9) i y subs _ htx 60 hinv.ok (by omega))) ?_)))
     rintro v L' ⟨ue, ee, rfl, he, hue, rfl⟩
     refine .nil (.rfCast (x := x) (τ' := (appE τ (⟨z0 + es.length, pickZ xs[i].2.1 9, i, y, subs⟩ : En))) (by repeat' constructor) (rfl) (.fold (p := ensA (es ++ [(⟨z0 + es.length, pickZ xs[i].2.1 9, i, y, subs⟩ : En)])) (.cons (p := ensA es) (by repeat' constructor) (.cons (p := txRd y subs) (by repeat' constructor) .nil)) (fun _ hp => ensA_snoc hp) (.then_n (.region (.m rfl (.q (.loadAs (vs := enC (⟨z0 + es.length, pickZ xs[i].2.1 9, i, y, subs⟩ : En)) rfl ag_39 (by repeat' constructor) (by simp [enC, ptC]) rfl) rfl (.oq (.buildSlice (vs := [_]) el_24 ze_39 rfl rfl rfl rfl (by first | (simp [Value.cells]; done) | (intro v hv; simp only [List.mem_cons, List.not_mem_nil, or_false] at hv; (repeat (first | (subst hv; rfl) | (rcases hv with hv | hv; (subst hv; rfl)))))) (by decide)) ?_)))))))
     rintro v L' ⟨b10, rfl, rfl⟩
     refine .oq (.append1 rfl rfl rfl el_24 ze_39 rfl rfl ?c71 ?c72 (Nat.le_refl _) ?c73 (by decide)) ?_
     case c71 => simp only [List.map_cons, List.map_nil, List.flatten_cons, List.flatten_nil, List.append_nil]; exact en_cells (e := (⟨z0 + es.length, pickZ xs[i].2.1 9, i, y, subs⟩ : En)) hcc
     case c72 => rfl
     case c73 => first | omega | (simp; omega)
     rintro v L' ⟨⟨a10_3, c10_3, rfl⟩, rfl⟩
     refine .a rfl (.nil (.blk_n (.then_n (.region (.m rfl (.q (.add rfl rfl (by omega)) rfl (.an rfl (.slCast (T := 39) (sz := 11) (m' := (es ++ [(⟨z0 + es.length, pickZ xs[i].2.1 9, i, y, subs⟩ : En)]).length) (xs' := (es ++ [(⟨z0 + es.length, pickZ xs[i].2.1 9, i, y, subs⟩ : En)]).flatMap enC) (by repeat' constructor) (by rw [List.length_append]; rfl) (by rw [List.flatMap_append]; simp; rfl) ?_))))))))
     exact .rk ((i + 1, es ++ [(⟨z0 + es.length, pickZ xs[i].2.1 9, i, y, subs⟩ : En)], appE τ (⟨z0 + es.length, pickZ xs[i].2.1 9, i, y, subs⟩ : En), .slice a10_3 (es.length + 1) c10_3)) (⟨⟨by dsimp only; omega, by dsimp only; omega, by dsimp only; rw [List.length_append]; simp; omega⟩, .snoc hh hE rfl ⟨by show (0 : Int) ≤ (i : Int); omega, by show (i : Int) < 150; omega⟩, _, _, by rw [List.length_append]; rfl⟩) (by dsimp only; omega) ⟨rfl, rfl, rfl, rfl, rfl, rfl, rfl, trivial⟩
    rintro v L' ⟨b9, rfl, rfl⟩
    refine D.hh rfl (.call Tryz.func36 rfl rfl (vs := [_, _, _]) rfl (txn7_spec x τ (xs[i].1, (xs[i].2.1, (xs[i].2.2.1, (xs[i].2.2.2.1.take 100, uv)))) _ us (z0 + es.length) (60 * es.length) hinv (by omega) ⟨hk1, hk2, hk3⟩ (by rw [List.length_take]; omega) (acts0_own hsm) hsm)) ?_
    rintro v L' ⟨y, subs, rfl, hsh, hcc, rfl⟩
    refine D.kv rfl (.buildN (pl := [(0, 1), (1, 1), (2, 1), (3, 8)]) (us := [(0, vint (z0 + es.length)), (1, vint (pickZ xs[i].2.1 9)), (2, vint i), (3, .agg (ptC y).toArray)]) (cells := enC (⟨z0 + es.length, pickZ xs[i].2.1 9, i, y, subs⟩ : En)) Tryz.underlying39 (by kernel_rfl) ze_39 rfl (fill_entry4 _ _ _ _ _ _ _ _ _ _ _)) (.ph (.g0 (.hh rfl (.storeA rfl rfl ?c82 sz_39 ?c85 ?c83 (nfz0 _ _)) ?_)))
    case c82 => exact en_cells (e := (⟨z0 + es.length, pickZ xs[i].2.1 9, i, y, subs⟩ : En)) hcc
    case c85 => rfl
    case c83 => simp [enC, ptC]
    rintro v L' rfl
    refine D.ph (.fin (.ptCast (b := b9) (l' := enC (⟨z0 + es.length, pickZ xs[i].2.1 9, i, y, subs⟩ : En)) (by repeat' constructor) rfl ?_))
    have htx := ShapeH.tx (e := (⟨z0 + es.length, pickZ xs[i].2.1 9, i, y, subs⟩ : En)) hsh hcc (p := txRd y subs) (fun h hp => hp)
    have hfs := (ShapeH.sz (e := (⟨z0 + es.length, pickZ xs[i].2.1 9, i, y, subs⟩ : En)) hsh).few
    have hfs2 : subs.length ≤ 60 := hfs
    refine .then_n (.sm rfl (.q (.loadAs (vs := enC (⟨z0 + es.length, pickZ xs[i].2.1 9, i, y, subs⟩ : En)) rfl ag_39 (by repeat' constructor) (by simp [enC, ptC]) rfl) rfl (.oq (.call Tryz.func38 rfl rfl (vs := [_, _]) rfl (rsound_spec x τ (z0 + es.length) (pickZ xs[i].2.1 9) i y subs _ htx 60 hinv.ok (by omega))) ?_)))
    rintro v L' ⟨rfl, rfl⟩
    refine .an rfl (.seq (.seq (.rtOpen (x := x) (τ := τ) (by repeat' constructor) fun an cn as1 cs l hl => ?_)))
    have hll := nds_len hl
    refine .region (.m rfl (.u (.not rfl) (.m rfl (.bool (t := 50) rfl (fun h8_50 => ?_) (fun h8_50 => ?_)))))
    ·refine .kB (t := 49) rfl h8_50 (.gk (.gk (.gk (.gk (.gk (.gk (.gk (.gskipU (t := 57) rfl rfl rfl (.gskipU (t := 57) rfl rfl rfl (.gskipU (t := 57) rfl rfl rfl (.gskipU (t := 57) rfl rfl rfl (.gskipU (t := 57) rfl rfl rfl (.gskipU (t := 62) rfl rfl rfl (.gskipU (t := 62) rfl rfl rfl (.gskipU (t := 62) rfl rfl rfl (.gskipU (t := 62) rfl rfl rfl (.gskipU (t := 57) rfl rfl rfl (.gk (.u (.pickT rfl rfl) (.nil (.rtFold (x := x) (τ := τ) (l := l) hl (by repeat' constructor) rfl rfl rfl rfl rfl (.then_n (.condT rfl (.exit (.then_e (.blk_e (.then_n (.region (.m rfl (.q (.add rfl rfl (by omega)) rfl (.an rfl ?_)))))))))))))))))))))))))))))))
     exact .rk ((i + 1, es, τ, .slice au es.length cu)) (⟨⟨by dsimp only; omega, by dsimp only; omega, by dsimp only; omega⟩, hh, _, _, rfl⟩) (by dsimp only; omega) ⟨rfl, rfl, rfl, rfl, rfl, rfl, rfl, trivial⟩
    refine .kB (t := 49) rfl h8_50 (.grun (t := 50) rfl rfl rfl (.m rfl (.grun (t := 50) rfl rfl rfl (.u (.nilp rfl) (.grun (t := 50) rfl rfl rfl (.u (.fieldAddr rfl fo_87_0) (.grun (t := 50) rfl rfl rfl (.u (.ld rfl ag_73) (.grun (t := 50) rfl rfl rfl (.q (.slen rfl Tryz.underlying73 rfl) rfl (.grun (t := 50) rfl rfl rfl (.q (.as (v' := .bool false) (by exact congrArg Value.bool (decide_eq_false (by omega))) (.int rfl rfl rfl)) rfl (.grun (t := 50) rfl rfl rfl (.m rfl (.gk (.gk (.gk (.gk (.gk (.gskipU (t := 62) rfl rfl rfl (.gskipU (t := 62) rfl rfl rfl (.gskipU (t := 62) rfl rfl rfl (.gskipU (t := 62) rfl rfl rfl (.gk (.grun (t := 50) rfl rfl rfl (.u (.pickF rfl rfl) (.u (.pickF rfl rfl) (.nil (.rtFold (x := x) (τ := τ) (l := l) hl (by repeat' constructor) rfl rfl rfl rfl rfl (.then_n (.condF rfl (.sk (.seq ?_)))))))))))))))))))))))))))))))))
    have hsd : soundZ τ (z0 + es.length) y subs = true := by simpa using h8_50
    have hE : EntH τ (⟨z0 + es.length, pickZ xs[i].2.1 9, i, y, subs⟩ : En) (60 * es.length) := ⟨hsd, hsh, ⟨hp9.1, hp9.2⟩, hcc⟩
    refine .region (.m rfl (.q (.loadAs (vs := enC (⟨z0 + es.length, pickZ xs[i].2.1 9, i, y, subs⟩ : En)) rfl ag_39 (by repeat' constructor) (by simp [enC, ptC]) rfl) rfl (.oq (.call Tryz.func30 rfl rfl (vs := [_, _]) rfl (rapply_spec x τ (z0 + es.length) (pickZ xs[i].2.1 9) i y subs _ htx 60 hinv.ok (by omega))) ?_)))
    rintro v L' ⟨ue, ee, rfl, he, hue, rfl⟩
    refine .nil (.rfCast (x := x) (τ' := (appE τ (⟨z0 + es.length, pickZ xs[i].2.1 9, i, y, subs⟩ : En))) (by repeat' constructor) (rfl) (.fold (p := ensA (es ++ [(⟨z0 + es.length, pickZ xs[i].2.1 9, i, y, subs⟩ : En)])) (.cons (p := ensA es) (by repeat' constructor) (.cons (p := txRd y subs) (by repeat' constructor) .nil)) (fun _ hp => ensA_snoc hp) (.then_n (.region (.m rfl (.q (.loadAs (vs := enC (⟨z0 + es.length, pickZ xs[i].2.1 9, i, y, subs⟩ : En)) rfl ag_39 (by repeat' constructor) (by simp [enC, ptC]) rfl) rfl (.oq (.buildSlice (vs := [_]) el_24 ze_39 rfl rfl rfl rfl (by first | (simp [Value.cells]; done) | (intro v hv; simp only [List.mem_cons, List.not_mem_nil, or_false] at hv; (repeat (first | (subst hv; rfl) | (rcases hv with hv | hv; (subst hv; rfl)))))) (by decide)) ?_)))))))
    rintro v L' ⟨b10, rfl, rfl⟩
    refine .oq (.append1 rfl rfl rfl el_24 ze_39 rfl rfl ?c110 ?c111 (Nat.le_refl _) ?c112 (by decide)) ?_
    case c110 => simp only [List.map_cons, List.map_nil, List.flatten_cons, List.flatten_nil, List.append_nil]; exact en_cells (e := (⟨z0 + es.length, pickZ xs[i].2.1 9, i, y, subs⟩ : En)) hcc
    case c111 => rfl
    case c112 => first | omega | (simp; omega)
    rintro v L' ⟨⟨a10_3, c10_3, rfl⟩, rfl⟩
    refine .a rfl (.nil (.blk_n (.then_n (.region (.m rfl (.q (.add rfl rfl (by omega)) rfl (.an rfl (.slCast (T := 39) (sz := 11) (m' := (es ++ [(⟨z0 + es.length, pickZ xs[i].2.1 9, i, y, subs⟩ : En)]).length) (xs' := (es ++ [(⟨z0 + es.length, pickZ xs[i].2.1 9, i, y, subs⟩ : En)]).flatMap enC) (by repeat' constructor) (by rw [List.length_append]; rfl) (by rw [List.flatMap_append]; simp; rfl) ?_))))))))
    exact .rk ((i + 1, es ++ [(⟨z0 + es.length, pickZ xs[i].2.1 9, i, y, subs⟩ : En)], appE τ (⟨z0 + es.length, pickZ xs[i].2.1 9, i, y, subs⟩ : En), .slice a10_3 (es.length + 1) c10_3)) (⟨⟨by dsimp only; omega, by dsimp only; omega, by dsimp only; rw [List.length_append]; simp; omega⟩, .snoc hh hE rfl ⟨by show (0 : Int) ≤ (i : Int); omega, by show (i : Int) < 150; omega⟩, _, _, by rw [List.length_append]; rfl⟩) (by dsimp only; omega) ⟨rfl, rfl, rfl, rfl, rfl, rfl, rfl, trivial⟩
   rintro v L' ⟨b9, rfl, rfl⟩
   refine D.hR rfl (by kernel_rfl) (SpecR.ro [p] (.c Tryz.func37 [_] (small7_ro xs[i] p ss hss hcs (by omega))) (by repeat' constructor)) (by repeat' constructor) ?_
   rintro v L' ⟨uv, us, rfl, hsm, rfl⟩
   refine D.hh rfl (.call Tryz.func36 rfl rfl (vs := [_, _, _]) rfl (txn7_spec x τ (xs[i].1, (xs[i].2.1, (xs[i].2.2.1, (xs[i].2.2.2.1.take 100, uv)))) _ us (z0 + es.length) (60 * es.length) hinv (by omega) ⟨hk1, hk2, hk3⟩ (by rw [List.length_take]; omega) (acts0_own hsm) hsm)) ?_
   rintro v L' ⟨y, subs, rfl, hsh, hcc, rfl⟩
   refine D.kv rfl (.buildN (pl := [(0, 1), (1, 1), (2, 1), (3, 8)]) (us := [(0, vint (z0 + es.length)), (1, vint (pickZ xs[i].2.1 9)), (2, vint i), (3, .agg (ptC y).toArray)]) (cells := enC (⟨z0 + es.length, pickZ xs[i].2.1 9, i, y, subs⟩ : En)) Tryz.underlying39 (by kernel_rfl) ze_39 rfl (fill_entry4 _ _ _ _ _ _ _ _ _ _ _)) (.ph (.g0 (.hh rfl (.storeA rfl rfl ?c123 sz_39 ?c126 ?c124 (nfz0 _ _)) ?_)))
   case c123 => exact en_cells (e := (⟨z0 + es.length, pickZ xs[i].2.1 9, i, y, subs⟩ : En)) hcc
   case c126 => rfl
   case c124 => simp [enC, ptC]
   rintro v L' rfl
   refine D.ph (.fin (.ptCast (b := b9) (l' := enC (⟨z0 + es.length, pickZ xs[i].2.1 9, i, y, subs⟩ : En)) (by repeat' constructor) rfl ?_))
   have htx := ShapeH.tx (e := (⟨z0 + es.length, pickZ xs[i].2.1 9, i, y, subs⟩ : En)) hsh hcc (p := txRd y subs) (fun h hp => hp)
   have hfs := (ShapeH.sz (e := (⟨z0 + es.length, pickZ xs[i].2.1 9, i, y, subs⟩ : En)) hsh).few
   have hfs2 : subs.length ≤ 60 := hfs
   refine .then_n (.sm rfl (.q (.loadAs (vs := enC (⟨z0 + es.length, pickZ xs[i].2.1 9, i, y, subs⟩ : En)) rfl ag_39 (by repeat' constructor) (by simp [enC, ptC]) rfl) rfl (.oq (.call Tryz.func38 rfl rfl (vs := [_, _]) rfl (rsound_spec x τ (z0 + es.length) (pickZ xs[i].2.1 9) i y subs _ htx 60 hinv.ok (by omega))) ?_)))
   rintro v L' ⟨rfl, rfl⟩
   refine .an rfl (.seq (.seq (.rtOpen (x := x) (τ := τ) (by repeat' constructor) fun an cn as1 cs l hl => ?_)))
   have hll := nds_len hl
   refine .region (.m rfl (.u (.not rfl) (.m rfl (.bool (t := 50) rfl (fun h8_50 => ?_) (fun h8_50 => ?_)))))
   ·refine .kB (t := 49) rfl h8_50 (.gk (.gk (.gk (.gk (.gk (.gk (.gk (.gskipU (t := 57) rfl rfl rfl (.gskipU (t := 57) rfl rfl rfl (.gskipU (t := 57) rfl rfl rfl (.gskipU (t := 57) rfl rfl rfl (.gskipU (t := 57) rfl rfl rfl (.gskipU (t := 62) rfl rfl rfl (.gskipU (t := 62) rfl rfl rfl (.gskipU (t := 62) rfl rfl rfl (.gskipU (t := 62) rfl rfl rfl (.gskipU (t := 57) rfl rfl rfl (.gk (.u (.pickT rfl rfl) (.nil (.rtFold (x := x) (τ := τ) (l := l) hl (by repeat' constructor) rfl rfl rfl rfl rfl (.then_n (.condT rfl (.exit (.then_e (.blk_e (.then_n (.region (.m rfl (.q (.add rfl rfl (by omega)) rfl (.an rfl ?_)))))))))))))))))))))))))))))))
    exact .rk ((i + 1, es, τ, .slice au es.length cu)) (⟨⟨by dsimp only; omega, by dsimp only; omega, by dsimp only; omega⟩, hh, _, _, rfl⟩) (by dsimp only; omega) ⟨rfl, rfl, rfl, rfl, rfl, rfl, rfl, trivial⟩
   refine .kB (t := 49) rfl h8_50 (.grun (t := 50) rfl rfl rfl (.m rfl (.grun (t := 50) rfl rfl rfl (.u (.nilp rfl) (.grun (t := 50) rfl rfl rfl (.u (.fieldAddr rfl fo_87_0) (.grun (t := 50) rfl rfl rfl (.u (.ld rfl ag_73) (.grun (t := 50) rfl rfl rfl (.q (.slen rfl Tryz.underlying73 rfl) rfl (.grun (t := 50) rfl rfl rfl (.q (.as (v' := .bool false) (by exact congrArg Value.bool (decide_eq_false (by omega))) (.int rfl rfl rfl)) rfl (.grun (t := 50) rfl rfl rfl (.m rfl (.gk (.gk (.gk (.gk (.gk (.gskipU (t := 62) rfl rfl rfl (.gskipU (t := 62) rfl rfl rfl (.gskipU (t := 62) rfl rfl rfl (.gskipU (t := 62) rfl rfl rfl (.gk (.grun (t := 50) rfl rfl rfl (.u (.pickF rfl rfl) (.u (.pickF rfl rfl) (.nil (.rtFold (x := x) (τ := τ) (l := l) hl (by repeat' constructor) rfl rfl rfl rfl rfl (.then_n (.condF rfl (.sk (.seq ?_)))))))))))))))))))))))))))))))))
   have hsd : soundZ τ (z0 + es.length) y subs = true := by simpa using h8_50
   have hE : EntH τ (⟨z0 + es.length, pickZ xs[i].2.1 9, i, y, subs⟩ : En) (60 * es.length) := ⟨hsd, hsh, ⟨hp9.1, hp9.2⟩, hcc⟩
   refine .region (.m rfl (.q (.loadAs (vs := enC (⟨z0 + es.length, pickZ xs[i].2.1 9, i, y, subs⟩ : En)) rfl ag_39 (by repeat' constructor) (by simp [enC, ptC]) rfl) rfl (.oq (.call Tryz.func30 rfl rfl (vs := [_, _]) rfl (rapply_spec x τ (z0 + es.length) (pickZ xs[i].2.1 9) i y subs _ htx 60 hinv.ok (by omega))) ?_)))
   rintro v L' ⟨ue, ee, rfl, he, hue, rfl⟩
   refine .nil (.rfCast (x := x) (τ' := (appE τ (⟨z0 + es.length, pickZ xs[i].2.1 9, i, y, subs⟩ : En))) (by repeat' constructor) (rfl) (.fold (p := ensA (es ++ [(⟨z0 + es.length, pickZ xs[i].2.1 9, i, y, subs⟩ : En)])) (.cons (p := ensA es) (by repeat' constructor) (.cons (p := txRd y subs) (by repeat' constructor) .nil)) (fun _ hp => ensA_snoc hp) (.then_n (.region (.m rfl (.q (.loadAs (vs := enC (⟨z0 + es.length, pickZ xs[i].2.1 9, i, y, subs⟩ : En)) rfl ag_39 (by repeat' constructor) (by simp [enC, ptC]) rfl) rfl (.oq (.buildSlice (vs := [_]) el_24 ze_39 rfl rfl rfl rfl (by first | (simp [Value.cells]; done) | (intro v hv; simp only [List.mem_cons, List.not_mem_nil, or_false] at hv; (repeat (first | (subst hv; rfl) | (rcases hv with hv | hv; (subst hv; rfl)))))) (by decide)) ?_)))))))
   rintro v L' ⟨b10, rfl, rfl⟩
   refine .oq (.append1 rfl rfl rfl el_24 ze_39 rfl rfl ?c151 ?c152 (Nat.le_refl _) ?c153 (by decide)) ?_
   case c151 => simp only [List.map_cons, List.map_nil, List.flatten_cons, List.flatten_nil, List.append_nil]; exact en_cells (e := (⟨z0 + es.length, pickZ xs[i].2.1 9, i, y, subs⟩ : En)) hcc
   case c152 => rfl
   case c153 => first | omega | (simp; omega)
   rintro v L' ⟨⟨a10_3, c10_3, rfl⟩, rfl⟩
   refine .a rfl (.nil (.blk_n (.then_n (.region (.m rfl (.q (.add rfl rfl (by omega)) rfl (.an rfl (.slCast (T := 39) (sz := 11) (m' := (es ++ [(⟨z0 + es.length, pickZ xs[i].2.1 9, i, y, subs⟩ : En)]).length) (xs' := (es ++ [(⟨z0 + es.length, pickZ xs[i].2.1 9, i, y, subs⟩ : En)]).flatMap enC) (by repeat' constructor) (by rw [List.length_append]; rfl) (by rw [List.flatMap_append]; simp; rfl) ?_))))))))
   exact .rk ((i + 1, es ++ [(⟨z0 + es.length, pickZ xs[i].2.1 9, i, y, subs⟩ : En)], appE τ (⟨z0 + es.length, pickZ xs[i].2.1 9, i, y, subs⟩ : En), .slice a10_3 (es.length + 1) c10_3)) (⟨⟨by dsimp only; omega, by dsimp only; omega, by dsimp only; rw [List.length_append]; simp; omega⟩, .snoc hh hE rfl ⟨by show (0 : Int) ≤ (i : Int); omega, by show (i : Int) < 150; omega⟩, _, _, by rw [List.length_append]; rfl⟩) (by dsimp only; omega) ⟨rfl, rfl, rfl, rfl, rfl, rfl, rfl, trivial⟩
  refine .exit (.then_e (.then_e (.blk_e (.then_n (.sm rfl (.m rfl (.a rfl (.an rfl (.ret ?_)))))))))
  exact .dn rfl rfl ⟨es, τ, x, _, rfl, hh, ⟨by omega, _, _, rfl⟩, rfl⟩
 refine .kDF (t := 15) rfl h4_16 (.gk (.gk (.u (.pickF rfl rfl) (.nt (.condF rfl (.exit (.then_e (.then_e (.blk_e (.then_n (.sm rfl (.m rfl (.a rfl (.an rfl (.ret ?_)))))))))))))))
 exact .dn rfl rfl ⟨es, τ, x, _, rfl, hh, ⟨by omega, _, _, rfl⟩, rfl⟩
theorem pick8_spec  (c n : Int) (hc : -9223372036854775808 ≤ c ∧ c ≤ 9223372036854775807) (hn : 0 < n) : Fn Tryz.prog 16 #[vint c, vint n] [] fun v L => v = vint (pickZ c n) ∧ L = [] := by
 refine Fn.intro Tryz.func16 rfl rfl fun F W => ?_
 refine .sr (.an rfl (.seq (.sm rfl (.ui rfl rfl rfl (.nt (.condD rfl (fun h6 => ?_) (fun h6 => ?_)))))))
 ·refine .region (.m rfl (.q (.add rfl rfl (by omega)) rfl (.q (.neg rfl (by omega)) rfl (.an rfl (.sm rfl (.m rfl (.q (.remE rfl rfl (by omega) (by omega)) rfl (.an rfl (.ret ?_)))))))))
  have e : pickZ c n = (-(c + 1)) % n := by unfold pickZ; rw [if_pos h6]
  rw [e]
  exact .vv
 refine .sk (.sm rfl (.m rfl (.q (.remE rfl rfl (by omega) (by omega)) rfl (.an rfl (.ret ?_)))))
 have e : pickZ c n = (c) % n := by unfold pickZ; rw [if_neg h6]
 rw [e]
 exact .vv
theorem sev_small {u : Nat} (h : u < 128) : sevZ u = [UInt8.ofNat u] := by rw [sevZ.eq_1, if_pos h]
def wantZ : Bs := [4, 84, 82, 69, 69, 0, 1, 1, 47, 0, 1, 62, 5, 119, 111, 114, 108, 100, 0, 0, 0, 0, 0, 0, 0, 0]
theorem num_zero : numB 0 = [0] := sev_small (u := 0) (by decide)
theorem enc_new : encZ newT = wantZ := by
 have h1 : txtB headB = [4, 84, 82, 69, 69] := by unfold txtB cntB; rw [sev_small (by decide)]; decide
 have h2 : nodesB newT.nodes = [1] ++ ([1, 47] ++ ([0] ++ ([1] ++ ([62] ++ [5, 119, 111, 114, 108, 100]) ++ [0, 0, 0, 0, 0, 0, 0]))) := by
  have e31 : numB 31 = [62] := sev_small (u := 62) (by decide)
  unfold nodesB newT ndB aclB txtB cntB
  simp only [List.length_cons, List.length_nil, List.flatMap_cons, List.flatMap_nil, List.append_nil]
  unfold acB txtB cntB nums7 st0
  simp only [List.length_cons, List.length_nil, List.flatMap_cons, List.flatMap_nil, List.append_nil, num_zero, e31]
  rw [sev_small (u := 0 + 1) (by decide), sev_small (u := 0) (by decide), sev_small (u := 0 + 1 + 1 + 1 + 1 + 1) (by decide)]
  decide
 have h3 : sessB newT.sess = [0] := by unfold sessB cntB newT; rw [sev_small (by decide)]; rfl
 unfold encZ layB
 rw [h1, h2, h3, show newT.zx = 0 from rfl, num_zero]
 decide
theorem newT_right : RightT newT := Hist.right (es := []) .nil (by decide)
theorem dec_new : decZ wantZ = some newT := by
 rw [← enc_new]
 exact dec_some (read_back newT_right) (Hist.whole (es := []) .nil)
theorem new_step (k : Nat) (h : 1 < k) : fzStep newT k (beginZ newT) = ⟨newT.zx, newT.nodes, newT.sess, true⟩ := still_end newT_ok (path_ne newT_ok) h
theorem awake8_spec : Fn Tryz.prog 9 #[] [] fun v L => v = .bool true ∧ L = [] := by
 refine Fn.intro Tryz.func9 rfl rfl fun F W => ?_
 have hz0 : FzN newT (beginZ newT) 1 := .begin TrW.new (by decide)
 have hz1 := FzN.step TrW.new newT_ok (M := 1) (by decide) 1 hz0
 have hz2 := FzN.step TrW.new newT_ok (M := 1) (by decide) 2 hz0
 refine .sr (.an rfl (.sr (.oq (.c Tryz.func11 [] (trnew_spec)) ?_)))
 rintro v L' ⟨t, rfl, rfl⟩
 refine .an rfl (.sm rfl (.oq (.c Tryz.func14 [_] (sencode_spec t newT 1 newT_ok (by decide) TrW.new)) ?_))
 rintro v L' ⟨rfl, rfl⟩; rw [enc_new]
 refine .an rfl (.sr (.an rfl (.sm rfl (.oq (.c Tryz.func13 [_] (sdecode_spec wantZ (by decide))) ?_))))
 rintro v L' (⟨g, -, -⟩ | ⟨υ, u, g, rfl, rfl⟩); (rw [dec_new] at g; cases g); obtain rfl : newT = υ := by rw [dec_new] at g; exact Option.some.inj g
 refine .m rfl (.u (.extract rfl rfl) (.u (.extract rfl rfl) (.a rfl (.an rfl (.sm rfl (.oq (.c Tryz.func17 [_] (sbegin_spec t newT)) ?_))))))
 rintro v L' ⟨f, rfl, rfl⟩
 refine .an rfl (.seq (.sm rfl (.q (.as (v' := .bool false) (by rfl) (.ptreq rfl rfl Tryz.underlying28)) rfl (.m rfl (.grun (t := 21) rfl rfl rfl (.m rfl (.grun (t := 21) rfl rfl rfl (.q (.as (v' := .bool false) (by rfl) (.ptreq rfl rfl Tryz.underlying28)) rfl (.u (.pickF rfl rfl) (.m rfl (.grun (t := 25) rfl rfl rfl (.m rfl (.grun (t := 25) rfl rfl rfl (.q (.as (v' := .bool false) (by rfl) (.ptreq rfl rfl Tryz.underlying47)) rfl (.u (.pickF rfl rfl) (.nt (.condF rfl (.sk (.sm rfl (.oq (.c Tryz.func18 [_, _] (sstep_spec f t newT (beginZ newT) 1 1 1 newT_ok (by decide) TrW.new hz0 (by decide) (by decide) (by decide))) ?_))))))))))))))))))))
 rintro v L' ⟨rfl, rfl⟩; rw [show fzStep newT (1 : Int).toNat (beginZ newT) = fzStep newT 1 (beginZ newT) from rfl, show (fzStep newT 1 (beginZ newT)).all = false by rw [still_at newT_ok (path_ne newT_ok) 1 (by decide)]]
 refine .an rfl (.sm rfl (.oq (.c Tryz.func18 [_, _] (sstep_spec f t newT (fzStep newT 1 (beginZ newT)) 1 1 1 newT_ok (by decide) TrW.new hz1 (by decide) (by decide) (by decide))) ?_))
 rintro v L' ⟨rfl, rfl⟩; rw [show fzStep newT (1 : Int).toNat (fzStep newT 1 (beginZ newT)) = fzStep newT 2 (beginZ newT) from (step_add newT 1 1 _).symm, show (fzStep newT 2 (beginZ newT)).all = true by rw [new_step 2 (by decide)]]
 refine .an rfl (.sm rfl (.m rfl (.q (.as (v' := .bool true) (by exact congrArg Value.bool (decide_eq_true (by rfl))) (.streq rfl rfl)) rfl (.m rfl (.grun (t := 36) rfl rfl rfl (.m rfl (.grun (t := 36) rfl rfl rfl (.q (.as (v' := .bool true) (by rfl) (.int rfl rfl rfl)) rfl (.u (.pickT rfl rfl) (.m rfl (.grun (t := 40) rfl rfl rfl (.m rfl (.grun (t := 40) rfl rfl rfl (.m rfl (.grun (t := 40) rfl rfl rfl (.oq (.c Tryz.func15 [_, _] (trsame_spec u t newT newT 1 1 newT_ok newT_ok)) ?_))))))))))))))))
 rintro v L' ⟨rfl, rfl⟩; rw [decide_eq_true rfl]
 refine .u (.pickT rfl rfl) (.m rfl (.grun (t := 45) rfl rfl rfl (.m rfl (.grun (t := 45) rfl rfl rfl (.u (.not rfl) (.u (.pickT rfl rfl) (.m rfl (.grun (t := 49) rfl rfl rfl (.m rfl (.u (.pickT rfl rfl) (.m rfl (.grun (t := 52) rfl rfl rfl (.m rfl (.grun (t := 52) rfl rfl rfl (.oq (.c Tryz.func20 [_] (stext_spec f t newT (fzStep newT 2 (beginZ newT)) 1 1 newT_ok (by decide) TrW.new hz2 (by decide))) ?_)))))))))))))))
 rintro v L' ⟨rfl, rfl⟩; rw [still_text newT_ok (path_ne newT_ok) (k := 2) (by decide), enc_new]
 refine .grun (t := 52) rfl rfl rfl (.m rfl (.grun (t := 52) rfl rfl rfl (.q (.as (v' := .bool true) (by exact congrArg Value.bool (decide_eq_true (by rfl))) (.streq rfl rfl)) rfl (.u (.pickT rfl rfl) (.an rfl (.ret ?_))))))
 exact .vv
theorem enc_len {τ : Tr} {N : Nat} (ho : τ.Ok N) (hN : N ≤ 1048576) (hw : TrW τ) : (encZ τ).length ≤ 70368744177664 := by
 have h1 := nodes_len8 hw.nd (by have := ho.few; omega)
 have h2 := sess_len8 hw.ss (by have := ho.sfew; omega)
 have h3 := numB_len8 hw.zx
 have hu : U64 = 18446744073709551616 := rfl
 have h4 := sev_len10 (u := τ.nodes.length) (by have := ho.few; omega)
 have h5 := sev_len10 (u := τ.sess.length) (by have := ho.sfew; omega)
 have h6 := txtB_len8 (s := headB) (by decide)
 unfold encZ layB nodesB sessB cntB
 simp only [List.length_append]
 omega
def nilP : HP := fun _ => True
theorem nilP_ok : ∀ h, nilP h := fun _ => trivial
theorem ents_nil : EntsA nilP (.slice none 0 0) [] := ⟨fun h _ => .inl ⟨rfl, rfl, none, 0, rfl⟩, by simp, (fun _ h => by cases h), (fun _ h => by cases h), by simp [wtL]⟩
theorem snapStill8_spec (v w : Value) (xs : List Ac0) (ys : List Int) (p : HP) (hx : Acts1 p v xs) (hy : (∀ h : Hp, p h → rdS 1 h w ys.length (ys.flatMap fun z => [vint z])) ∧ ys.length ≤ 1048576 ∧ ∀ y ∈ ys, -9223372036854775808 ≤ y ∧ y ≤ 9223372036854775807) : Fn Tryz.prog 5 #[v, w] [p] fun r L => r = .bool true ∧ L = [p] := by
 refine Fn.intro Tryz.func5 rfl rfl fun F W => ?_
 obtain ⟨hy1, hy2, hy3⟩ := hy
 refine .rdAny (p := p) hy1 (by repeat' constructor) fun ay cy ey _ => ?_
 have hrdy := hy1
 rw [ey] at hrdy
 subst ey
 refine .sr (.an rfl (.sr (.cv Tryz.func9 [] (awake8_spec) ?_)))
 refine .an rfl (.sm rfl (.oq (.c Tryz.func10 [_, _] (history7_spec v xs 1 p hx (by decide))) ?_))
 rintro v L' ⟨es, τ, x, u, rfl, hh, ⟨hes, au, cu, rfl⟩, rfl⟩; have hinv := hh.inv; have hok := hinv.ok; have hfew := hok.few
 refine .m rfl (.u (.extract rfl rfl) (.u (.extract rfl rfl) (.a rfl (.an rfl (.sr (.oq (.c Tryz.func11 [] (trnew_spec)) ?_))))))
 rintro v L' ⟨t, rfl, rfl⟩
 refine .an rfl (.seq (.sm rfl (.u (.not rfl) (.m rfl (.grun (t := 24) rfl rfl rfl (.m rfl (.grun (t := 24) rfl rfl rfl (.q (.as (v' := .bool false) (by rfl) (.ptreq rfl rfl Tryz.underlying28)) rfl (.u (.pickF rfl rfl) (.nt (.condF rfl (.sk (.seq (.sr (.an rfl (.block (.trCast (t := t) (τ' := appL newT (es.take 0)) (by repeat' constructor) (by rw [List.take_zero]; rfl) (.loopK (ι := Nat) (fun q E => (9, vint q) :: E) (fun q => [treeR t (appL newT (es.take q))]) (fun q => q ≤ es.length) (fun q => es.length - q) (0) (ts := [1, 4, 6, 8]) (.cons rfl (.cons rfl (.cons rfl (.cons rfl (.nil))))) (Nat.zero_le _) ⟨rfl, rfl, rfl, rfl, rfl, trivial⟩ (by repeat' constructor) ?_))))))))))))))))))
 rintro i hi
 refine .seq (.sm rfl (.m rfl (.q (.slen rfl Tryz.underlying24 rfl) rfl (.ui rfl rfl rfl (.nt (.condD rfl (fun h31 => ?_) (fun h31 => ?_)))))))
 ·have hi2 : i < es.length := by omega
  refine .slShape (T := 39) (sz := 11) (v := .slice au es.length cu) (xs := es.flatMap enC) (by repeat' constructor) (by omega) fun be be' e0 mbe _ => ?_
  simp only [Value.slice.injEq, true_and] at e0
  obtain ⟨rfl, rfl⟩ := e0
  refine .sk (.seq (.block (.region (.m rfl (.m rfl (.m rfl (.q (.indexAddr rfl rfl el_24 (by omega)) rfl (.q (.loadRdA (sz := 11) (j := i * 11) (k := 11) (p := slR 39 11 _ es.length (es.flatMap enC)) (vs := enC es[i]) rfl ag_39 (by repeat' constructor) (fun h hp => slR_rd hp) (by simp) (by omega) (by omega) (flatMap_at (f := enC) (sz := 11) (fun _ _ => rfl) (by omega))) rfl (.oq (.c Tryz.func12 [_, _] (trapply_spec t (appL newT (es.take i)) es[i].zx es[i].ses es[i].xid es[i].x es[i].subs (ensA es) (hh.tx i hi2) 60 (hh.ok hi) (by have := hh.few hi2; omega))) ?_)))))))))
  rintro v L' ⟨ue, ee, rfl, he, hue, rfl⟩
  refine .nil (.blk_n (.then_n (.region (.m rfl (.q (.add rfl rfl (by omega)) rfl (.an rfl (.trCast (t := t) (τ' := appL newT (es.take (i + 1))) (by repeat' constructor) (by rw [appL_step _ hi2]; rfl) ?_)))))))
  exact .rk (i + 1) (by omega) (by omega) ⟨rfl, rfl, rfl, rfl, rfl, trivial⟩
 have hii : i = es.length := by omega
 rw [hii, List.take_length, ← hh.tree]
 have hl150 : es.length ≤ 200 := by omega
 have hR := hh.right hl150
 have hw := hh.w hl150
 have hne := path_ne hok
 have hz0 : FzN τ (beginZ τ) 60 := .begin hw hok.few
 have hpz : (pathsZ τ).length = τ.nodes.length := List.length_map _
 refine .exit (.then_e (.then_e (.blk_e (.then_n (.sm rfl (.oq (.c Tryz.func17 [_] (sbegin_spec t τ)) ?_))))))
 rintro v L' ⟨f, rfl, rfl⟩
 refine .an rfl (.seq (.sm rfl (.q (.as (v' := .bool false) (by rfl) (.ptreq rfl rfl Tryz.underlying47)) rfl (.nt (.condF rfl (.sk (.sr (.an rfl (.seq (.sr (.an rfl (.block (.fzCast (φ' := (fzStep τ (0) (beginZ τ))) (by repeat' constructor) rfl (.loopK (ι := Nat × Nat) (fun q E => (12, vint q.1) :: (11, .bool (fzStep τ (q.2) (beginZ τ)).all) :: E) (fun q => [fuzR f t (fzStep τ (q.2) (beginZ τ)), treeR t τ]) (fun q => q.1 ≤ ys.length) (fun q => ys.length - q.1) (0, 0) (ts := [1, 8, 10]) (.cons rfl (.cons rfl (.cons rfl (.nil)))) (Nat.zero_le _) ⟨rfl, rfl, rfl, rfl, rfl, trivial⟩ (by repeat' constructor) ?_))))))))))))))
 rintro ⟨j, K⟩ hj
 dsimp only
 dsimp only at hj
 refine .seq (.sm rfl (.m rfl (.q (.slen rfl Tryz.underlying45 rfl) rfl (.ui rfl rfl rfl (.m rfl (.dec (t := 48) rfl (fun h15_48 => ?_) (fun h15_48 => ?_)))))))
 ·refine .kDT (t := 47) rfl h15_48 (.grun (t := 48) rfl rfl rfl (.m rfl (.grun (t := 48) rfl rfl rfl (.u (.not rfl) (.u (.pickT rfl rfl) (.nt (.condB rfl (fun h51 => ?_) (fun h51 => ?_))))))))
  ·refine .sk (.seq (.block (.seq ?_)))
   have hj2 : j < ys.length := by omega
   have hyr := hy3 _ (List.getElem_mem hj2)
   have hp9 := pickZ_range ys[j] (n := 9) (by decide)
   refine .rdShape (p := p) hrdy (by repeat' constructor) (by omega) fun by1 oy e1 => ?_
   subst e1
   refine .region (.m rfl (.m rfl (.m rfl (.q (.indexAddr rfl rfl el_45 (by omega)) rfl (.q (.loadRd (sz := 1) (j := (j) * 1 + 0) (p := p) rfl ag_3 (by repeat' constructor) hrdy (by omega) ((flatMap_cell (f := fun z : Int => [vint z]) (sz := 1) (l := ys) (i := j) (k := 0) (fun _ _ => rfl) (by omega) (by decide)).trans rfl)) rfl (.cv Tryz.func16 [_, _] (pick8_spec ys[j] 9 hyr (by decide)) ?_))))))
   refine .oq (.c Tryz.func18 [_, _] (sstep_spec f t τ (fzStep τ (K) (beginZ τ)) (pickZ ys[j] 9) 60 60 hok (by decide) hw (FzN.step hw hok (M := 60) (by have := hok.sfew; omega) (K) hz0) (by decide) (by decide) (by omega))) ?_
   rintro v L' ⟨rfl, rfl⟩; rw [← step_add]
   refine .an rfl (.sm rfl (.u (.not rfl) (.m rfl (.bool (t := 63) rfl (fun h18_63 => ?_) (fun h18_63 => ?_)))))
   ·have hal : (fzStep τ (K + (pickZ ys[j] 9).toNat) (beginZ τ)).all = false := by simpa using h18_63
    refine .kB (t := 62) rfl h18_63 (.grun (t := 63) rfl rfl rfl (.m rfl (.grun (t := 63) rfl rfl rfl (.oq (.c Tryz.func20 [_] (stext_spec f t τ (fzStep τ (K + (pickZ ys[j] 9).toNat) (beginZ τ)) 60 60 hok (by decide) hw (FzN.step hw hok (M := 60) (by have := hok.sfew; omega) (K + (pickZ ys[j] 9).toNat) hz0) (by decide))) ?_))))
    rintro v L' ⟨rfl, rfl⟩; rw [text_no hal]
    refine .grun (t := 63) rfl rfl rfl (.q (.as (v' := .bool false) (by rfl) (.strne rfl rfl)) rfl (.u (.pickT rfl rfl) (.nt (.condF rfl (.skip (.blk_n (.then_n (.region (.m rfl (.q (.add rfl rfl (by omega)) rfl (.an rfl ?_)))))))))))
    exact .rk ((j + 1, K + (pickZ ys[j] 9).toNat)) (by dsimp only; omega) (by dsimp only; omega) ⟨rfl, rfl, rfl, rfl, rfl, trivial⟩
   refine .kB (t := 62) rfl h18_63 (.gk (.gk (.gk (.u (.pickF rfl rfl) (.nt (.condF rfl (.skip (.blk_n (.then_n (.region (.m rfl (.q (.add rfl rfl (by omega)) rfl (.an rfl ?_)))))))))))))
   exact .rk ((j + 1, K + (pickZ ys[j] 9).toNat)) (by dsimp only; omega) (by dsimp only; omega) ⟨rfl, rfl, rfl, rfl, rfl, trivial⟩
  refine .exit (.then_e (.then_e (.blk_e (.then_n (.sm rfl (.m rfl (.oq (.c Tryz.func22 [_] (trpaths_spec t τ 60 hok (by decide))) ?_)))))))
  rintro v L' ⟨⟨ap, cp, rfl⟩, rfl⟩
  refine .q (.slen rfl Tryz.underlying54 rfl) rfl (.q (.add rfl rfl (by omega)) rfl (.oq (.c Tryz.func18 [_, _] (sstep_spec f t τ (fzStep τ (K) (beginZ τ)) (((pathsZ τ).length : Int) + 1) 60 60 hok (by decide) hw (FzN.step hw hok (M := 60) (by have := hok.sfew; omega) (K) hz0) (by decide) (by decide) (by omega))) ?_))
  rintro v L' ⟨rfl, rfl⟩; rw [← step_add, show (((pathsZ τ).length : Int) + 1).toNat = τ.nodes.length + 1 by omega]; have hte := still_text hok hne (k := K + (τ.nodes.length + 1)) (by omega)
  refine .nt (.sm rfl (.oq (.c Tryz.func20 [_] (stext_spec f t τ (fzStep τ (K + (τ.nodes.length + 1)) (beginZ τ)) 60 60 hok (by decide) hw (FzN.step hw hok (M := 60) (by have := hok.sfew; omega) (K + (τ.nodes.length + 1)) hz0) (by decide))) ?_))
  rintro v L' ⟨rfl, rfl⟩; rw [hte]; refine .add nilP_ok ?_
  refine .oq (.call Tryz.func19 rfl rfl (vs := [_, _]) rfl (srestore_spec (encZ τ) (enc_len hok (by decide) hw) _ [] nilP ents_nil)) ?_
  rintro v L' (⟨g, -, -⟩ | ⟨υ, u, g, rfl, rfl⟩); (unfold restO at g; rw [read_back hR] at g; cases g); obtain rfl : τ = υ := by unfold restO at g; rw [read_back hR] at g; exact Option.some.inj g
  refine .m rfl (.u (.extract rfl rfl) (.u (.extract rfl rfl) (.a rfl (.an rfl (.sm rfl (.oq (.c Tryz.func20 [_] (stext_spec f t τ (fzStep τ (K + (τ.nodes.length + 1)) (beginZ τ)) 60 60 hok (by decide) hw (FzN.step hw hok (M := 60) (by have := hok.sfew; omega) (K + (τ.nodes.length + 1)) hz0) (by decide))) ?_))))))
  rintro v L' ⟨rfl, rfl⟩; rw [hte]
  refine .m rfl (.cv Tryz.func14 [_] (sencode_spec t τ 60 hok (by decide) hw) ?_)
  refine .q (.as (v' := .bool true) (by exact congrArg Value.bool (decide_eq_true rfl)) (.streq rfl rfl)) rfl (.m rfl (.grun (t := 85) rfl rfl rfl (.m rfl (.grun (t := 85) rfl rfl rfl (.oq (.c Tryz.func23 [_] (sfrom_spec f t (fzStep τ (K + (τ.nodes.length + 1)) (beginZ τ)))) ?_)))))
  rintro v L' ⟨rfl, rfl⟩; rw [show (fzStep τ (K + (τ.nodes.length + 1)) (beginZ τ)).from' = τ.zx by rw [still_end hok hne (by omega)]]
  refine .grun (t := 85) rfl rfl rfl (.m rfl (.grun (t := 85) rfl rfl rfl (.cv Tryz.func24 [_] (trzxid_spec t τ) ?_)))
  refine .grun (t := 85) rfl rfl rfl (.q (.as (v' := .bool true) (by exact congrArg Value.bool (decide_eq_true rfl)) (.int rfl rfl rfl)) rfl (.u (.pickT rfl rfl) (.m rfl (.grun (t := 92) rfl rfl rfl (.m rfl (.grun (t := 92) rfl rfl rfl (.q (.as (v' := .bool true) (by rfl) (.ptrne rfl rfl Tryz.underlying28)) rfl (.u (.pickT rfl rfl) (.m rfl (.grun (t := 96) rfl rfl rfl (.m rfl (.grun (t := 96) rfl rfl rfl (.q (.as (v' := .bool true) (by rfl) (.int rfl rfl rfl)) rfl (.u (.pickT rfl rfl) (.m rfl (.grun (t := 100) rfl rfl rfl (.m rfl (.grun (t := 100) rfl rfl rfl (.m rfl (.grun (t := 100) rfl rfl rfl (.oq (.c Tryz.func15 [_, _] (trsame_spec u t τ τ 60 60 hok hok)) ?_)))))))))))))))))))))
  rintro v L' ⟨rfl, rfl⟩; rw [decide_eq_true rfl]
  refine .u (.pickT rfl rfl) (.an rfl (.ret ?_))
  exact .vv
 refine .kDF (t := 47) rfl h15_48 (.gk (.gk (.u (.pickF rfl rfl) (.nt (.condF rfl (.exit (.then_e (.then_e (.blk_e (.then_n (.sm rfl (.m rfl (.oq (.c Tryz.func22 [_] (trpaths_spec t τ 60 hok (by decide))) ?_)))))))))))))
 rintro v L' ⟨⟨ap, cp, rfl⟩, rfl⟩
 refine .q (.slen rfl Tryz.underlying54 rfl) rfl (.q (.add rfl rfl (by omega)) rfl (.oq (.c Tryz.func18 [_, _] (sstep_spec f t τ (fzStep τ (K) (beginZ τ)) (((pathsZ τ).length : Int) + 1) 60 60 hok (by decide) hw (FzN.step hw hok (M := 60) (by have := hok.sfew; omega) (K) hz0) (by decide) (by decide) (by omega))) ?_))
 rintro v L' ⟨rfl, rfl⟩; rw [← step_add, show (((pathsZ τ).length : Int) + 1).toNat = τ.nodes.length + 1 by omega]; have hte := still_text hok hne (k := K + (τ.nodes.length + 1)) (by omega)
 refine .nt (.sm rfl (.oq (.c Tryz.func20 [_] (stext_spec f t τ (fzStep τ (K + (τ.nodes.length + 1)) (beginZ τ)) 60 60 hok (by decide) hw (FzN.step hw hok (M := 60) (by have := hok.sfew; omega) (K + (τ.nodes.length + 1)) hz0) (by decide))) ?_))
 rintro v L' ⟨rfl, rfl⟩; rw [hte]; refine .add nilP_ok ?_
 refine .oq (.call Tryz.func19 rfl rfl (vs := [_, _]) rfl (srestore_spec (encZ τ) (enc_len hok (by decide) hw) _ [] nilP ents_nil)) ?_
 rintro v L' (⟨g, -, -⟩ | ⟨υ, u, g, rfl, rfl⟩); (unfold restO at g; rw [read_back hR] at g; cases g); obtain rfl : τ = υ := by unfold restO at g; rw [read_back hR] at g; exact Option.some.inj g
 refine .m rfl (.u (.extract rfl rfl) (.u (.extract rfl rfl) (.a rfl (.an rfl (.sm rfl (.oq (.c Tryz.func20 [_] (stext_spec f t τ (fzStep τ (K + (τ.nodes.length + 1)) (beginZ τ)) 60 60 hok (by decide) hw (FzN.step hw hok (M := 60) (by have := hok.sfew; omega) (K + (τ.nodes.length + 1)) hz0) (by decide))) ?_))))))
 rintro v L' ⟨rfl, rfl⟩; rw [hte]
 refine .m rfl (.cv Tryz.func14 [_] (sencode_spec t τ 60 hok (by decide) hw) ?_)
 refine .q (.as (v' := .bool true) (by exact congrArg Value.bool (decide_eq_true rfl)) (.streq rfl rfl)) rfl (.m rfl (.grun (t := 85) rfl rfl rfl (.m rfl (.grun (t := 85) rfl rfl rfl (.oq (.c Tryz.func23 [_] (sfrom_spec f t (fzStep τ (K + (τ.nodes.length + 1)) (beginZ τ)))) ?_)))))
 rintro v L' ⟨rfl, rfl⟩; rw [show (fzStep τ (K + (τ.nodes.length + 1)) (beginZ τ)).from' = τ.zx by rw [still_end hok hne (by omega)]]
 refine .grun (t := 85) rfl rfl rfl (.m rfl (.grun (t := 85) rfl rfl rfl (.cv Tryz.func24 [_] (trzxid_spec t τ) ?_)))
 refine .grun (t := 85) rfl rfl rfl (.q (.as (v' := .bool true) (by exact congrArg Value.bool (decide_eq_true rfl)) (.int rfl rfl rfl)) rfl (.u (.pickT rfl rfl) (.m rfl (.grun (t := 92) rfl rfl rfl (.m rfl (.grun (t := 92) rfl rfl rfl (.q (.as (v' := .bool true) (by rfl) (.ptrne rfl rfl Tryz.underlying28)) rfl (.u (.pickT rfl rfl) (.m rfl (.grun (t := 96) rfl rfl rfl (.m rfl (.grun (t := 96) rfl rfl rfl (.q (.as (v' := .bool true) (by rfl) (.int rfl rfl rfl)) rfl (.u (.pickT rfl rfl) (.m rfl (.grun (t := 100) rfl rfl rfl (.m rfl (.grun (t := 100) rfl rfl rfl (.m rfl (.grun (t := 100) rfl rfl rfl (.oq (.c Tryz.func15 [_, _] (trsame_spec u t τ τ 60 60 hok hok)) ?_)))))))))))))))))))))
 rintro v L' ⟨rfl, rfl⟩; rw [decide_eq_true rfl]
 refine .u (.pickT rfl rfl) (.an rfl (.ret ?_))
 exact .vv
open Go Go.ChangeShapes Go.WideShapes Go.ChangeAt Go.RowKit
section
variable {H : Type} {enc : TypeId × Value → H} {P : Program} {W W' : World}
theorem trodAll_old (hl : laidOutB P = true) (hb : Below W.heap.size W W') (sp : Nat → Bool) : ∀ (ts : List TypeId) (vs : List Value) (ds : List (DataW H)) (p : List MemPlace), (∀ t ∈ ts, P.readableRec t = true ∧ t < P.types.size) →
  DataW.TrodAll enc P W 0 (fun _ => true) true ts vs ds p → (∀ x ∈ p, x.block < W.heap.size) → (∀ x ∈ p, sp x.block = true) → DataW.TrodAll enc P W' 0 sp true ts vs ds p
 | [], vs, ds, p, _, h, _, _ => by
  obtain ⟨rfl, rfl, rfl⟩ := trodAll_nil h
  exact h
 | t :: ts, vs, ds, p, hr, h, hlt, hsp => by
  obtain ⟨v, vs1, d, ds1, a, b, rfl, rfl, rfl, h1, h2⟩ := trodAll_cons h
  have r := hr t (by simp)
  refine ⟨a, b, WideElems.Trod_stays hl r.1 r.2 h1 (fun x hx => hb.same (hlt x (by simp [hx]))) (fun x hx => hsp x (by simp [hx])), ?_, rfl⟩
  exact trodAll_old hl hb sp ts vs1 ds1 b (fun t ht => hr t (by simp [ht])) h2 (fun x hx => hlt x (by simp [hx])) (fun x hx => hsp x (by simp [hx]))
theorem settled {fn : Func} {s : ChangeSpec} {apart fresh handsOn again : Bool} {args : Array Value} {ds gs : List (DataW H)} {before : List MemPlace} {tb : TypeId}
  (hW : DataW.Whole enc P fn.params.toList s.vars apart W args.toList ds gs before) (hvars : s.vars = []) (hspec : ∀ gs', gs' = [] → s.fn H (ds ++ gs') = { results := [.lit (.bool true)], args := ds })
  (hres : fn.resultTypes = #[tb]) (htb : P.underlying tb = some .bool) (hl : laidOutB P = true) (hr : ∀ t ∈ fn.params.toList, P.readableRec t = true ∧ t < P.types.size) (hb : Below W.heap.size W W') :
  s.post enc P fn apart fresh handsOn again W args (.bool true) W' := by
 have hW' := hW
 have hlt := hW.lt
 obtain ⟨p, q, hA, hV, rfl, hfz, hnd⟩ := hW
 rw [hvars] at hV
 obtain ⟨rfl, rfl⟩ := trodVars_none hV
 have hs := hspec [] rfl
 have hargs : ∀ sp : Nat → Bool, (∀ x ∈ p, sp x.block = true) → DataW.TrodAll enc P W' 0 sp true fn.params.toList args.toList ds p := fun sp hsp =>
  trodAll_old hl hb sp _ _ _ _ hr hA (fun x hx => hlt x (by simp [hx])) hsp
 have hbool : ∀ (b : Nat) (sp : Nat → Bool) (hd : Bool), DataW.TrodAll enc P W' b sp hd fn.resultTypes.toList ((Value.bool true).resultList fn.resultTypes.size) [.lit (.bool true)] [] := by
  intro b sp hd
  rw [hres]
  exact trodAll_cons_mk (shut_bool htb _) trodAll_mk0
 refine ⟨ds, [], p ++ [], [], p, [], hW', ?_, ?_, ?_, hb.frame _, fun _ => ⟨ok_one hres rfl (okWide_bool_mk htb _), [.lit (.bool true)] ++ ds, [], p, ⟨p, [], ?_, ?_, by simp, ?_, ?_⟩, ?_⟩⟩
 ·rw [hs]; exact hbool _ _ _
 ·rw [hs]; exact hargs _ (fun x hx => by simpa using hlt x (by simp [hx]))
 ·rw [hs, hvars]; exact hV
 ·exact trodAll_append (hargs _ (fun _ _ => rfl)) (hbool _ _ _)
 ·rw [hvars]; exact hV
 ·intro b off hp
  rw [hb.frozen (p := ⟨b, off, none⟩) (hlt (.cell b off) (by simp [hp]))]
  exact hfz b off (by simp [hp])
 ·intro ha
  have := hnd ha
  simpa using this
 ·intro x hx _
  simp [hx]
theorem old_calls {f : FuncId} {args : Array Value} (h : Fn P f args [Old W] fun v L => v = .bool true ∧ L = [Old W]) :
  Calls P f args W fun e W' => e = .returned (.bool true) ∧ Below W.heap.size W W' := by
 have h0 : St [Old W] W := ⟨fun b => W.heap[b]?, fun _ => none, fun _ => .inr rfl, fun b o h => h, fun b o h => (by cases h), fun b hb => rfl, trivial⟩
 refine (h [] W h0).mono ?_
 rintro e W' ⟨v, L, ⟨rfl, rfl⟩, rfl, hs, hk⟩
 refine ⟨rfl, hk.os, hk.tape, hk.output, hk.size, fun k hk' => ?_⟩
 obtain ⟨h1, a1, hp⟩ := sep_head hs
 have e1 := hp k hk'
 have : ∃ o, W.heap[k]? = some o := ⟨_, Array.getElem?_eq_getElem hk'⟩
 obtain ⟨o, ho⟩ := this
 rw [ho] at e1 ⊢
 exact a1 _ _ e1
theorem old_rd {a : Addr} {len cap : Nat} {V : Nat → Value} (hc : ∀ i, i < len → W.cell? (a.add i) = some (V i)) (hle : len ≤ cap) : ∀ h : Hp, Old W h → rdS 1 h (.slice (some a) len cap) len ((List.range len).map V) := by
 intro h hold
 rcases Nat.eq_zero_or_pos len with rfl | hpos
 ·exact .inl ⟨rfl, rfl, some a, cap, rfl⟩
 ·obtain ⟨b, off, spot⟩ := a
  have h0 := hc 0 hpos
  have e0 : (⟨b, off, spot⟩ : Addr).add 0 = ⟨b, off, spot⟩ := by simp [Addr.add]
  rw [e0] at h0
  simp only [World.cell?] at h0
  rcases hw : W.heap[b]? with _ | o
  ·rw [hw] at h0; cases h0
  ·cases o with
   | cells c T fr =>
    rw [hw] at h0
    dsimp only at h0
    split at h0
    ·cases h0
    ·rename_i hsp
     have hspot : spot = none := by simpa using hsp
     subst hspot
     have hc' : ∀ i, i < len → c[off + i]? = some (V i) := by
      intro i hi
      have := hc i hi
      have e1 : (⟨b, off, none⟩ : Addr).add i = ⟨b, off + i, none⟩ := by
       simp only [Addr.add]; split
       ·rename_i h0; simp [h0]
       ·rfl
      rw [e1] at this
      simp only [World.cell?, hw] at this
      simpa using this
     have hlt : b < W.heap.size := by
      rcases Nat.lt_or_ge b W.heap.size with h' | h'
      ·exact h'
      ·rw [Array.getElem?_eq_none h'] at hw; cases hw
     have hlen : off + len ≤ c.size := by
      have := hc' (len - 1) (by omega)
      rcases Nat.lt_or_ge (off + (len - 1)) c.size with h' | h'
      ·omega
      ·rw [Array.getElem?_eq_none h'] at this; cases this
     refine .inr ⟨b, off, cap, c.toList, T, fr, rfl, by rw [hold b hlt, hw], ?_, by simpa using hlen, hle⟩
     apply List.ext_getElem?
     intro i
     rw [Nat.mul_one, List.getElem?_take, List.getElem?_map, List.getElem?_drop]
     split
     ·rename_i hi
      rw [List.getElem?_range hi]
      simpa using hc' i hi
     ·rename_i hi
      rw [List.getElem?_eq_none (by simpa using hi)]; rfl
   | _ => rw [hw] at h0; cases h0
end
open Go Go.ChangeShapes Go.WideShapes Go.ChangeAt Go.RowKit
section
variable {H : Type} {enc : TypeId × Value → H} {P : Program} {W : World}
theorem string_vstr (s : ByteArray) : Value.string s = vstr s.data.toList := by cases s; rfl
end
open Go Go.ChangeShapes Go.WideShapes Go.ChangeAt Go.RowKit
section
variable {H : Type} {enc : TypeId × Value → H} {P : Program} {W : World}
theorem flat_at {α : Type} {sz : Nat} (f : Nat → List α) : ∀ n, (∀ i, i < n → (f i).length = sz) → ∀ j, j < n * sz → ((List.range n).flatMap f)[j]? = (f (j / sz))[j % sz]? ∧ ((List.range n).flatMap f).length = n * sz := by
 intro n
 induction n with
 | zero => intro _ j hj; omega
 | succ n ih =>
  intro hf j hj
  have hn := hf n (by omega)
  have hlen : ((List.range n).flatMap f).length = n * sz := by
   rcases Nat.eq_zero_or_pos (n * sz) with h0 | h0
   ·rcases Nat.eq_zero_or_pos n with h1 | h1
    ·subst h1; simp
    ·have : sz = 0 := by
      rcases Nat.eq_zero_or_pos sz with h2 | h2
      ·exact h2
      ·have := Nat.mul_pos h1 h2; omega
     subst this; omega
   ·exact (ih (fun i hi => hf i (by omega)) 0 h0).2
  have e : (List.range (n + 1)).flatMap f = (List.range n).flatMap f ++ f n := by simp [List.range_succ]
  have hm : (n + 1) * sz = n * sz + sz := by rw [Nat.add_mul, Nat.one_mul]
  rw [e]
  refine ⟨?_, by rw [List.length_append, hlen, hn, hm]⟩
  rcases Nat.lt_or_ge j (n * sz) with h | h
  ·rw [List.getElem?_append_left (by omega)]
   exact (ih (fun i hi => hf i (by omega)) j h).1
  ·rw [List.getElem?_append_right (by omega), hlen]
   have hs : 0 < sz := by omega
   have h1 : j / sz = n := by
    have : j < (n + 1) * sz := hj
    have a := Nat.div_lt_of_lt_mul (show j < sz * (n + 1) by rw [Nat.mul_comm]; exact this)
    have b := (Nat.le_div_iff_mul_le hs).2 h
    omega
   have h2 : j % sz = j - n * sz := by
    have := Nat.div_add_mod j sz
    rw [h1, Nat.mul_comm] at this; omega
   rw [h1, h2]
theorem rdS_regroup {sz n c c1 : Nat} {a : Option Addr} {ys : List Value} {h : Hp} (hr : rdS 1 h (.slice a (n * sz) c1) (n * sz) ys) (hc : n ≤ c) (hs : 0 < sz) : rdS sz h (.slice a n c) n ys := by
 rcases hr with ⟨h1, h2, -⟩ | ⟨b, off, cap, l, T, fr, hv, hb, h1, h2, h3⟩
 ·have : n = 0 := by
   rcases Nat.eq_zero_or_pos n with h0 | h0
   ·exact h0
   ·have := Nat.mul_pos h0 hs; omega
  subst this
  exact .inl ⟨rfl, h2, a, c, rfl⟩
 ·simp only [Value.slice.injEq] at hv
  obtain ⟨rfl, -, -⟩ := hv
  exact .inr ⟨b, off, c, l, T, fr, rfl, hb, by rw [← h1, Nat.mul_one], by rw [Nat.mul_one] at h2; exact h2, hc⟩
abbrev Reads (enc : TypeId × Value → H) (P : Program) (W : World) (fuel : Nat) (t : TypeId) (cs : List Value) (x : DataW H × List MemPlace) : Prop := DataW.trod enc P W 0 (fun _ => true) true fuel t cs = some x
theorem dec_int {t : TypeId} {fuel : Nat} {cs : List Value} {x : DataW H × List MemPlace} (ht : P.underlying t = some (.int .i64)) (h : Reads enc P W fuel t cs x) : ∃ n : Int, cs = [vint n] ∧ -9223372036854775808 ≤ n ∧ n ≤ 9223372036854775807 := by
 obtain ⟨n, rfl, -, hwf⟩ := DataW.trod_int ht h
 exact ⟨n, rfl, bounds_i64 hwf⟩
end
open Go Go.ChangeShapes Go.WideShapes Go.ChangeAt Go.RowKit
theorem bulk_pos {H : Type} (d : DataW H) : 1 ≤ Rows.uptoBulk d := by
 cases d with
 | lit l => cases l <;> simp [Rows.uptoBulk]
 | _ => simp [Rows.uptoBulk]
theorem bulk_part {H : Type} {d : DataW H} : ∀ {l : List (DataW H)}, d ∈ l → Rows.uptoBulk d ≤ Rows.uptoBulkAll l
 | x :: l, h => by
  unfold Rows.uptoBulkAll
  rcases List.mem_cons.1 h with rfl | h
  ·omega
  ·have := bulk_part h; omega
theorem bulk_count {H : Type} : ∀ l : List (DataW H), l.length ≤ Rows.uptoBulkAll l
 | [] => by simp
 | x :: l => by
  have h1 := bulk_pos x
  have h2 := bulk_count l
  unfold Rows.uptoBulkAll
  rw [List.length_cons]; omega
theorem bulk_agg {H : Type} {d : DataW H} {l : List (DataW H)} {N : Nat} (h : Rows.uptoBulk (.agg l) ≤ N) (hd : d ∈ l) : Rows.uptoBulk d ≤ N := by
 have := bulk_part hd
 simp only [Rows.uptoBulk] at h
 omega
theorem bulk_small {H : Type} {l : List (DataW H)} (h : Rows.uptoSmall H l = true) {d : DataW H} (hd : d ∈ l) : Rows.uptoBulk d ≤ 1048576 :=
 Nat.le_trans (bulk_part hd) (of_decide_eq_true h)
instance : Inhabited Value := ⟨.bool false⟩
section
variable {H : Type} {enc : TypeId × Value → H} {P : Program} {W : World} {N : Nat}
theorem dec_str {t : TypeId} {fuel : Nat} {cs : List Value} {x : DataW H × List MemPlace} (ht : P.underlying t = some .string) (h : Reads enc P W fuel t cs x) (hb : Rows.uptoBulk x.1 ≤ N) : ∃ s : List UInt8, cs = [vstr s] ∧ s.length ≤ N := by
 obtain ⟨s, rfl, rfl, -⟩ := DataW.trod_string ht h
 simp only [Rows.uptoBulk] at hb
 exact ⟨s.data.toList, by rw [string_vstr], by omega⟩
theorem dec_int' {t : TypeId} {fuel : Nat} {cs : List Value} {x : DataW H × List MemPlace} (ht : P.underlying t = some (.int .i64)) (h : Reads enc P W fuel t cs x) : ∃ n : Int, cs = [vint n] ∧ (-9223372036854775808 ≤ n ∧ n ≤ 9223372036854775807) := by
 obtain ⟨n, h1, h2⟩ := dec_int ht h; exact ⟨n, h1, h2⟩
theorem slice_cell {t e : TypeId} {fuel : Nat} {v : Value} {x : DataW H × List MemPlace} (ht : P.underlying t = some (.slice e)) (h : Reads enc P W fuel t [v] x) : isCell v = true := by
 rcases Go.Deep.open_slice ht h with ⟨hv, -⟩ | ⟨a, len, cap, m, n, Dd, Pl, hv, -⟩
 ·rw [List.cons.injEq] at hv; rw [hv.1]; rfl
 ·rw [List.cons.injEq] at hv; rw [hv.1]; rfl
theorem dec_sliceV {Z : Type} [Inhabited Z] (toC : Z → List Value) (Q : Z → Prop) {t e : TypeId} {sz : Nat} {fuel : Nat} {cs : List Value} {x : DataW H × List MemPlace} (ht : P.underlying t = some (.slice e)) (hc : P.cellsOf e = sz) (hs : 0 < sz)
  (hdec : ∀ (n : Nat) (cs : List Value) (y : DataW H × List MemPlace), Reads enc P W n e cs y → Rows.uptoBulk y.1 ≤ N → ∃ z, cs = toC z ∧ Q z) (h : Reads enc P W fuel t cs x) (hb : Rows.uptoBulk x.1 ≤ N + 1) :
  ∃ z : Value × List Z, cs = [z.1] ∧ (∀ h : Hp, Old W h → rdS sz h z.1 z.2.length (z.2.flatMap toC)) ∧ z.2.length ≤ N ∧ ∀ y ∈ z.2, Q y := by
 subst hc
 rcases Go.Deep.open_slice ht h with ⟨rfl, rfl⟩ | ⟨a, len, cap, m, n, Dd, Pl, rfl, -, hl, hm, hmm, rfl, hx⟩
 ·exact ⟨(_, []), rfl, fun h _ => .inl ⟨rfl, rfl, none, 0, rfl⟩, by simp, by simp⟩
 ·simp only [if_true] at hmm
  subst hmm
  have hbl : len ≤ N := by
   have := bulk_count ((List.range len).map Dd)
   simp only [Rows.uptoBulk] at hb
   rw [List.length_map, List.length_range] at this
   omega
  have hbe : ∀ i, i < len → Rows.uptoBulk (Dd i) ≤ N := fun i hi => by
   have := bulk_part (d := Dd i) (l := (List.range len).map Dd) (List.mem_map_of_mem (by simpa using hi))
   simp only [Rows.uptoBulk] at hb
   omega
  obtain ⟨Zf, hZ⟩ := Go.Deep.choose_lt (α := Z) (p := fun i z => W.cells? 0 (a.add (i * P.cellsOf e)) (P.cellsOf e) = some (toC z) ∧ Q z) (n := len) (fun i hi => by
   obtain ⟨cs', h1, h2⟩ := hx i (by omega)
   obtain ⟨z, rfl, h3⟩ := hdec _ _ _ h2 (hbe i hi)
   exact ⟨z, h1, h3⟩)
  have hlenf : ∀ i, i < len → (toC (Zf i)).length = P.cellsOf e := fun i hi => (World.cells?_some (hZ i hi).1).2.1
  have hflat := flat_at (fun i => toC (Zf i)) len hlenf
  refine ⟨(_, (List.range len).map Zf), rfl, ?_, ?_, ?_⟩
  ·intro h hold
   dsimp only
   rw [List.length_map, List.length_range]
   refine rdS_regroup (c1 := len * P.cellsOf e) ?_ hl hs
   have e1 : ((List.range len).map Zf).flatMap toC = (List.range (len * P.cellsOf e)).map (fun j => ((List.range len).flatMap fun i => toC (Zf i)).getD j (.bool false)) := by
    rw [List.flatMap_map]
    apply List.ext_getElem?
    intro j
    rcases Nat.lt_or_ge j (len * P.cellsOf e) with hj | hj
    ·rw [List.getElem?_map, List.getElem?_range hj]
     have := (hflat j hj).2
     have hjl : j < ((List.range len).flatMap fun i => toC (Zf i)).length := by omega
     simp only [Option.map_some, List.getD_eq_getElem?_getD, List.getElem?_eq_getElem hjl, Option.getD_some]
    ·have : ((List.range len).flatMap fun i => toC (Zf i)).length = len * P.cellsOf e := by
      rcases Nat.eq_zero_or_pos (len * P.cellsOf e) with h0 | h0
      ·have : len = 0 := by
        rcases Nat.eq_zero_or_pos len with h1 | h1
        ·exact h1
        ·have := Nat.mul_pos h1 hs; omega
       subst this; simp
      ·exact (hflat 0 h0).2
     rw [List.getElem?_eq_none (by omega), List.getElem?_eq_none (by simpa using hj)]
   rw [e1]
   refine old_rd (W := W) (fun j hj => ?_) (Nat.le_refl _) h hold
   have hi : j / P.cellsOf e < len := Nat.div_lt_of_lt_mul (by rw [Nat.mul_comm]; exact hj)
   have hcell := (World.cells?_some (hZ (j / P.cellsOf e) hi).1).2.2 (j % P.cellsOf e) (Nat.mod_lt _ hs)
   rw [Addr.add_add, Nat.mul_comm, Nat.div_add_mod] at hcell
   rw [hcell]
   obtain ⟨f1, f2⟩ := hflat j hj
   rw [List.getD_eq_getElem?_getD, f1]
   have : j % P.cellsOf e < (toC (Zf (j / P.cellsOf e))).length := by rw [hlenf _ hi]; exact Nat.mod_lt _ hs
   simp [this]
  ·dsimp only; rw [List.length_map, List.length_range]; exact hbl
  ·intro z hz
   obtain ⟨i, hi, rfl⟩ := List.mem_map.1 hz
   exact (hZ i (by simpa using hi)).2
theorem dec_sliceU {Z : Type} [Inhabited Z] (toC : Z → List Value) (Q : Z → Prop) {t e : TypeId} {sz : Nat} {fuel : Nat} {cs : List Value} {x : DataW H × List MemPlace} (ht : P.underlying t = some (.slice e)) (hc : P.cellsOf e = sz) (hs : 0 < sz)
  (hdec : ∀ (n : Nat) (cs : List Value) (y : DataW H × List MemPlace), Reads enc P W n e cs y → Rows.uptoBulk y.1 ≤ N → ∃ z, cs = toC z ∧ Q z) (h : Reads enc P W fuel t cs x) (hb : Rows.uptoBulk x.1 ≤ N) :
  ∃ z : Value × List Z, cs = [z.1] ∧ (∀ h : Hp, Old W h → rdS sz h z.1 z.2.length (z.2.flatMap toC)) ∧ z.2.length ≤ N ∧ ∀ y ∈ z.2, Q y :=
 dec_sliceV toC Q ht hc hs hdec h (by omega)
/-! ### With weights: what is read weighs no more than its bulk -/
end
open Go Go.ChangeShapes Go.WideShapes Go.ChangeAt Go.RowKit
theorem cells_3 : Tryz.prog.cellsOf 3 = 1 := by kernel_rfl
theorem cells_9 : Tryz.prog.cellsOf 9 = 1 := by kernel_rfl
theorem cells_22 : Tryz.prog.cellsOf 22 = 1 := by kernel_rfl
theorem cells_82 : Tryz.prog.cellsOf 82 = 5 := by kernel_rfl
def okAct (N : Nat) (_p : HP) (z : Ac0) : Prop := (-9223372036854775808 ≤ z.1 ∧ z.1 ≤ 9223372036854775807) ∧ (-9223372036854775808 ≤ z.2.1 ∧ z.2.1 ≤ 9223372036854775807) ∧ (-9223372036854775808 ≤ z.2.2.1 ∧ z.2.2.1 ≤ 9223372036854775807) ∧ z.2.2.2.1.length ≤ N ∧ isCell z.2.2.2.2 = true
theorem dec_Act {H : Type} {enc : TypeId × Value → H} {W : World} {N : Nat} (n : Nat) (cs : List Value) (y : DataW H × List MemPlace) (h : Reads enc Tryz.prog W n 82 cs y) (hb : Rows.uptoBulk y.1 ≤ N) : ∃ z : Ac0, cs = ac0C z ∧ okAct N (Old W) z := by
 obtain ⟨xs, m, -, rfl, hlen, hxs, hf⟩ := DataW.trod_struct Tryz.underlying82 h
 rw [cells_82] at hlen
 obtain ⟨a0, a1, a2, a3, a4, rfl⟩ : ∃ a0 a1 a2 a3 a4, cs = [a0, a1, a2, a3, a4] := by
  match cs, hlen with
  | [a0, a1, a2, a3, a4], _ => exact ⟨a0, a1, a2, a3, a4, rfl⟩
 obtain ⟨y0, y1, y2, y3, y4, rfl⟩ : ∃ y0 y1 y2 y3 y4, xs = [y0, y1, y2, y3, y4] := by
  match xs, hxs with
  | [y0, y1, y2, y3, y4], _ => exact ⟨y0, y1, y2, y3, y4, rfl⟩
 have f0 := hf 0 _ rfl
 have g0 : Reads enc Tryz.prog W m 3 (([a0, a1, a2, a3, a4] : List Value).drop 0 |>.take (Tryz.prog.cellsOf 3)) y0 := f0
 rw [cells_3] at g0
 have b0 : Rows.uptoBulk y0.1 ≤ N := bulk_agg hb (by simp)
 obtain ⟨z0, e0, q0⟩ := dec_int' Tryz.underlying3 g0
 simp at e0
 have f1 := hf 1 _ rfl
 have g1 : Reads enc Tryz.prog W m 3 (([a0, a1, a2, a3, a4] : List Value).drop 1 |>.take (Tryz.prog.cellsOf 3)) y1 := f1
 rw [cells_3] at g1
 have b1 : Rows.uptoBulk y1.1 ≤ N := bulk_agg hb (by simp)
 obtain ⟨z1, e1, q1⟩ := dec_int' Tryz.underlying3 g1
 simp at e1
 have f2 := hf 2 _ rfl
 have g2 : Reads enc Tryz.prog W m 3 (([a0, a1, a2, a3, a4] : List Value).drop 2 |>.take (Tryz.prog.cellsOf 3)) y2 := f2
 rw [cells_3] at g2
 have b2 : Rows.uptoBulk y2.1 ≤ N := bulk_agg hb (by simp)
 obtain ⟨z2, e2, q2⟩ := dec_int' Tryz.underlying3 g2
 simp at e2
 have f3 := hf 3 _ rfl
 have g3 : Reads enc Tryz.prog W m 9 (([a0, a1, a2, a3, a4] : List Value).drop 3 |>.take (Tryz.prog.cellsOf 9)) y3 := f3
 rw [cells_9] at g3
 have b3 : Rows.uptoBulk y3.1 ≤ N := bulk_agg hb (by simp)
 obtain ⟨z3, e3, q3⟩ := dec_str Tryz.underlying9 g3 b3
 simp at e3
 have f4 := hf 4 _ rfl
 have g4 : Reads enc Tryz.prog W m 22 (([a0, a1, a2, a3, a4] : List Value).drop 4 |>.take (Tryz.prog.cellsOf 22)) y4 := f4
 rw [cells_22] at g4
 obtain ⟨z4, e4, q4⟩ : ∃ z : Value, a4 = z ∧ isCell z = true := ⟨_, rfl, slice_cell Tryz.underlying22 g4⟩
 subst e0
 subst e1
 subst e2
 subst e3
 replace e4 := e4.symm
 subst e4
 exact ⟨(z0, z1, z2, z3, z4), rfl, q0, q1, q2, q3, q4⟩
def okAct1 (N : Nat) (_p : HP) (z : Ac0) : Prop := (-9223372036854775808 ≤ z.1 ∧ z.1 ≤ 9223372036854775807) ∧ (-9223372036854775808 ≤ z.2.1 ∧ z.2.1 ≤ 9223372036854775807) ∧ (-9223372036854775808 ≤ z.2.2.1 ∧ z.2.2.1 ≤ 9223372036854775807) ∧ z.2.2.2.1.length ≤ N ∧ (∃ l : List Ac0, (∀ h : Hp, _p h → rdS 5 h z.2.2.2.2 l.length (l.flatMap (ac0C))) ∧ l.length ≤ N ∧ ∀ y ∈ l, okAct N _p y)
theorem dec_Act1 {H : Type} {enc : TypeId × Value → H} {W : World} {N : Nat} (n : Nat) (cs : List Value) (y : DataW H × List MemPlace) (h : Reads enc Tryz.prog W n 82 cs y) (hb : Rows.uptoBulk y.1 ≤ N) : ∃ z : Ac0, cs = ac0C z ∧ okAct1 N (Old W) z := by
 obtain ⟨xs, m, -, rfl, hlen, hxs, hf⟩ := DataW.trod_struct Tryz.underlying82 h
 rw [cells_82] at hlen
 obtain ⟨a0, a1, a2, a3, a4, rfl⟩ : ∃ a0 a1 a2 a3 a4, cs = [a0, a1, a2, a3, a4] := by
  match cs, hlen with
  | [a0, a1, a2, a3, a4], _ => exact ⟨a0, a1, a2, a3, a4, rfl⟩
 obtain ⟨y0, y1, y2, y3, y4, rfl⟩ : ∃ y0 y1 y2 y3 y4, xs = [y0, y1, y2, y3, y4] := by
  match xs, hxs with
  | [y0, y1, y2, y3, y4], _ => exact ⟨y0, y1, y2, y3, y4, rfl⟩
 have f0 := hf 0 _ rfl
 have g0 : Reads enc Tryz.prog W m 3 (([a0, a1, a2, a3, a4] : List Value).drop 0 |>.take (Tryz.prog.cellsOf 3)) y0 := f0
 rw [cells_3] at g0
 have b0 : Rows.uptoBulk y0.1 ≤ N := bulk_agg hb (by simp)
 obtain ⟨z0, e0, q0⟩ := dec_int' Tryz.underlying3 g0
 simp at e0
 have f1 := hf 1 _ rfl
 have g1 : Reads enc Tryz.prog W m 3 (([a0, a1, a2, a3, a4] : List Value).drop 1 |>.take (Tryz.prog.cellsOf 3)) y1 := f1
 rw [cells_3] at g1
 have b1 : Rows.uptoBulk y1.1 ≤ N := bulk_agg hb (by simp)
 obtain ⟨z1, e1, q1⟩ := dec_int' Tryz.underlying3 g1
 simp at e1
 have f2 := hf 2 _ rfl
 have g2 : Reads enc Tryz.prog W m 3 (([a0, a1, a2, a3, a4] : List Value).drop 2 |>.take (Tryz.prog.cellsOf 3)) y2 := f2
 rw [cells_3] at g2
 have b2 : Rows.uptoBulk y2.1 ≤ N := bulk_agg hb (by simp)
 obtain ⟨z2, e2, q2⟩ := dec_int' Tryz.underlying3 g2
 simp at e2
 have f3 := hf 3 _ rfl
 have g3 : Reads enc Tryz.prog W m 9 (([a0, a1, a2, a3, a4] : List Value).drop 3 |>.take (Tryz.prog.cellsOf 9)) y3 := f3
 rw [cells_9] at g3
 have b3 : Rows.uptoBulk y3.1 ≤ N := bulk_agg hb (by simp)
 obtain ⟨z3, e3, q3⟩ := dec_str Tryz.underlying9 g3 b3
 simp at e3
 have f4 := hf 4 _ rfl
 have g4 : Reads enc Tryz.prog W m 22 (([a0, a1, a2, a3, a4] : List Value).drop 4 |>.take (Tryz.prog.cellsOf 22)) y4 := f4
 rw [cells_22] at g4
 have b4 : Rows.uptoBulk y4.1 ≤ N := bulk_agg hb (by simp)
 obtain ⟨w4, e4, q4⟩ := dec_sliceU (N := N) (ac0C) (fun y => okAct N (Old W) y) Tryz.underlying22 cells_82 (by decide) (fun n cs y h hb => dec_Act n cs y h hb) g4 b4
 simp at e4
 obtain ⟨z4, l4⟩ := w4
 dsimp only at e4 q4
 subst e0
 subst e1
 subst e2
 subst e3
 replace e4 := e4.symm
 subst e4
 exact ⟨(z0, z1, z2, z3, z4), rfl, q0, q1, q2, q3, ⟨l4, q4⟩⟩
theorem acts1_of {p : HP} {v : Value} {xs : List Ac0} (q : (∀ h : Hp, p h → rdS 5 h v xs.length (xs.flatMap ac0C)) ∧ xs.length ≤ 1048576 ∧ ∀ y ∈ xs, okAct1 1048576 p y) : Acts1 p v xs := by
 obtain ⟨q1, q2, q3⟩ := q
 refine ⟨⟨q1, q2, fun a ha => ?_⟩, fun a ha => ?_⟩
 ·obtain ⟨h1, h2, h3, h4, -⟩ := q3 a ha
  exact ⟨h1, h2, h3, h4⟩
 ·obtain ⟨-, -, -, -, l, g1, g2, g3⟩ := q3 a ha
  refine ⟨l, ⟨g1, g2, fun s hs => ?_⟩, fun s hs => (g3 s hs).2.2.2.2⟩
  obtain ⟨h1, h2, h3, h4, -⟩ := g3 s hs
  exact ⟨h1, h2, h3, h4⟩
end Go.Proofs.YtgppfpmmijbncaaGreatDoor
namespace Go.Proofs.YtgppfpmmijbncaaGreatDoor.snapStill
open Go Go.ChangeShapes Go.WideShapes Go.ChangeAt Go.RowKit
theorem own : ownKnob Tryz.prog.godebug = none := by kernel_rfl
theorem laid : laidOutB Tryz.prog = true := by kernel_rfl
theorem readable : ∀ t ∈ Tryz.f5.params.toList, Tryz.prog.readableRec t = true ∧ t < Tryz.prog.types.size := by
 have h : (Tryz.f5.params.toList.all fun t => Tryz.prog.readableRec t && decide (t < Tryz.prog.types.size)) = true := by kernel_rfl
 intro t ht
 simpa using List.all_eq_true.1 h t ht
theorem contract (H : Type) (enc : TypeId × Value → H) (W : World) (base : Nat) (args : Array Value) (ds gs : List (DataW H)) (before : List MemPlace)
  (hval : ∀ (j : Nat) t v, Tryz.f5.params[j]? = some t → args[j]? = some v → Value.okWide Tryz.prog W .any base t v)
  (hW : DataW.Whole enc Tryz.prog Tryz.f5.params.toList Rows.snapStillSpec.vars false W args.toList ds gs before) (hk : Rows.uptoSmall H (ds ++ gs) = true) :
  Calls Tryz.prog 5 args W fun e W' => ∃ v, e = .returned v ∧ Rows.snapStillSpec.post enc Tryz.prog Tryz.f5 false true false false W args v W' := by
 have hW' := hW
 obtain ⟨p, q, hA, hV, rfl, hfz, hnd⟩ := hW
 obtain ⟨rfl, -⟩ := trodVars_none hV
 rw [List.append_nil] at hk
 have hpar : Tryz.f5.params = #[22, 45] := Tryz.params5
 rw [hpar] at hval
 have hA' := hA
 rw [hpar] at hA'
 obtain ⟨v0, vs0, d0, ds0, p0, r0, ha0, rfl, rfl, h0, t0⟩ := trodAll_cons hA'
 obtain ⟨v1, vs1, d1, ds1, p1, r1, ha1, rfl, rfl, h1, t1⟩ := trodAll_cons t0
 obtain ⟨hv, rfl, rfl⟩ := trodAll_nil t1
 obtain rfl : args = #[v0, v1] := by
  have e : args.toList = [v0, v1] := by rw [ha0, ha1, hv]
  cases args; simp_all
 have b0 := bulk_small hk (d := d0) (by simp)
 obtain ⟨ad0, nn0, cp0, rfl⟩ := okWide_slice Tryz.underlying22 (hval 0 _ _ rfl rfl)
 obtain ⟨fu0, g0⟩ := h0
 obtain ⟨z0, e0, q0⟩ := dec_sliceU (N := 1048576) (ac0C) (fun y => okAct1 1048576 (Old W) y) Tryz.underlying22 cells_82 (by decide) (fun n cs y h hb => dec_Act1 n cs y h hb) g0 b0
 simp [Value.cells] at e0
 obtain ⟨v0, xs0⟩ := z0
 dsimp only at e0 q0
 subst e0
 have b1 := bulk_small hk (d := d1) (by simp)
 obtain ⟨ad1, nn1, cp1, rfl⟩ := okWide_slice Tryz.underlying45 (hval 1 _ _ rfl rfl)
 obtain ⟨fu1, g1⟩ := h1
 obtain ⟨z1, e1, q1⟩ := dec_sliceU (N := 1048576) (fun z => [vint z]) (fun y => (-9223372036854775808 ≤ y ∧ y ≤ 9223372036854775807)) Tryz.underlying45 cells_3 (by decide) (fun n cs y h _ => dec_int' Tryz.underlying3 h) g1 b1
 simp [Value.cells] at e1
 obtain ⟨v1, xs1⟩ := z1
 dsimp only at e1 q1
 subst e1
 refine (old_calls (snapStill8_spec _ _ xs0 xs1 (Old W) (acts1_of q0) q1)).mono fun e W' ⟨he, hb⟩ => ⟨_, he, ?_⟩
 exact settled hW' rfl (fun gs' h => by subst h; rfl) rfl Tryz.underlying4 laid readable hb
def cellsTo (l : List Value) : Obj → Obj
 | .cells _ t frozen => .cells l.toArray t frozen
 | o => o
noncomputable def laidWorld (os : Os) : World :=
 let w := World.holding Tryz.prog os ⟨#[], #[], []⟩
 { w with heap := (w.heap.modify 1 (cellsTo (Pinned.utf8FirstZ.map fun (n : Nat) => Value.int .u8 n))).modify 2 (cellsTo [.int .u8 128, .int .u8 191, .int .u8 160, .int .u8 191, .int .u8 128, .int .u8 159, .int .u8 144, .int .u8 191, .int .u8 128, .int .u8 143, .int .u8 0, .int .u8 0, .int .u8 0, .int .u8 0, .int .u8 0, .int .u8 0, .int .u8 0, .int .u8 0, .int .u8 0, .int .u8 0, .int .u8 0, .int .u8 0, .int .u8 0, .int .u8 0, .int .u8 0, .int .u8 0, .int .u8 0, .int .u8 0, .int .u8 0, .int .u8 0, .int .u8 0, .int .u8 0]) }
theorem laid_met (os : Os) : laidMet Tryz.prog Rows.snapStillUptoRow.laid ((laidWorld os).forCall (fun _ _ => 0) ⟨#[], #[.slice none 0 0, .slice none 0 0], []⟩).memory :=
 laidMet_of_run' 8 (by kernel_rfl) (by kernel_rfl)
theorem reads (os : Os) {H : Type} (enc : TypeId × Value → H) : ∃ places, DataW.whole enc Tryz.prog ((laidWorld os).forCall (fun _ _ => 0) ⟨#[], #[.slice none 0 0, .slice none 0 0], []⟩).memory Tryz.f5.params.toList Rows.snapStillSpec.vars false (#[.slice none 0 0, .slice none 0 0] : Array Value).toList 8 = some ([.nil, .nil], [], places) :=
 ⟨[], by kernel_rfl⟩
theorem lifted (os : Os) (started : os.Started) (H : Type) (enc : TypeId × Value → H) (F : Stop.Interp) :
  ReturnsInHanded {} Tryz.checked os 5 .any ((Rows.OpenSpec.upto Rows.snapStillSpec).preRow enc Tryz.prog Tryz.f5 Rows.snapStillUptoRow.domain false Rows.snapStillUptoRow.laid) (((Rows.OpenSpec.upto Rows.snapStillSpec).at F).post enc Tryz.prog Tryz.f5 false true false false) := by
 obtain ⟨places, hx⟩ := reads os enc
 refine returnsInHanded_of_row (C := Tryz.checked) (s := Rows.OpenSpec.upto Rows.snapStillSpec) own started (by kernel_rfl) Tryz.func5
  (witness_row_at (enc := enc) (C := Tryz.checked) false (laidWorld os) #[.slice none 0 0, .slice none 0 0] rfl (by kernel_rfl) (by kernel_rfl) (by kernel_rfl)
   (OpenSpec.preRow_of_cond 8 hx (by kernel_rfl) (fun k hk => by cases hk; kernel_rfl) (by kernel_rfl) (laid_met os))) ?_
 intro W base args ds gs before hval hW _ hcond _ _ _ _
 exact contract H enc W base args ds gs before hval hW (hcond _ rfl)
theorem saidUpto : Rows.SnapStillUptoSaid :=
 OpenClaim.holds_of_cond 5 Tryz.f5 rfl rfl rfl rfl rfl rfl rfl ⟨rfl, rfl, rfl, rfl, rfl⟩ rfl rfl rfl rfl rfl (by kernel_rfl) Tryz.func5 (by kernel_rfl)
  (of_decide_eq_true (by kernel_rfl)) (by unfold Func.isWrapper; first | (rw [if_pos (by decide +kernel)]; kernel_rfl) | (rw [if_neg (by decide +kernel)]; exact ⟨rfl, rfl⟩))
  (fun os started H enc _ F => by rw [OpenClaim.pre_eq_preRow]; exact lifted os started H enc F)
theorem plain (f : FuncId) (fn : Func) (hf : Tryz.pinned.checked.prog.funcNamed "arboretum/arboretumlaw08.SnapStill" = some f) (hfn : Tryz.pinned.checked.prog.funcs[f]? = some fn) :
  false = Tryz.pinned.checked.prog.looks [] ∧ ∀ (j : Nat) t, fn.params[j]? = some t → Tryz.pinned.checked.prog.wantsStandIn t = false := by
 obtain rfl : f = 5 := Option.some.inj ((show Tryz.prog.funcNamed "arboretum/arboretumlaw08.SnapStill" = some 5 by kernel_rfl).symm.trans hf) |>.symm
 obtain rfl : fn = Tryz.f5 := (Option.some.inj (Tryz.func5.symm.trans hfn)).symm
 refine ⟨by kernel_rfl, fun j t ht => ?_⟩
 have h : (Tryz.f5.params.toList.all fun t => !Tryz.pinned.checked.prog.wantsStandIn t) = true := by kernel_rfl
 have h2 := List.all_eq_true.1 h t (Array.mem_def.1 (Array.mem_of_getElem? ht))
 simpa using h2
theorem proved : Rows.SnapStillUptoCardSaid :=
 Claim7.holds_tied_plain_at .later [] _ _ _ _ saidUpto (fun _ h => by cases h) (by kernel_rfl) (fun _ h => by cases h) snapStillUpto_row_tie rfl ⟨rfl, rfl⟩ (by kernel_rfl) rfl plain (by kernel_rfl)
end Go.Proofs.YtgppfpmmijbncaaGreatDoor.snapStill
