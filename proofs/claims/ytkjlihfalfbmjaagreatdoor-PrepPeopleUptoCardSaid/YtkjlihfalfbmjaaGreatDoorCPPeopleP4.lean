/- Own work, some of it printed by program, texts that were built one by one: a part of the proof of prepPeople.proved. -/
import Derived.Test.YtkjlihfalfbmjaaGreatDoorCPPeopleP3
import Derived.Test.YtkjlihfalfbmjaaGreatDoorCPPeopleP2
import Derived.Test.YtkjlihfalfbmjaaGreatDoorCPPeopleP0
import Derived.Test.YtkjlihfalfbmjaaGreatDoorRows
import Derived.WalkKit
import Derived.ProofKit
import Derived.OpenShut
import Derived.JoinedCond
import Derived.Carry
import Derived.Deep.Grids
import Derived.Handed
import Derived.Deep.Strs
set_option maxRecDepth 100000
namespace Go.Proofs.YtkjlihfalfbmjaaGreatDoor
open Go
theorem ptxnA_spec (t : Nat) (τ : Tr) (u : Who) (iv : Value) (r : Rq) (p : HP) (hA : WiA p u iv r) (N : Nat) (ho : τ.Ok N) (hN : N ≤ 1099511627776) (hw : TrW τ) (hN2 : N + 16 ≤ 1099511627776) (subs : List Rq) (hr : ∀ h : Hp, p h → rdS 10 h r.subsV subs.length (subs.flatMap rqC)) (hS : ∀ x ∈ subs, WiA p u iv x) (hSa : ∀ x ∈ subs, AclW x.acl) (hN3 : N + N ≤ 1099511627776) : Fn Tryz.prog 14 #[vptr t, vint u.ses, iv, .agg (rqC r).toArray] [treeR t τ, p] fun v L =>
    ∃ (y : Pt) (ys : List Pt), v = .agg (ptC y).toArray ∧ y.pl = (txnP τ u r subs).1 ∧ ys.map Pt.pl = (txnP τ u r subs).2 ∧ (isCell y.aclV = true ∧ ∃ a c, y.subsV = .slice a ys.length c) ∧ (∀ z ∈ ys, isCell z.aclV = true ∧ z.subsV = nilV) ∧ L = [treeR t τ, p, aclR y, slR 43 8 y.subsV ys.length (ys.flatMap ptC), bigR aclR ys] := by
 refine Fn.intro Tryz.func14 rfl rfl fun F W => ?_
 have hcl := hA.cells t
 refine .sr (.oq (.box rfl) ?_)
 rintro v L' ⟨b7, rfl, rfl⟩
 refine .oq (.allocA ze_43) ?_
 rintro v L' ⟨b8, rfl, rfl⟩
 refine .nil (.ptCast (b := b7) (l' := rqC r) (by repeat' constructor) (by exact rfl) (.then_n (.seq (.sm rfl (.q (.ptreq rfl rfl Tryz.underlying30) rfl (.nt (.condF rfl (.sk (.sm rfl (.m rfl (.cv Tryz.func44 [_, _] (trsession_spec t τ u.ses) ?_)))))))))))
 refine .m rfl (.u (.extract rfl rfl) (.u (.extract rfl rfl) (.u (.extract rfl rfl) (.a rfl (.a rfl (.an rfl (.sm rfl (.m rfl (.m rfl (.q (.to (v' := .agg (rqC r).toArray) (.loadA rfl ag_28 (by repeat' constructor) (by simp [rqC])) (by rfl)) rfl (.q (.to (v' := .agg (wiC t u iv r).toArray) (.buildN (pl := [(0, 1), (1, 1), (2, 1), (3, 10)]) (us := [(0, vptr t), (1, vint u.ses), (2, iv), (3, .agg (rqC r).toArray)]) (cells := wiC t u iv r) Tryz.underlying99 (by kernel_rfl) ze_99 rfl (fill_wish t u iv hA.shape r)) rfl) rfl (.oq (.allocA ze_99) ?_))))))))))))
 rintro v L' ⟨b1, rfl, rfl⟩
 refine .oq (.storeA rfl rfl ?c21 sz_99 ?c24 ?c22 (nfz0 _ _)) ?_
 case c21 => exact fun v hv => List.all_eq_true.1 hcl v hv
 case c24 => rfl
 case c22 => simp [wiC, rqC]
 rintro v L' rfl
 refine .nil (.ptCast (b := b1) (l' := wiC t u iv r) (by repeat' constructor) (by exact rfl) (.then_n (.seq (.block (.sr (.u (.fieldAddr rfl fo_28_0) (.u (.ld rfl ag_3) (.cv Tryz.func21 [_] (pchanges_spec r.kind) ?_))))))))
 refine .u (.not rfl) (.an rfl (.condB rfl (fun h30 => ?_) (fun h30 => ?_)))
 ·have hT : txnP τ u r subs = (refusal 110 (-1), []) := if_pos (by simpa using h30)
  refine .sr (.cv Tryz.func43 [_, _] (prefusal_spec 110 (-1)) ?_)
  refine .oq (.storeA rfl rfl ?c33 sz_43 ?c36 ?c34 (nfz0 _ _)) ?_
  case c33 => simp [ptC, refusal, isCell]
  case c36 => rfl
  case c34 => simp [ptC]
  rintro v L' rfl
  refine .nil (.ptCast (b := b8) (l' := [vint ((refusal 110 (-1))).kind, vstr ((refusal 110 (-1))).path, vstr ((refusal 110 (-1))).data, nilV, vint ((refusal 110 (-1))).own, vint ((refusal 110 (-1))).num, vint ((refusal 110 (-1))).err, nilV]) (by repeat' constructor) (by exact rfl) (.add (slR_nil 85 2) (.add (slR_nil 43 8) (.add (p := bigR aclR []) (fun h => big_nil h) (.then_n (.ret (.blk_r (.then_r ?_))))))))
  exact .d1 rfl (.cellA rfl ag_43 (by repeat' constructor) (by simp [spl, setAll]) rfl) ⟨refusal 110 (-1), [], rfl, by rw [hT]; rfl, by rw [hT]; rfl, ⟨rfl, none, 0, rfl⟩, (fun _ h => by cases h), rfl⟩
 have hc : changesK r.kind = true := by simpa using h30
 refine .sm rfl (.u (.not rfl) (.an rfl (.condN rfl (fun h36 => ?_) (fun h36 => ?_))))
 ·have hT : txnP τ u r subs = (refusal 67 (-1), []) := by unfold txnP; rw [if_neg (fun g => g hc), if_pos h36]
  refine .sr (.cv Tryz.func43 [_, _] (prefusal_spec 67 (-1)) ?_)
  refine .oq (.storeA rfl rfl ?c41 sz_43 ?c44 ?c42 (nfz0 _ _)) ?_
  case c41 => simp [ptC, refusal, isCell]
  case c44 => rfl
  case c42 => simp [ptC]
  rintro v L' rfl
  refine .nil (.ptCast (b := b8) (l' := [vint ((refusal 67 (-1))).kind, vstr ((refusal 67 (-1))).path, vstr ((refusal 67 (-1))).data, nilV, vint ((refusal 67 (-1))).own, vint ((refusal 67 (-1))).num, vint ((refusal 67 (-1))).err, nilV]) (by repeat' constructor) (by exact rfl) (.add (slR_nil 85 2) (.add (slR_nil 43 8) (.add (p := bigR aclR []) (fun h => big_nil h) (.then_n (.ret (.blk_r (.then_r ?_))))))))
  exact .d1 rfl (.cellA rfl ag_43 (by repeat' constructor) (by simp [spl, setAll]) rfl) ⟨refusal 67 (-1), [], rfl, by rw [hT]; rfl, by rw [hT]; rfl, ⟨rfl, none, 0, rfl⟩, (fun _ h => by cases h), rfl⟩
 refine .sr (.u (.fieldAddr rfl fo_28_0) (.u (.ld rfl ag_3) (.ui rfl rfl rfl (.an rfl (.condD rfl (fun h40 => ?_) (fun h40 => ?_))))))
 ·have hT : txnP τ u r subs = multiP τ u subs := by unfold txnP; rw [if_neg (fun g => g hc), if_neg (fun g => g h36), if_pos h40]
  refine .sr (.q (.to (v' := .agg (wiC t u iv r).toArray) (.loadA rfl ag_99 (by repeat' constructor) (by simp [wiC, rqC])) (by rfl)) rfl (.oq (.c Tryz.func45 [_] (pmulti_spec t τ u iv r p hA N ho hN hw hN2 subs hr hS hSa)) ?_))
  rintro v L' ⟨w, ys, rfl, hys, ⟨aw, cw, rfl⟩, hyk, rfl⟩
  refine .oq (.storeA rfl rfl ?c52 sz_43 ?c55 ?c53 (nfz0 _ _)) ?_
  case c52 => exact ptC_ws (by rw [(multi_acl τ u subs).1]; rfl)
  case c55 => rfl
  case c53 => simp [ptC]
  rintro v L' rfl
  refine .nil (.ptCast (b := b8) (l' := [vint ((multiP τ u subs).1).kind, vstr ((multiP τ u subs).1).path, vstr ((multiP τ u subs).1).data, (multiP τ u subs).1.aclV, vint ((multiP τ u subs).1).own, vint ((multiP τ u subs).1).num, vint ((multiP τ u subs).1).err, .slice aw ys.length cw]) (by repeat' constructor) (by exact rfl) (.add (slR_nil 85 2) (.as (q := aclR ((multiP τ u subs).1.ws (.slice aw ys.length cw))) (p := slR 85 2 nilV 0 []) (by repeat' constructor) (by show _ = slR _ _ (multiP τ u subs).1.aclV (multiP τ u subs).1.acl.length ((multiP τ u subs).1.acl.flatMap acC); rw [(multi_acl τ u subs).1, (multi_acl τ u subs).2]; rfl) (.then_n (.ret (.blk_r (.then_r ?_)))))))
  exact .d1 rfl (.cellA rfl ag_43 (by repeat' constructor) (by simp [spl, setAll]) rfl) ⟨(multiP τ u subs).1.ws (.slice aw ys.length cw), ys, rfl, by rw [hT]; exact multi_pl τ u subs _, by rw [hT]; exact hys, ⟨by show isCell (multiP τ u subs).1.aclV = true; rw [(multi_acl τ u subs).1]; rfl, aw, cw, rfl⟩, hyk, rfl⟩
 refine .sr (.u (.fieldAddr rfl fo_28_0) (.u (.ld rfl ag_3) (.ui rfl rfl rfl (.an rfl (.condD rfl (fun h46 => ?_) (fun h46 => ?_))))))
 ·have hT : txnP τ u r subs = (noopX, []) := by unfold txnP; rw [if_neg (fun g => g hc), if_neg (fun g => g h36), if_neg h40, if_pos h46]
  refine .sr (.q (.build (us := [(0, _)]) fl_43 ze_43 rfl rfl (by simp [isCell])) rfl (.oq (.storeA rfl rfl ?c61 sz_43 ?c64 ?c62 (nfz0 _ _)) ?_))
  case c61 => (first | (simp [isCell]; done) | (simp [isCell, setAll, Value.cells]; done))
  case c64 => (first | (simp; done) | (simp [setAll, spl, Value.cells]; done))
  case c62 => (first | (simp; done) | (simp [setAll, spl, Value.cells]; done))
  rintro v L' rfl
  refine .nil (.ptCast (b := b8) (l' := [vint (noopX).kind, vstr (noopX).path, vstr (noopX).data, nilV, vint (noopX).own, vint (noopX).num, vint (noopX).err, nilV]) (by repeat' constructor) (by exact rfl) (.add (slR_nil 85 2) (.add (slR_nil 43 8) (.add (p := bigR aclR []) (fun h => big_nil h) (.then_n (.ret (.blk_r (.then_r ?_))))))))
  exact .d1 rfl (.cellA rfl ag_43 (by repeat' constructor) (by simp [spl, setAll]) rfl) ⟨noopX, [], rfl, by rw [hT]; rfl, by rw [hT]; rfl, ⟨rfl, none, 0, rfl⟩, (fun _ h => by cases h), rfl⟩
 refine .sr (.u (.fieldAddr rfl fo_28_0) (.u (.ld rfl ag_3) (.ui rfl rfl rfl (.an rfl (.condD rfl (fun h51 => ?_) (fun h51 => ?_))))))
 ·have hT : txnP τ u r subs = closeP τ u.ses := by unfold txnP; rw [if_neg (fun g => g hc), if_neg (fun g => g h36), if_neg h40, if_neg h46, if_pos h51]
  refine .sr (.q (.to (v' := .agg (wiC t u iv r).toArray) (.loadA rfl ag_99 (by repeat' constructor) (by simp [wiC, rqC])) (by rfl)) rfl (.oq (.c Tryz.func46 [_] (pcloses_spec t τ u iv r p hA N ho hN hN3)) ?_))
  rintro v L' ⟨w, ys, rfl, hys, ⟨aw, cw, rfl⟩, hyk, rfl⟩
  refine .oq (.storeA rfl rfl ?c72 sz_43 ?c75 ?c73 (nfz0 _ _)) ?_
  case c72 => exact ptC_ws (by rfl)
  case c75 => rfl
  case c73 => simp [ptC]
  rintro v L' rfl
  refine .nil (.ptCast (b := b8) (l' := [vint ((closeP τ u.ses).1).kind, vstr ((closeP τ u.ses).1).path, vstr ((closeP τ u.ses).1).data, (closeP τ u.ses).1.aclV, vint ((closeP τ u.ses).1).own, vint ((closeP τ u.ses).1).num, vint ((closeP τ u.ses).1).err, .slice aw ys.length cw]) (by repeat' constructor) (by exact rfl) (.add (slR_nil 85 2) (.as (q := aclR ((closeP τ u.ses).1.ws (.slice aw ys.length cw))) (p := slR 85 2 nilV 0 []) (by repeat' constructor) rfl (.then_n (.ret (.blk_r (.then_r ?_)))))))
  exact .d1 rfl (.cellA rfl ag_43 (by repeat' constructor) (by simp [spl, setAll]) rfl) ⟨(closeP τ u.ses).1.ws (.slice aw ys.length cw), ys, rfl, by rw [hT]; rfl, by rw [hT]; exact hys, ⟨rfl, aw, cw, rfl⟩, hyk, rfl⟩
 have hk8 : r.kind ≠ 8 := h51
 refine .skip (.blk_n (.then_n (.sr (.q (.to (v' := .agg (wiC t u iv r).toArray) (.loadA rfl ag_99 (by repeat' constructor) (by simp [wiC, rqC])) (by rfl)) rfl (.oq (.c Tryz.func47 [_] (ppart_spec t τ u iv r p hA N ho hN (cver_i64 hw _))) ?_)))))
 rintro v L' ⟨w, rfl, ⟨aw, cw, rfl⟩, rfl⟩
 refine .m rfl (.u (.extract rfl rfl) (.u (.extract rfl rfl) (.oq (.allocA ze_43) ?_)))
 rintro v L' ⟨b13, rfl, rfl⟩
 refine .oq (.storeA rfl rfl ?c84 sz_43 ?c87 ?c85 (nfz0 _ _)) ?_
 case c84 => exact fun v hv => List.all_eq_true.1 (ptC_cells ⟨none, 0, 0, part_sub τ u r⟩) v hv
 case c87 => rfl
 case c85 => simp [ptC]
 rintro v L' rfl
 refine .a rfl (.nil (.ptCast (b := b13) (l' := [vint ((partP τ u r).1).kind, vstr ((partP τ u r).1).path, vstr ((partP τ u r).1).data, .slice aw (partP τ u r).1.acl.length cw, vint ((partP τ u r).1).own, vint ((partP τ u r).1).num, vint ((partP τ u r).1).err, (partP τ u r).1.subsV]) (by repeat' constructor) (by exact rfl) (.then_n (.seq (.sm rfl (.ui rfl rfl rfl (.nt (.condN rfl (fun h63 => ?_) (fun h63 => ?_)))))))))
 ·have hT : txnP τ u r subs = (refusal (partP τ u r).2 (-1), []) := by unfold txnP; rw [if_neg (fun g => g hc), if_neg (fun g => g h36), if_neg h40, if_neg h46, if_neg hk8, if_pos h63]
  refine .sm rfl (.cv Tryz.func43 [_, _] (prefusal_spec (partP τ u r).2 (-1)) ?_)
  refine .oq (.storeA rfl rfl ?c92 sz_43 ?c95 ?c93 (nfz0 _ _)) ?_
  case c92 => simp [ptC, refusal, isCell]
  case c95 => rfl
  case c93 => simp [ptC]
  rintro v L' rfl
  refine .nil (.ptCast (b := b8) (l' := [vint ((refusal (partP τ u r).2 (-1))).kind, vstr ((refusal (partP τ u r).2 (-1))).path, vstr ((refusal (partP τ u r).2 (-1))).data, nilV, vint ((refusal (partP τ u r).2 (-1))).own, vint ((refusal (partP τ u r).2 (-1))).num, vint ((refusal (partP τ u r).2 (-1))).err, nilV]) (by repeat' constructor) (by exact rfl) (.add (slR_nil 85 2) (.add (slR_nil 43 8) (.add (p := bigR aclR []) (fun h => big_nil h) (.then_n (.rt ?_))))))
  exact .d1 rfl (.cellA rfl ag_43 (by repeat' constructor) (by simp [spl, setAll]) rfl) ⟨refusal (partP τ u r).2 (-1), [], rfl, by rw [hT]; rfl, by rw [hT]; rfl, ⟨rfl, none, 0, rfl⟩, (fun _ h => by cases h), rfl⟩
 have hT : txnP τ u r subs = ((partP τ u r).1, []) := by unfold txnP; rw [if_neg (fun g => g hc), if_neg (fun g => g h36), if_neg h40, if_neg h46, if_neg hk8, if_neg (fun g => g h63)]
 refine .sk (.sr (.q (.to (v' := .agg ([vint ((partP τ u r).1).kind, vstr ((partP τ u r).1).path, vstr ((partP τ u r).1).data, .slice aw (partP τ u r).1.acl.length cw, vint ((partP τ u r).1).own, vint ((partP τ u r).1).num, vint ((partP τ u r).1).err, nilV]).toArray) (.loadA rfl ag_43 (by repeat' constructor) (by simp)) (by rw [← part_sub τ u r]; rfl)) rfl (.oq (.storeA rfl rfl ?c98 sz_43 ?c101 ?c99 (nfz0 _ _)) ?_)))
 case c98 => simp [isCell]
 case c101 => (first | (simp; done) | (simp [setAll, spl, Value.cells]; done))
 case c99 => (first | (simp; done) | (simp [setAll, spl, Value.cells]; done))
 rintro v L' rfl
 refine .nil (.ptCast (b := b8) (l' := [vint ((partP τ u r).1).kind, vstr ((partP τ u r).1).path, vstr ((partP τ u r).1).data, .slice aw (partP τ u r).1.acl.length cw, vint ((partP τ u r).1).own, vint ((partP τ u r).1).num, vint ((partP τ u r).1).err, nilV]) (by repeat' constructor) (by exact rfl) (.add (slR_nil 43 8) (.add (p := bigR aclR []) (fun h => big_nil h) (.then_n (.ret ?_)))))
 exact .d1 rfl (.cellA rfl ag_43 (by repeat' constructor) (by simp [spl, setAll]) rfl) ⟨(withA (partP τ u r).1 (.slice aw (partP τ u r).1.acl.length cw)).ws nilV, [], rfl, by rw [hT]; exact part_pl τ u r (.slice aw (partP τ u r).1.acl.length cw), by rw [hT]; rfl, ⟨rfl, none, 0, rfl⟩, (fun _ h => by cases h), rfl⟩
theorem pr1_spec (b : Nat) (c : Prop) [Decidable c] : Fn Tryz.prog 87 #[vptr b] [ptc b [.bool (decide c)] 4] fun v L => v = vint (whenZ (¬ c) 110) ∧ L = [ptc b [.bool (decide c)] 4] := by
 refine Fn.intro Tryz.func87 rfl rfl fun F W => ?_
 refine .sr (.an rfl (.sr (.u (.ld rfl ag_4) (.u (.not rfl) (.cv Tryz.func88 [_, _] (pwhen_spec _ _) ?_)))))
 refine .an rfl (.ret ?_)
 exact .dn rfl rfl ⟨by congr 1; unfold whenZ; first | (simp_all; done) | (simp_all; omega) | (split <;> simp_all; done) | (split <;> simp_all <;> omega), rfl⟩
theorem pr2_spec (t : Nat) (τ : Tr) (ids : List Bs) (iv : Value) (r : Rq) (p : HP) (hA : WiA p ⟨0, ids⟩ iv r) (N : Nat) (ho : τ.Ok N) (hN : N ≤ 1099511627776) (b5 : Nat) : Fn Tryz.prog 89 #[vptr b5] [ptc b5 (rqC r) 28] fun v L => v = vint (checkZ r.path) ∧ L = [ptc b5 (rqC r) 28] := by
 refine Fn.intro Tryz.func89 rfl rfl fun F W => ?_
 have hpl := hA.rq.path
 have hpl2 : r.path.length ≤ 1048576 := by omega
 refine .sr (.an rfl (.sr (.u (.fieldAddr rfl fo_28_2) (.u (.ld rfl ag_9) (.cv Tryz.func90 [_] (check_spec r.path hpl2) ?_)))))
 refine .an rfl (.ret ?_)
 exact .vv
theorem pr3_spec (t : Nat) (τ : Tr) (ids : List Bs) (iv : Value) (r : Rq) (p : HP) (hA : WiA p ⟨0, ids⟩ iv r) (N : Nat) (ho : τ.Ok N) (hN : N ≤ 1099511627776) (b8 b5 : Nat) : Fn Tryz.prog 91 #[vptr b8, vptr b5] [ptc b8 (wiC t (⟨0, ids⟩ : Who) iv r) 99, ptc b5 (rqC r) 28, treeR t τ, p] fun v L => v = vint (whenZ (¬ thereT τ r.path) 60) ∧ L = [ptc b8 (wiC t (⟨0, ids⟩ : Who) iv r) 99, ptc b5 (rqC r) 28, treeR t τ, p] := by
 refine Fn.intro Tryz.func91 rfl rfl fun F W => ?_
 refine .sr (.an rfl (.sr (.q (.to (v' := .agg (wiC t (⟨0, ids⟩ : Who) iv r).toArray) (.loadA rfl ag_99 (by repeat' constructor) (by simp [wiC, rqC])) (by rfl)) rfl (.u (.fieldAddr rfl fo_28_2) (.u (.ld rfl ag_9) (.cv Tryz.func92 [_, _] (pthere_spec t τ ⟨0, ids⟩ iv r p hA N ho hN r.path) ?_))))))
 refine .u (.not rfl) (.cv Tryz.func88 [_, _] (pwhen_spec _ _) ?_)
 refine .an rfl (.ret ?_)
 exact .dn rfl rfl ⟨by congr 1; unfold whenZ; first | (simp_all; done) | (simp_all; omega) | (split <;> simp_all; done) | (split <;> simp_all <;> omega), rfl⟩
theorem pr4_spec (t : Nat) (τ : Tr) (ids : List Bs) (iv : Value) (r : Rq) (p : HP) (hA : WiA p ⟨0, ids⟩ iv r) (N : Nat) (ho : τ.Ok N) (hN : N ≤ 1099511627776) (b5 b8 : Nat) : Fn Tryz.prog 93 #[vptr b5, vptr b8] [ptc b5 (rqC r) 28, ptc b8 (wiC t (⟨0, ids⟩ : Who) iv r) 99, treeR t τ, p] fun v L => v = vint (whenZ (r.kind ≠ 10 ∧ ¬ mayT τ ids r.path 1) 65) ∧ L = [ptc b5 (rqC r) 28, ptc b8 (wiC t (⟨0, ids⟩ : Who) iv r) 99, treeR t τ, p] := by
 refine Fn.intro Tryz.func93 rfl rfl fun F W => ?_
 refine .sr (.an rfl (.sr (.u (.fieldAddr rfl fo_28_0) (.u (.ld rfl ag_3) (.ui rfl rfl rfl (.m rfl (.ndec (t := 6) rfl (fun h1_6 => ?_) (fun h1_6 => ?_))))))))
 ·refine .kNT (t := 5) rfl h1_6 (.grun (t := 6) rfl rfl rfl (.q (.to (v' := .agg (wiC t (⟨0, ids⟩ : Who) iv r).toArray) (.loadA rfl ag_99 (by repeat' constructor) (by simp [wiC, rqC])) (by rfl)) rfl (.grun (t := 6) rfl rfl rfl (.u (.fieldAddr rfl fo_28_2) (.grun (t := 6) rfl rfl rfl (.u (.ld rfl ag_9) (.grun (t := 6) rfl rfl rfl (.cv Tryz.func94 [_, _, _] (pmay_spec t τ ⟨0, ids⟩ iv r p hA N ho hN r.path 1) ?_))))))))
  refine .grun (t := 6) rfl rfl rfl (.u (.not rfl) (.u (.pickT rfl rfl) (.cv Tryz.func88 [_, _] (pwhen_spec _ _) ?_)))
  refine .an rfl (.ret ?_)
  exact .dn rfl rfl ⟨by congr 1; unfold whenZ; first | (simp_all; done) | (simp_all; omega) | (split <;> simp_all; done) | (split <;> simp_all <;> omega), rfl⟩
 refine .kNF (t := 5) rfl h1_6 (.gk (.gk (.gk (.gk (.gk (.u (.pickF rfl rfl) (.cv Tryz.func88 [_, _] (pwhen_spec _ _) ?_)))))))
 refine .an rfl (.ret ?_)
 exact .dn rfl rfl ⟨by congr 1; unfold whenZ; first | (simp_all; done) | (simp_all; omega) | (split <;> simp_all; done) | (split <;> simp_all <;> omega), rfl⟩
theorem prfirst (t : Nat) (τ : Tr) (ids : List Bs) (iv : Value) (r : Rq) (p : HP) (hA : WiA p ⟨0, ids⟩ iv r) (N : Nat) (ho : τ.Ok N) (hN : N ≤ 1099511627776) (b5 b8 b9 : Nat) (va : Value) (p0 : HP) (hr : ∀ h : Hp, p0 h → rdS 1 h va 4 [.func (.func 87) #[] #[vptr b9], .func (.func 89) #[] #[vptr b5], .func (.func 91) #[] #[vptr b8, vptr b5], .func (.func 93) #[] #[vptr b5, vptr b8]]) : Fn Tryz.prog 86 #[va] [p0, ptc b9 [.bool (decide (readK r.kind))] 4, ptc b5 (rqC r) 28, ptc b8 (wiC t (⟨0, ids⟩ : Who) iv r) 99, treeR t τ, p] fun v L => v = vint (readX τ ids r) ∧ L = [p0, ptc b9 [.bool (decide (readK r.kind))] 4, ptc b5 (rqC r) 28, ptc b8 (wiC t (⟨0, ids⟩ : Who) iv r) 99, treeR t τ, p] := by
 refine Fn.unpack (pfirst_spec [.func (.func 87) #[] #[vptr b9], .func (.func 89) #[] #[vptr b5], .func (.func 91) #[] #[vptr b8, vptr b5], .func (.func 93) #[] #[vptr b5, vptr b8]] (readE τ ids r) va p0 _ rfl (by show 4 ≤ _; decide) hr ?_)
 intro i hi hz
 have hi2 : i < 4 := hi
 have hc : i = 0 ∨ i = 1 ∨ i = 2 ∨ i = 3 := by omega
 rcases hc with rfl | rfl | rfl | rfl
 ·exact FunV.share (us := []) (vs := []) (ws := [vptr b9]) Tryz.func87 rfl rfl (by repeat' constructor) (pr1_spec b9 _)
 ·exact FunV.share (us := []) (vs := []) (ws := [vptr b5]) Tryz.func89 rfl rfl (by repeat' constructor) (pr2_spec t τ ids iv r p hA N ho hN b5)
 ·exact FunV.share (us := []) (vs := []) (ws := [vptr b8, vptr b5]) Tryz.func91 rfl rfl (by repeat' constructor) (pr3_spec t τ ids iv r p hA N ho hN b8 b5)
 ·exact FunV.share (us := []) (vs := []) (ws := [vptr b5, vptr b8]) Tryz.func93 rfl rfl (by repeat' constructor) (pr4_spec t τ ids iv r p hA N ho hN b5 b8)
theorem pread_spec (t : Nat) (τ : Tr) (ids : List Bs) (iv : Value) (r : Rq) (p : HP) (hA : WiA p ⟨0, ids⟩ iv r) (N : Nat) (ho : τ.Ok N) (hN : N ≤ 1099511627776) : Fn Tryz.prog 40 #[vptr t, iv, .agg (rqC r).toArray] [treeR t τ, p] fun v L =>
    ∃ av kv : Value, v = .agg (rpC (readR τ ids r av kv)).toArray ∧ (∃ a c, av = .slice a (readAl τ ids r).length c) ∧ (∃ a c, kv = .slice a (readKl τ ids r).length c) ∧ L = [treeR t τ, p, slR 85 2 av (readAl τ ids r).length ((readAl τ ids r).flatMap acC), slR 9 1 kv (readKl τ ids r).length (strs (readKl τ ids r))] := by
 refine Fn.intro Tryz.func40 rfl rfl fun F W => ?_
 have hrq := hA.rqcells
 have hcl := hA.cells t
 refine .sr (.oq (.box rfl) ?_)
 rintro v L' ⟨b5, rfl, rfl⟩
 refine .oq (.allocA ze_57) ?_
 rintro v L' ⟨b6, rfl, rfl⟩
 refine .nil (.ptCast (b := b5) (l' := rqC r) (by repeat' constructor) (by exact rfl) (.then_n (.seq (.sm rfl (.q (.ptreq rfl rfl Tryz.underlying30) rfl (.nt (.condF rfl (.sk (.seq (.draw [3, 5, 6] [[0, 1, 2, 3, 4, 5], [6]] mixed (by kernel_rfl) (.go [ptc b5 _ _] (by repeat' constructor) (.k rfl (.fieldAddr rfl fo_28_1) (.k rfl (.ld rfl ag_3) (.k rfl (.move rfl) (.h2 (k := 5) rfl rfl (by kernel_rfl) rfl (.c Tryz.func64 [_] (trzxid_spec t τ)) (by repeat' constructor) (.allocA ze_57) (by repeat' constructor) ?_ ?_)))))))))))))))
 ·rintro v L' ⟨rfl, rfl⟩
  refine D.k rfl (.to (v' := .agg (rpC ⟨r.xid, τ.zx, 0, [], [], st0, nilV, nilV, nilV⟩).toArray) (.buildN (pl := [(0, 1), (1, 1), (2, 1), (3, 1), (4, 1), (5, 9), (14, 1), (15, 1), (16, 1)]) (us := [(0, vint r.xid), (1, vint τ.zx)]) (cells := rpC ⟨r.xid, τ.zx, 0, [], [], st0, nilV, nilV, nilV⟩) Tryz.underlying57 (by kernel_rfl) ze_57 rfl rfl) rfl) (.hh rfl (.allocA ze_57) ?_)
  rintro v L' ⟨b7, rfl, rfl⟩
  refine D.ph (.g0 (.hh rfl (.storeA rfl rfl ?c16 sz_57 ?c19 ?c17 (nfz0 _ _)) ?_))
  case c16 => exact rp_cells rfl rfl rfl
  case c19 => rfl
  case c17 => simp
  rintro v L' rfl
  refine D.ph (.fin (.ptCast (b := b7) (l' := rpC ⟨r.xid, τ.zx, 0, [], [], st0, nilV, nilV, nilV⟩) (by repeat' constructor) (by exact rfl) (.then_n (.sm rfl (.m rfl (.q (.to (v' := .agg (rqC r).toArray) (.loadA rfl ag_28 (by repeat' constructor) (by simp [rqC])) (by rfl)) rfl (.q (.to (v' := .agg (wiC t (⟨0, ids⟩ : Who) iv r).toArray) (.buildN (pl := [(0, 1), (1, 1), (2, 1), (3, 10)]) (us := [(0, vptr t), (1, vint (⟨0, ids⟩ : Who).ses), (2, iv), (3, .agg (rqC r).toArray)]) (cells := wiC t (⟨0, ids⟩ : Who) iv r) Tryz.underlying99 (by kernel_rfl) ze_99 rfl (fill_wish t (⟨0, ids⟩ : Who) iv hA.shape r)) rfl) rfl (.oq (.allocA ze_99) ?_))))))))
  rintro v L' ⟨b8, rfl, rfl⟩
  refine .oq (.storeA rfl rfl ?c27 sz_99 ?c30 ?c28 (nfz0 _ _)) ?_
  case c27 => exact fun v hv => List.all_eq_true.1 hcl v hv
  case c30 => rfl
  case c28 => simp [wiC, rqC]
  rintro v L' rfl
  refine .nil (.ptCast (b := b8) (l' := wiC t (⟨0, ids⟩ : Who) iv r) (by repeat' constructor) (by exact rfl) (.then_n (.seq (.joinK (ι := Nat) (fun q E => (9, vptr q) :: E) (fun q => [ptc q [.bool (decide (readK r.kind))] 4]) (fun q => True) (pre := []) (ts := [0, 5, 6, 7, 8]) (.cons rfl (.cons rfl (.cons rfl (.cons rfl (.cons rfl (.nil)))))) (by repeat' constructor) ?_ ?_))))
  ·refine .region (.u (.fieldAddr rfl fo_28_0) (.u (.ld rfl ag_3) (.ui rfl rfl rfl (.m rfl (.dec (t := 25) rfl (fun h5_25 => ?_) (fun h5_25 => ?_))))))
   ·refine .kDT (t := 24) rfl h5_25 (.gk (.gk (.gk (.u (.pickT rfl rfl) (.m rfl (.gk (.gk (.gk (.u (.pickT rfl rfl) (.m rfl (.gk (.gk (.gk (.q (.as (v' := .bool (decide (readK r.kind))) (by simp [readK, h5_25]) (.pickT rfl rfl)) rfl (.oq (.alloc ze_4) ?_)))))))))))))))
    rintro v L' ⟨b9, rfl, rfl⟩
    refine .st rfl rfl rfl sz_4 ?_
    refine .nt ?_
    exact .mk (b9) (trivial) ⟨rfl, rfl, rfl, rfl, rfl, rfl, trivial⟩
   refine .kDF (t := 24) rfl h5_25 (.grun (t := 25) rfl rfl rfl (.u (.fieldAddr rfl fo_28_0) (.grun (t := 25) rfl rfl rfl (.u (.ld rfl ag_3) (.grun (t := 25) rfl rfl rfl (.ui rfl rfl rfl (.u (.pickF rfl rfl) (.m rfl (.dec (t := 30) rfl (fun h5_30 => ?_) (fun h5_30 => ?_))))))))))
   ·refine .kDT (t := 28) rfl h5_30 (.kDT (t := 29) rfl h5_30 (.gk (.gk (.gk (.u (.pickT rfl rfl) (.m rfl (.gk (.gk (.gk (.q (.as (v' := .bool (decide (readK r.kind))) (by simp [readK, h5_25, h5_30]) (.pickT rfl rfl)) rfl (.oq (.alloc ze_4) ?_)))))))))))
    rintro v L' ⟨b9, rfl, rfl⟩
    refine .st rfl rfl rfl sz_4 ?_
    refine .nt ?_
    exact .mk (b9) (trivial) ⟨rfl, rfl, rfl, rfl, rfl, rfl, trivial⟩
   refine .kDF (t := 28) rfl h5_30 (.kDF (t := 29) rfl h5_30 (.grun (t := 30) rfl rfl rfl (.u (.fieldAddr rfl fo_28_0) (.grun (t := 30) rfl rfl rfl (.u (.ld rfl ag_3) (.grun (t := 30) rfl rfl rfl (.ui rfl rfl rfl (.u (.pickF rfl rfl) (.m rfl (.dec (t := 35) rfl (fun h5_35 => ?_) (fun h5_35 => ?_)))))))))))
   ·refine .kDT (t := 33) rfl h5_35 (.kDT (t := 34) rfl h5_35 (.gk (.gk (.gk (.q (.as (v' := .bool (decide (readK r.kind))) (by simp [readK, h5_25, h5_30, h5_35]) (.pickT rfl rfl)) rfl (.oq (.alloc ze_4) ?_))))))
    rintro v L' ⟨b9, rfl, rfl⟩
    refine .st rfl rfl rfl sz_4 ?_
    refine .nt ?_
    exact .mk (b9) (trivial) ⟨rfl, rfl, rfl, rfl, rfl, rfl, trivial⟩
   refine .kDF (t := 33) rfl h5_35 (.kDF (t := 34) rfl h5_35 (.grun (t := 35) rfl rfl rfl (.u (.fieldAddr rfl fo_28_0) (.grun (t := 35) rfl rfl rfl (.u (.ld rfl ag_3) (.grun (t := 35) rfl rfl rfl (.ui rfl rfl rfl (.q (.as (v' := .bool (decide (readK r.kind))) (by simp [readK, h5_25, h5_30, h5_35]) (.pickF rfl rfl)) rfl (.oq (.alloc ze_4) ?_)))))))))
   rintro v L' ⟨b9, rfl, rfl⟩
   refine .st rfl rfl rfl sz_4 ?_
   refine .nt ?_
   exact .mk (b9) (trivial) ⟨rfl, rfl, rfl, rfl, rfl, rfl, trivial⟩
  rintro b9 _
  refine .sr (.q (.func (us := []) (vs := [_]) rfl rfl) rfl (.q (.func (us := []) (vs := [_]) rfl rfl) rfl (.q (.func (us := []) (vs := [_, _]) rfl rfl) rfl (.q (.func (us := []) (vs := [_, _]) rfl rfl) rfl (.oq (.buildSlice1 (vs := [_, _, _, _]) el_187 ze_150 rfl rfl rfl rfl rfl (by decide)) ?_)))))
  rintro v L' ⟨bf, rfl, rfl⟩
  refine .slMake (b := bf) (n := 4) (c := 4) (xs := [.func (.func 87) #[] #[vptr b9], .func (.func 89) #[] #[vptr b5], .func (.func 91) #[] #[vptr b8, vptr b5], .func (.func 93) #[] #[vptr b5, vptr b8]]) (by repeat' constructor) (by decide) (by exact Nat.le_refl 4) rfl (.cv Tryz.func86 [_] (prfirst t τ ids iv r p hA N ho hN b5 b8 b9 _ _ (fun _ => slR_rd)) ?_)
  refine .u (.fieldAddr rfl fo_57_2) (.oq (.store rfl rfl rfl sz_40 ?c79 (nfz0 _ _)) ?_)
  case c79 => simp
  rintro v L' rfl
  refine .nil (.ptCast (b := b7) (l' := rpC ⟨r.xid, τ.zx, readX τ ids r, [], [], st0, nilV, nilV, nilV⟩) (by repeat' constructor) (by exact rfl) (.then_n (.seq (.sr (.u (.fieldAddr rfl fo_57_2) (.u (.ld rfl ag_40) (.ui rfl rfl rfl (.nt (.condN rfl (fun h49 => ?_) (fun h49 => ?_))))))))))
  ·refine .sr (.q (.to (v' := .agg (rpC (⟨r.xid, τ.zx, readX τ ids r, [], [], st0, nilV, nilV, nilV⟩ : Rp)).toArray) (.loadA rfl ag_57 (by repeat' constructor) (by simp)) (by rfl)) rfl (.oq (.storeA rfl rfl ?c86 sz_57 ?c89 ?c87 (nfz0 _ _)) ?_))
   case c86 => exact rp_cells rfl rfl rfl
   case c89 => rfl
   case c87 => simp
   rintro v L' rfl
   refine .nil ?_
   have hAl : readAl τ ids r = [] := readAl_no (fun g => h49 g.1)
   have hKl : readKl τ ids r = [] := readKl_no (fun g => h49 g.1)
   refine .add (slR_nil 85 2) (.as (q := slR 85 2 nilV (readAl τ ids r).length ((readAl τ ids r).flatMap acC)) (p := slR 85 2 nilV 0 []) (by repeat' constructor) (by rw [hAl]; rfl) (.add (slR_nil 9 1) (.as (q := slR 9 1 nilV (readKl τ ids r).length (strs (readKl τ ids r))) (p := slR 9 1 nilV 0 []) (by repeat' constructor) (by rw [hKl]; rfl) (.ptCast (b := b6) (l' := rpC (readR τ ids r nilV nilV)) (by repeat' constructor) (by rw [readR_bad h49]; rfl) (.then_n (.rt ?_))))))
   exact .d1 rfl (.cellA rfl ag_57 (by repeat' constructor) (by simp) rfl) ⟨nilV, nilV, rfl, ⟨_, _, congrArg (fun l : List Ac => Value.slice _ l.length _) hAl.symm⟩, ⟨_, _, congrArg (fun l : List Bs => Value.slice _ l.length _) hKl.symm⟩, rfl⟩
  have hx : readX τ ids r = 0 := by omega
  obtain ⟨hrk, hth⟩ := read_there hx
  rw [hx]
  refine .sk (.sm rfl (.u (.fieldAddr rfl fo_28_2) (.u (.ld rfl ag_9) (.cv Tryz.func13 [_, _] (trstat_spec t τ r.path N ho hN) ?_))))
  refine .m rfl (.u (.extract rfl rfl) (.u (.extract rfl rfl) (.u (.fieldAddr rfl fo_57_5) (.oq (.storeA rfl rfl ?c99 sz_37 ?c102 ?c100 (nfz0 _ _)) ?_))))
  case c99 => intro v hv; simp only [stC, List.mem_cons, List.not_mem_nil, or_false] at hv; rcases hv with rfl | rfl | rfl | rfl | rfl | rfl | rfl | rfl | rfl <;> rfl
  case c102 => rfl
  case c100 => simp [stC]
  rintro v L' rfl
  refine .nil (.ptCast (b := b7) (l' := rpC ⟨r.xid, τ.zx, 0, [], [], statD τ r.path, nilV, nilV, nilV⟩) (by repeat' constructor) (by exact rfl) (.then_n (.seq (.sr (.u (.fieldAddr rfl fo_28_0) (.u (.ld rfl ag_3) (.nt (.block (.sr (.ui rfl rfl rfl (.an rfl (.condD rfl (fun h61 => ?_) (fun h61 => ?_)))))))))))))
  ·refine .region (.m rfl (.u (.fieldAddr rfl fo_28_2) (.u (.ld rfl ag_9) (.cv Tryz.func54 [_, _] (trget_spec t τ r.path N ho hN) ?_))))
   refine .m rfl (.u (.extract rfl rfl) (.u (.extract rfl rfl) (.u (.extract rfl rfl) (.u (.fieldAddr rfl fo_57_4) (.oq (.store rfl rfl rfl sz_9 ?c116 (nfz0 _ _)) ?_)))))
   case c116 => simp
   rintro v L' rfl
   refine .nil (.ptCast (b := b7) (l' := rpC ⟨r.xid, τ.zx, 0, [], dataD τ r.path, statD τ r.path, nilV, nilV, nilV⟩) (by repeat' constructor) (by exact rfl) (.blk_n (.then_n (.sr (.q (.to (v' := .agg (rpC (⟨r.xid, τ.zx, 0, [], dataD τ r.path, statD τ r.path, nilV, nilV, nilV⟩ : Rp)).toArray) (.loadA rfl ag_57 (by repeat' constructor) (by simp)) (by rfl)) rfl (.oq (.storeA rfl rfl ?c120 sz_57 ?c123 ?c121 (nfz0 _ _)) ?_))))))
   case c120 => exact rp_cells rfl rfl rfl
   case c123 => rfl
   case c121 => simp
   rintro v L' rfl
   refine .nil ?_
   have hAl : readAl τ ids r = [] := readAl_no (fun g => by have := g.2; omega)
   have hKl : readKl τ ids r = [] := readKl_no (fun g => by have := g.2; omega)
   refine .add (slR_nil 85 2) (.as (q := slR 85 2 nilV (readAl τ ids r).length ((readAl τ ids r).flatMap acC)) (p := slR 85 2 nilV 0 []) (by repeat' constructor) (by rw [hAl]; rfl) (.add (slR_nil 9 1) (.as (q := slR 9 1 nilV (readKl τ ids r).length (strs (readKl τ ids r))) (p := slR 9 1 nilV 0 []) (by repeat' constructor) (by rw [hKl]; rfl) (.ptCast (b := b6) (l' := rpC (readR τ ids r nilV nilV)) (by repeat' constructor) (by rw [readR_get hx h61]; rfl) (.then_n (.ret ?_))))))
   exact .d1 rfl (.cellA rfl ag_57 (by repeat' constructor) (by simp) rfl) ⟨nilV, nilV, rfl, ⟨_, _, congrArg (fun l : List Ac => Value.slice _ l.length _) hAl.symm⟩, ⟨_, _, congrArg (fun l : List Bs => Value.slice _ l.length _) hKl.symm⟩, rfl⟩
  refine .sr (.ui rfl rfl rfl (.an rfl (.condD rfl (fun h72 => ?_) (fun h72 => ?_))))
  ·refine .region (.m rfl (.u (.fieldAddr rfl fo_28_2) (.u (.ld rfl ag_9) (.oq (.c Tryz.func57 [_, _] (trkids_spec t τ r.path N ho hN)) ?_))))
   rintro v L' ⟨uk, lk, rfl, -, hlk, ⟨ak, ck, rfl⟩, rfl⟩; rw [if_pos hth] at hlk; subst hlk
   refine .m rfl (.u (.extract rfl rfl) (.u (.extract rfl rfl) (.u (.fieldAddr rfl fo_57_7) (.oq (.store rfl rfl rfl sz_23 ?c134 (nfz0 _ _)) ?_))))
   case c134 => simp
   rintro v L' rfl
   refine .nil (.ptCast (b := b7) (l' := rpC ⟨r.xid, τ.zx, 0, [], [], statD τ r.path, nilV, (.slice ak (kidsZ τ r.path).length ck), nilV⟩) (by repeat' constructor) (by exact rfl) (.blk_n (.then_n (.sr (.q (.to (v' := .agg (rpC (⟨r.xid, τ.zx, 0, [], [], statD τ r.path, (nilV), (.slice ak (kidsZ τ r.path).length ck), nilV⟩ : Rp)).toArray) (.loadA rfl ag_57 (by repeat' constructor) (by simp)) (by rfl)) rfl (.oq (.storeA rfl rfl ?c138 sz_57 ?c141 ?c139 (nfz0 _ _)) ?_))))))
   case c138 => exact rp_cells rfl rfl rfl
   case c141 => rfl
   case c139 => simp
   rintro v L' rfl
   refine .nil ?_
   have hAl : readAl τ ids r = [] := readAl_no (fun g => by have := g.2; omega)
   have hKl : readKl τ ids r = kidsZ τ r.path := readKl_yes hx h72
   refine .add (slR_nil 85 2) (.as (q := slR 85 2 nilV (readAl τ ids r).length ((readAl τ ids r).flatMap acC)) (p := slR 85 2 nilV 0 []) (by repeat' constructor) (by rw [hAl]; rfl) (.as (q := slR 9 1 (.slice ak (kidsZ τ r.path).length ck) (readKl τ ids r).length (strs (readKl τ ids r))) (p := slR 9 1 (.slice ak (kidsZ τ r.path).length ck) (kidsZ τ r.path).length (strs (kidsZ τ r.path))) (by repeat' constructor) (by rw [hKl]) (.ptCast (b := b6) (l' := rpC (readR τ ids r nilV (.slice ak (kidsZ τ r.path).length ck))) (by repeat' constructor) (by rw [readR_other hx h61]; rfl) (.then_n (.ret ?_)))))
   exact .d1 rfl (.cellA rfl ag_57 (by repeat' constructor) (by simp) rfl) ⟨nilV, .slice ak (kidsZ τ r.path).length ck, rfl, ⟨_, _, congrArg (fun l : List Ac => Value.slice _ l.length _) hAl.symm⟩, ⟨_, _, congrArg (fun l : List Bs => Value.slice _ l.length _) hKl.symm⟩, rfl⟩
  refine .sr (.ui rfl rfl rfl (.an rfl (.condD rfl (fun h82 => ?_) (fun h82 => ?_))))
  ·refine .region (.m rfl (.u (.fieldAddr rfl fo_28_2) (.u (.ld rfl ag_9) (.oq (.c Tryz.func56 [_, _] (tracl_spec t τ r.path N ho)) ?_))))
   rintro v L' ⟨ua, rfl, ⟨aa, ca, rfl⟩, rfl⟩
   refine .m rfl (.u (.extract rfl rfl) (.u (.extract rfl rfl) (.u (.fieldAddr rfl fo_57_6) (.oq (.store rfl rfl rfl sz_24 ?c152 (nfz0 _ _)) ?_))))
   case c152 => simp
   rintro v L' rfl
   refine .nil (.ptCast (b := b7) (l' := rpC ⟨r.xid, τ.zx, 0, [], [], statD τ r.path, (.slice aa (aclD τ r.path).length ca), nilV, nilV⟩) (by repeat' constructor) (by exact rfl) (.blk_n (.then_n (.sr (.q (.to (v' := .agg (rpC (⟨r.xid, τ.zx, 0, [], [], statD τ r.path, (.slice aa (aclD τ r.path).length ca), (nilV), nilV⟩ : Rp)).toArray) (.loadA rfl ag_57 (by repeat' constructor) (by simp)) (by rfl)) rfl (.oq (.storeA rfl rfl ?c156 sz_57 ?c159 ?c157 (nfz0 _ _)) ?_))))))
   case c156 => exact rp_cells rfl rfl rfl
   case c159 => rfl
   case c157 => simp
   rintro v L' rfl
   refine .nil ?_
   have hAl : readAl τ ids r = aclD τ r.path := readAl_yes hx h82
   have hKl : readKl τ ids r = [] := readKl_no (fun g => by have := g.2; omega)
   refine .add (slR_nil 9 1) (.as (q := slR 9 1 nilV (readKl τ ids r).length (strs (readKl τ ids r))) (p := slR 9 1 nilV 0 []) (by repeat' constructor) (by rw [hKl]; rfl) (.as (q := slR 85 2 (.slice aa (aclD τ r.path).length ca) (readAl τ ids r).length ((readAl τ ids r).flatMap acC)) (p := slR 85 2 (.slice aa (aclD τ r.path).length ca) (aclD τ r.path).length ((aclD τ r.path).flatMap acC)) (by repeat' constructor) (by rw [hAl]) (.ptCast (b := b6) (l' := rpC (readR τ ids r (.slice aa (aclD τ r.path).length ca) nilV)) (by repeat' constructor) (by rw [readR_other hx h61]; rfl) (.then_n (.ret ?_)))))
   exact .d1 rfl (.cellA rfl ag_57 (by repeat' constructor) (by simp) rfl) ⟨.slice aa (aclD τ r.path).length ca, nilV, rfl, ⟨_, _, congrArg (fun l : List Ac => Value.slice _ l.length _) hAl.symm⟩, ⟨_, _, congrArg (fun l : List Bs => Value.slice _ l.length _) hKl.symm⟩, rfl⟩
  refine .skip (.blk_n (.then_n (.sr (.q (.to (v' := .agg (rpC (⟨r.xid, τ.zx, 0, [], [], statD τ r.path, (nilV), (nilV), nilV⟩ : Rp)).toArray) (.loadA rfl ag_57 (by repeat' constructor) (by simp)) (by rfl)) rfl (.oq (.storeA rfl rfl ?c162 sz_57 ?c165 ?c163 (nfz0 _ _)) ?_)))))
  case c162 => exact rp_cells rfl rfl rfl
  case c165 => rfl
  case c163 => simp
  rintro v L' rfl
  refine .nil ?_
  have hAl : readAl τ ids r = [] := readAl_no (fun g => h82 g.2)
  have hKl : readKl τ ids r = [] := readKl_no (fun g => h72 g.2)
  refine .add (slR_nil 85 2) (.as (q := slR 85 2 nilV (readAl τ ids r).length ((readAl τ ids r).flatMap acC)) (p := slR 85 2 nilV 0 []) (by repeat' constructor) (by rw [hAl]; rfl) (.add (slR_nil 9 1) (.as (q := slR 9 1 nilV (readKl τ ids r).length (strs (readKl τ ids r))) (p := slR 9 1 nilV 0 []) (by repeat' constructor) (by rw [hKl]; rfl) (.ptCast (b := b6) (l' := rpC (readR τ ids r nilV nilV)) (by repeat' constructor) (by rw [readR_other hx h61]; rfl) (.then_n (.ret ?_))))))
  exact .d1 rfl (.cellA rfl ag_57 (by repeat' constructor) (by simp) rfl) ⟨nilV, nilV, rfl, ⟨_, _, congrArg (fun l : List Ac => Value.slice _ l.length _) hAl.symm⟩, ⟨_, _, congrArg (fun l : List Bs => Value.slice _ l.length _) hKl.symm⟩, rfl⟩
 rintro v L' ⟨b7, rfl, rfl⟩
 refine D.hh rfl (.c Tryz.func64 [_] (trzxid_spec t τ)) ?_
 rintro v L' ⟨rfl, rfl⟩
 refine D.kv rfl (.to (v' := .agg (rpC ⟨r.xid, τ.zx, 0, [], [], st0, nilV, nilV, nilV⟩).toArray) (.buildN (pl := [(0, 1), (1, 1), (2, 1), (3, 1), (4, 1), (5, 9), (14, 1), (15, 1), (16, 1)]) (us := [(0, vint r.xid), (1, vint τ.zx)]) (cells := rpC ⟨r.xid, τ.zx, 0, [], [], st0, nilV, nilV, nilV⟩) Tryz.underlying57 (by kernel_rfl) ze_57 rfl rfl) rfl) (.ph (.g0 (.hh rfl (.storeA rfl rfl ?c171 sz_57 ?c174 ?c172 (nfz0 _ _)) ?_)))
 case c171 => exact rp_cells rfl rfl rfl
 case c174 => rfl
 case c172 => simp
 rintro v L' rfl
 refine D.ph (.fin (.ptCast (b := b7) (l' := rpC ⟨r.xid, τ.zx, 0, [], [], st0, nilV, nilV, nilV⟩) (by repeat' constructor) (by exact rfl) (.then_n (.sm rfl (.m rfl (.q (.to (v' := .agg (rqC r).toArray) (.loadA rfl ag_28 (by repeat' constructor) (by simp [rqC])) (by rfl)) rfl (.q (.to (v' := .agg (wiC t (⟨0, ids⟩ : Who) iv r).toArray) (.buildN (pl := [(0, 1), (1, 1), (2, 1), (3, 10)]) (us := [(0, vptr t), (1, vint (⟨0, ids⟩ : Who).ses), (2, iv), (3, .agg (rqC r).toArray)]) (cells := wiC t (⟨0, ids⟩ : Who) iv r) Tryz.underlying99 (by kernel_rfl) ze_99 rfl (fill_wish t (⟨0, ids⟩ : Who) iv hA.shape r)) rfl) rfl (.oq (.allocA ze_99) ?_))))))))
 rintro v L' ⟨b8, rfl, rfl⟩
 refine .oq (.storeA rfl rfl ?c182 sz_99 ?c185 ?c183 (nfz0 _ _)) ?_
 case c182 => exact fun v hv => List.all_eq_true.1 hcl v hv
 case c185 => rfl
 case c183 => simp [wiC, rqC]
 rintro v L' rfl
 refine .nil (.ptCast (b := b8) (l' := wiC t (⟨0, ids⟩ : Who) iv r) (by repeat' constructor) (by exact rfl) (.then_n (.seq (.joinK (ι := Nat) (fun q E => (9, vptr q) :: E) (fun q => [ptc q [.bool (decide (readK r.kind))] 4]) (fun q => True) (pre := []) (ts := [0, 5, 6, 7, 8]) (.cons rfl (.cons rfl (.cons rfl (.cons rfl (.cons rfl (.nil)))))) (by repeat' constructor) ?_ ?_))))
 ·refine .region (.u (.fieldAddr rfl fo_28_0) (.u (.ld rfl ag_3) (.ui rfl rfl rfl (.m rfl (.dec (t := 25) rfl (fun h5_25 => ?_) (fun h5_25 => ?_))))))
  ·refine .kDT (t := 24) rfl h5_25 (.gk (.gk (.gk (.u (.pickT rfl rfl) (.m rfl (.gk (.gk (.gk (.u (.pickT rfl rfl) (.m rfl (.gk (.gk (.gk (.q (.as (v' := .bool (decide (readK r.kind))) (by simp [readK, h5_25]) (.pickT rfl rfl)) rfl (.oq (.alloc ze_4) ?_)))))))))))))))
   rintro v L' ⟨b9, rfl, rfl⟩
   refine .st rfl rfl rfl sz_4 ?_
   refine .nt ?_
   exact .mk (b9) (trivial) ⟨rfl, rfl, rfl, rfl, rfl, rfl, trivial⟩
  refine .kDF (t := 24) rfl h5_25 (.grun (t := 25) rfl rfl rfl (.u (.fieldAddr rfl fo_28_0) (.grun (t := 25) rfl rfl rfl (.u (.ld rfl ag_3) (.grun (t := 25) rfl rfl rfl (.ui rfl rfl rfl (.u (.pickF rfl rfl) (.m rfl (.dec (t := 30) rfl (fun h5_30 => ?_) (fun h5_30 => ?_))))))))))
  ·refine .kDT (t := 28) rfl h5_30 (.kDT (t := 29) rfl h5_30 (.gk (.gk (.gk (.u (.pickT rfl rfl) (.m rfl (.gk (.gk (.gk (.q (.as (v' := .bool (decide (readK r.kind))) (by simp [readK, h5_25, h5_30]) (.pickT rfl rfl)) rfl (.oq (.alloc ze_4) ?_)))))))))))
   rintro v L' ⟨b9, rfl, rfl⟩
   refine .st rfl rfl rfl sz_4 ?_
   refine .nt ?_
   exact .mk (b9) (trivial) ⟨rfl, rfl, rfl, rfl, rfl, rfl, trivial⟩
  refine .kDF (t := 28) rfl h5_30 (.kDF (t := 29) rfl h5_30 (.grun (t := 30) rfl rfl rfl (.u (.fieldAddr rfl fo_28_0) (.grun (t := 30) rfl rfl rfl (.u (.ld rfl ag_3) (.grun (t := 30) rfl rfl rfl (.ui rfl rfl rfl (.u (.pickF rfl rfl) (.m rfl (.dec (t := 35) rfl (fun h5_35 => ?_) (fun h5_35 => ?_)))))))))))
  ·refine .kDT (t := 33) rfl h5_35 (.kDT (t := 34) rfl h5_35 (.gk (.gk (.gk (.q (.as (v' := .bool (decide (readK r.kind))) (by simp [readK, h5_25, h5_30, h5_35]) (.pickT rfl rfl)) rfl (.oq (.alloc ze_4) ?_))))))
   rintro v L' ⟨b9, rfl, rfl⟩
   refine .st rfl rfl rfl sz_4 ?_
   refine .nt ?_
   exact .mk (b9) (trivial) ⟨rfl, rfl, rfl, rfl, rfl, rfl, trivial⟩
  refine .kDF (t := 33) rfl h5_35 (.kDF (t := 34) rfl h5_35 (.grun (t := 35) rfl rfl rfl (.u (.fieldAddr rfl fo_28_0) (.grun (t := 35) rfl rfl rfl (.u (.ld rfl ag_3) (.grun (t := 35) rfl rfl rfl (.ui rfl rfl rfl (.q (.as (v' := .bool (decide (readK r.kind))) (by simp [readK, h5_25, h5_30, h5_35]) (.pickF rfl rfl)) rfl (.oq (.alloc ze_4) ?_)))))))))
  rintro v L' ⟨b9, rfl, rfl⟩
  refine .st rfl rfl rfl sz_4 ?_
  refine .nt ?_
  exact .mk (b9) (trivial) ⟨rfl, rfl, rfl, rfl, rfl, rfl, trivial⟩
 rintro b9 _
 refine .sr (.q (.func (us := []) (vs := [_]) rfl rfl) rfl (.q (.func (us := []) (vs := [_]) rfl rfl) rfl (.q (.func (us := []) (vs := [_, _]) rfl rfl) rfl (.q (.func (us := []) (vs := [_, _]) rfl rfl) rfl (.oq (.buildSlice1 (vs := [_, _, _, _]) el_187 ze_150 rfl rfl rfl rfl rfl (by decide)) ?_)))))
 rintro v L' ⟨bf, rfl, rfl⟩
 refine .slMake (b := bf) (n := 4) (c := 4) (xs := [.func (.func 87) #[] #[vptr b9], .func (.func 89) #[] #[vptr b5], .func (.func 91) #[] #[vptr b8, vptr b5], .func (.func 93) #[] #[vptr b5, vptr b8]]) (by repeat' constructor) (by decide) (by exact Nat.le_refl 4) rfl (.cv Tryz.func86 [_] (prfirst t τ ids iv r p hA N ho hN b5 b8 b9 _ _ (fun _ => slR_rd)) ?_)
 refine .u (.fieldAddr rfl fo_57_2) (.oq (.store rfl rfl rfl sz_40 ?c234 (nfz0 _ _)) ?_)
 case c234 => simp
 rintro v L' rfl
 refine .nil (.ptCast (b := b7) (l' := rpC ⟨r.xid, τ.zx, readX τ ids r, [], [], st0, nilV, nilV, nilV⟩) (by repeat' constructor) (by exact rfl) (.then_n (.seq (.sr (.u (.fieldAddr rfl fo_57_2) (.u (.ld rfl ag_40) (.ui rfl rfl rfl (.nt (.condN rfl (fun h49 => ?_) (fun h49 => ?_))))))))))
 ·refine .sr (.q (.to (v' := .agg (rpC (⟨r.xid, τ.zx, readX τ ids r, [], [], st0, nilV, nilV, nilV⟩ : Rp)).toArray) (.loadA rfl ag_57 (by repeat' constructor) (by simp)) (by rfl)) rfl (.oq (.storeA rfl rfl ?c241 sz_57 ?c244 ?c242 (nfz0 _ _)) ?_))
  case c241 => exact rp_cells rfl rfl rfl
  case c244 => rfl
  case c242 => simp
  rintro v L' rfl
  refine .nil ?_
  have hAl : readAl τ ids r = [] := readAl_no (fun g => h49 g.1)
  have hKl : readKl τ ids r = [] := readKl_no (fun g => h49 g.1)
  refine .add (slR_nil 85 2) (.as (q := slR 85 2 nilV (readAl τ ids r).length ((readAl τ ids r).flatMap acC)) (p := slR 85 2 nilV 0 []) (by repeat' constructor) (by rw [hAl]; rfl) (.add (slR_nil 9 1) (.as (q := slR 9 1 nilV (readKl τ ids r).length (strs (readKl τ ids r))) (p := slR 9 1 nilV 0 []) (by repeat' constructor) (by rw [hKl]; rfl) (.ptCast (b := b6) (l' := rpC (readR τ ids r nilV nilV)) (by repeat' constructor) (by rw [readR_bad h49]; rfl) (.then_n (.rt ?_))))))
  exact .d1 rfl (.cellA rfl ag_57 (by repeat' constructor) (by simp) rfl) ⟨nilV, nilV, rfl, ⟨_, _, congrArg (fun l : List Ac => Value.slice _ l.length _) hAl.symm⟩, ⟨_, _, congrArg (fun l : List Bs => Value.slice _ l.length _) hKl.symm⟩, rfl⟩
 have hx : readX τ ids r = 0 := by omega
 obtain ⟨hrk, hth⟩ := read_there hx
 rw [hx]
 refine .sk (.sm rfl (.u (.fieldAddr rfl fo_28_2) (.u (.ld rfl ag_9) (.cv Tryz.func13 [_, _] (trstat_spec t τ r.path N ho hN) ?_))))
 refine .m rfl (.u (.extract rfl rfl) (.u (.extract rfl rfl) (.u (.fieldAddr rfl fo_57_5) (.oq (.storeA rfl rfl ?c254 sz_37 ?c257 ?c255 (nfz0 _ _)) ?_))))
 case c254 => intro v hv; simp only [stC, List.mem_cons, List.not_mem_nil, or_false] at hv; rcases hv with rfl | rfl | rfl | rfl | rfl | rfl | rfl | rfl | rfl <;> rfl
 case c257 => rfl
 case c255 => simp [stC]
 rintro v L' rfl
 refine .nil (.ptCast (b := b7) (l' := rpC ⟨r.xid, τ.zx, 0, [], [], statD τ r.path, nilV, nilV, nilV⟩) (by repeat' constructor) (by exact rfl) (.then_n (.seq (.sr (.u (.fieldAddr rfl fo_28_0) (.u (.ld rfl ag_3) (.nt (.block (.sr (.ui rfl rfl rfl (.an rfl (.condD rfl (fun h61 => ?_) (fun h61 => ?_)))))))))))))
 ·refine .region (.m rfl (.u (.fieldAddr rfl fo_28_2) (.u (.ld rfl ag_9) (.cv Tryz.func54 [_, _] (trget_spec t τ r.path N ho hN) ?_))))
  refine .m rfl (.u (.extract rfl rfl) (.u (.extract rfl rfl) (.u (.extract rfl rfl) (.u (.fieldAddr rfl fo_57_4) (.oq (.store rfl rfl rfl sz_9 ?c271 (nfz0 _ _)) ?_)))))
  case c271 => simp
  rintro v L' rfl
  refine .nil (.ptCast (b := b7) (l' := rpC ⟨r.xid, τ.zx, 0, [], dataD τ r.path, statD τ r.path, nilV, nilV, nilV⟩) (by repeat' constructor) (by exact rfl) (.blk_n (.then_n (.sr (.q (.to (v' := .agg (rpC (⟨r.xid, τ.zx, 0, [], dataD τ r.path, statD τ r.path, nilV, nilV, nilV⟩ : Rp)).toArray) (.loadA rfl ag_57 (by repeat' constructor) (by simp)) (by rfl)) rfl (.oq (.storeA rfl rfl ?c275 sz_57 ?c278 ?c276 (nfz0 _ _)) ?_))))))
  case c275 => exact rp_cells rfl rfl rfl
  case c278 => rfl
  case c276 => simp
  rintro v L' rfl
  refine .nil ?_
  have hAl : readAl τ ids r = [] := readAl_no (fun g => by have := g.2; omega)
  have hKl : readKl τ ids r = [] := readKl_no (fun g => by have := g.2; omega)
  refine .add (slR_nil 85 2) (.as (q := slR 85 2 nilV (readAl τ ids r).length ((readAl τ ids r).flatMap acC)) (p := slR 85 2 nilV 0 []) (by repeat' constructor) (by rw [hAl]; rfl) (.add (slR_nil 9 1) (.as (q := slR 9 1 nilV (readKl τ ids r).length (strs (readKl τ ids r))) (p := slR 9 1 nilV 0 []) (by repeat' constructor) (by rw [hKl]; rfl) (.ptCast (b := b6) (l' := rpC (readR τ ids r nilV nilV)) (by repeat' constructor) (by rw [readR_get hx h61]; rfl) (.then_n (.ret ?_))))))
  exact .d1 rfl (.cellA rfl ag_57 (by repeat' constructor) (by simp) rfl) ⟨nilV, nilV, rfl, ⟨_, _, congrArg (fun l : List Ac => Value.slice _ l.length _) hAl.symm⟩, ⟨_, _, congrArg (fun l : List Bs => Value.slice _ l.length _) hKl.symm⟩, rfl⟩
 refine .sr (.ui rfl rfl rfl (.an rfl (.condD rfl (fun h72 => ?_) (fun h72 => ?_))))
 ·refine .region (.m rfl (.u (.fieldAddr rfl fo_28_2) (.u (.ld rfl ag_9) (.oq (.c Tryz.func57 [_, _] (trkids_spec t τ r.path N ho hN)) ?_))))
  rintro v L' ⟨uk, lk, rfl, -, hlk, ⟨ak, ck, rfl⟩, rfl⟩; rw [if_pos hth] at hlk; subst hlk
  refine .m rfl (.u (.extract rfl rfl) (.u (.extract rfl rfl) (.u (.fieldAddr rfl fo_57_7) (.oq (.store rfl rfl rfl sz_23 ?c289 (nfz0 _ _)) ?_))))
  case c289 => simp
  rintro v L' rfl
  refine .nil (.ptCast (b := b7) (l' := rpC ⟨r.xid, τ.zx, 0, [], [], statD τ r.path, nilV, (.slice ak (kidsZ τ r.path).length ck), nilV⟩) (by repeat' constructor) (by exact rfl) (.blk_n (.then_n (.sr (.q (.to (v' := .agg (rpC (⟨r.xid, τ.zx, 0, [], [], statD τ r.path, (nilV), (.slice ak (kidsZ τ r.path).length ck), nilV⟩ : Rp)).toArray) (.loadA rfl ag_57 (by repeat' constructor) (by simp)) (by rfl)) rfl (.oq (.storeA rfl rfl ?c293 sz_57 ?c296 ?c294 (nfz0 _ _)) ?_))))))
  case c293 => exact rp_cells rfl rfl rfl
  case c296 => rfl
  case c294 => simp
  rintro v L' rfl
  refine .nil ?_
  have hAl : readAl τ ids r = [] := readAl_no (fun g => by have := g.2; omega)
  have hKl : readKl τ ids r = kidsZ τ r.path := readKl_yes hx h72
  refine .add (slR_nil 85 2) (.as (q := slR 85 2 nilV (readAl τ ids r).length ((readAl τ ids r).flatMap acC)) (p := slR 85 2 nilV 0 []) (by repeat' constructor) (by rw [hAl]; rfl) (.as (q := slR 9 1 (.slice ak (kidsZ τ r.path).length ck) (readKl τ ids r).length (strs (readKl τ ids r))) (p := slR 9 1 (.slice ak (kidsZ τ r.path).length ck) (kidsZ τ r.path).length (strs (kidsZ τ r.path))) (by repeat' constructor) (by rw [hKl]) (.ptCast (b := b6) (l' := rpC (readR τ ids r nilV (.slice ak (kidsZ τ r.path).length ck))) (by repeat' constructor) (by rw [readR_other hx h61]; rfl) (.then_n (.ret ?_)))))
  exact .d1 rfl (.cellA rfl ag_57 (by repeat' constructor) (by simp) rfl) ⟨nilV, .slice ak (kidsZ τ r.path).length ck, rfl, ⟨_, _, congrArg (fun l : List Ac => Value.slice _ l.length _) hAl.symm⟩, ⟨_, _, congrArg (fun l : List Bs => Value.slice _ l.length _) hKl.symm⟩, rfl⟩
 refine .sr (.ui rfl rfl rfl (.an rfl (.condD rfl (fun h82 => ?_) (fun h82 => ?_))))
 ·refine .region (.m rfl (.u (.fieldAddr rfl fo_28_2) (.u (.ld rfl ag_9) (.oq (.c Tryz.func56 [_, _] (tracl_spec t τ r.path N ho)) ?_))))
  rintro v L' ⟨ua, rfl, ⟨aa, ca, rfl⟩, rfl⟩
  refine .m rfl (.u (.extract rfl rfl) (.u (.extract rfl rfl) (.u (.fieldAddr rfl fo_57_6) (.oq (.store rfl rfl rfl sz_24 ?c307 (nfz0 _ _)) ?_))))
  case c307 => simp
  rintro v L' rfl
  refine .nil (.ptCast (b := b7) (l' := rpC ⟨r.xid, τ.zx, 0, [], [], statD τ r.path, (.slice aa (aclD τ r.path).length ca), nilV, nilV⟩) (by repeat' constructor) (by exact rfl) (.blk_n (.then_n (.sr (.q (.to (v' := .agg (rpC (⟨r.xid, τ.zx, 0, [], [], statD τ r.path, (.slice aa (aclD τ r.path).length ca), (nilV), nilV⟩ : Rp)).toArray) (.loadA rfl ag_57 (by repeat' constructor) (by simp)) (by rfl)) rfl (.oq (.storeA rfl rfl ?c311 sz_57 ?c314 ?c312 (nfz0 _ _)) ?_))))))
  case c311 => exact rp_cells rfl rfl rfl
  case c314 => rfl
  case c312 => simp
  rintro v L' rfl
  refine .nil ?_
  have hAl : readAl τ ids r = aclD τ r.path := readAl_yes hx h82
  have hKl : readKl τ ids r = [] := readKl_no (fun g => by have := g.2; omega)
  refine .add (slR_nil 9 1) (.as (q := slR 9 1 nilV (readKl τ ids r).length (strs (readKl τ ids r))) (p := slR 9 1 nilV 0 []) (by repeat' constructor) (by rw [hKl]; rfl) (.as (q := slR 85 2 (.slice aa (aclD τ r.path).length ca) (readAl τ ids r).length ((readAl τ ids r).flatMap acC)) (p := slR 85 2 (.slice aa (aclD τ r.path).length ca) (aclD τ r.path).length ((aclD τ r.path).flatMap acC)) (by repeat' constructor) (by rw [hAl]) (.ptCast (b := b6) (l' := rpC (readR τ ids r (.slice aa (aclD τ r.path).length ca) nilV)) (by repeat' constructor) (by rw [readR_other hx h61]; rfl) (.then_n (.ret ?_)))))
  exact .d1 rfl (.cellA rfl ag_57 (by repeat' constructor) (by simp) rfl) ⟨.slice aa (aclD τ r.path).length ca, nilV, rfl, ⟨_, _, congrArg (fun l : List Ac => Value.slice _ l.length _) hAl.symm⟩, ⟨_, _, congrArg (fun l : List Bs => Value.slice _ l.length _) hKl.symm⟩, rfl⟩
 refine .skip (.blk_n (.then_n (.sr (.q (.to (v' := .agg (rpC (⟨r.xid, τ.zx, 0, [], [], statD τ r.path, (nilV), (nilV), nilV⟩ : Rp)).toArray) (.loadA rfl ag_57 (by repeat' constructor) (by simp)) (by rfl)) rfl (.oq (.storeA rfl rfl ?c317 sz_57 ?c320 ?c318 (nfz0 _ _)) ?_)))))
 case c317 => exact rp_cells rfl rfl rfl
 case c320 => rfl
 case c318 => simp
 rintro v L' rfl
 refine .nil ?_
 have hAl : readAl τ ids r = [] := readAl_no (fun g => h82 g.2)
 have hKl : readKl τ ids r = [] := readKl_no (fun g => h72 g.2)
 refine .add (slR_nil 85 2) (.as (q := slR 85 2 nilV (readAl τ ids r).length ((readAl τ ids r).flatMap acC)) (p := slR 85 2 nilV 0 []) (by repeat' constructor) (by rw [hAl]; rfl) (.add (slR_nil 9 1) (.as (q := slR 9 1 nilV (readKl τ ids r).length (strs (readKl τ ids r))) (p := slR 9 1 nilV 0 []) (by repeat' constructor) (by rw [hKl]; rfl) (.ptCast (b := b6) (l' := rpC (readR τ ids r nilV nilV)) (by repeat' constructor) (by rw [readR_other hx h61]; rfl) (.then_n (.ret ?_))))))
 exact .d1 rfl (.cellA rfl ag_57 (by repeat' constructor) (by simp) rfl) ⟨nilV, nilV, rfl, ⟨_, _, congrArg (fun l : List Ac => Value.slice _ l.length _) hAl.symm⟩, ⟨_, _, congrArg (fun l : List Bs => Value.slice _ l.length _) hKl.symm⟩, rfl⟩
theorem r2texts_spec (va : Value) (l : List Bs) (p : HP) (hp : ∀ h : Hp, p h → rdS 1 h va l.length (strs l)) (hl : l.length ≤ 1048576) (hs : ∀ s ∈ l, s.length ≤ 1048576) : Fn Tryz.prog 183 #[va] [p] fun v L => v = vstr (txsB l) ∧ L = [p] := by
 refine Fn.intro Tryz.func183 rfl rfl fun F W => ?_
 refine .rdAny (p := p) hp (by repeat' constructor) fun aa ca e _ => ?_
 subst e
 have htl := txs_len hl hs
 have hll : (txsB l).length = (cntB l.length).length + (l.flatMap txtB).length := by unfold txsB; rw [List.length_append]
 refine .sr (.an rfl (.sm rfl (.q (.slen rfl Tryz.underlying23 rfl) rfl (.cv Tryz.func117 [_] (r1cnt_spec l.length (by omega)) ?_))))
 refine .an rfl (.seq (.sr (.an rfl (.block (.loopK (ι := Nat × Bs) (fun q E => (4, vint q.1) :: (3, vstr q.2) :: E) (fun q => []) (fun q => q.1 ≤ l.length ∧ q.2 = cntB l.length ++ (l.take q.1).flatMap txtB) (fun q => l.length - q.1) (0, cntB l.length) (ts := [0, 2]) (.cons rfl (.cons rfl (.nil))) (⟨Nat.zero_le _, by simp⟩) ⟨rfl, rfl, rfl, rfl, trivial⟩ (by repeat' constructor) ?_)))))
 rintro ⟨i, t⟩ ⟨hj, ht⟩
 dsimp only
 dsimp only at hj ht
 have htl2 : t.length = (cntB l.length).length + ((l.take i).flatMap txtB).length := by rw [ht, List.length_append]
 refine .seq (.sm rfl (.m rfl (.q (.slen rfl Tryz.underlying23 rfl) rfl (.ui rfl rfl rfl (.nt (.condD rfl (fun h11 => ?_) (fun h11 => ?_)))))))
 ·have hi2 : i < l.length := by omega
  have hfs := fm_stepL txtB hi2
  have hsl := hs _ (List.getElem_mem hi2)
  have htx := txs_each (s := l[i]) (by omega)
  refine .rdShape (p := p) hp (by repeat' constructor) (by omega) fun ba oa e => ?_
  subst e
  refine .sk (.seq (.block (.region (.m rfl (.m rfl (.m rfl (.q (.indexAddr rfl rfl el_23 (by omega)) rfl (.q (.loadEl (p := p) (i := i * 1) (v := vstr l[i]) rfl ag_9 (by repeat' constructor) hp (by rw [Nat.mul_one]; simp [hi2])) rfl (.cv Tryz.func119 [_] (r1txt_spec l[i] (by omega)) ?_)))))))))
  refine .q (.concat rfl rfl (by omega)) rfl (.a rfl (.nil (.blk_n (.then_n (.region (.m rfl (.q (.add rfl rfl (by omega)) rfl (.an rfl ?_))))))))
  exact .rk ((i + 1, t ++ txtB l[i])) (⟨by dsimp only; omega, by dsimp only; rw [fm_step txtB hi2, ht]; simp only [List.append_assoc]⟩) (by dsimp only; omega) ⟨rfl, rfl, rfl, rfl, trivial⟩
 have hie : i = l.length := by omega
 have hfin : t = txsB l := by rw [ht, hie, List.take_length]; rfl
 subst hfin
 refine .exit (.then_e (.then_e (.blk_e (.then_n (.sm rfl (.an rfl (.ret ?_)))))))
 exact .vv
theorem r2answer_spec (x : Rp) (acl : List Ac) (kids : List Bs) (p : HP) (h : AnL p x acl kids) (ha : isCell x.aclV = true) (hk : isCell x.kidsV = true) (hs : isCell x.subsV = true) : Fn Tryz.prog 125 #[.agg (rpC x).toArray] [p] fun v L => v = vstr (ansB x acl kids) ∧ L = [p] := by
 refine Fn.intro Tryz.func125 rfl rfl fun F W => ?_
 have hi := h.i
 have hal := h.aclI.long
 have htl := txs_len h.few h.each
 have hx1 := txs_each hi.path
 have hx2 := txs_each (s := x.data) (by have := hi.data; omega)
 have hn3 := nums_most (l := [x.xid, x.zx, x.err]) (fun n hn => by simp only [List.mem_cons, List.not_mem_nil, or_false] at hn; rcases hn with rfl | rfl | rfl; exact hi.xid; exact hi.zx; exact hi.err)
 have hn9 := nums_most hi.st
 have hn9l : (nums9 x.st).length = 9 := rfl
 rw [hn9l] at hn9
 simp only [List.length_cons, List.length_nil] at hn3
 have hpl := hi.path
 have hdl := hi.data
 refine .sr (.oq (.box rfl) ?_)
 rintro v L' ⟨b1, rfl, rfl⟩
 refine .a rfl (.nil (.ptCast (b := b1) (l' := rpC x) (by repeat' constructor) (by exact rfl) (.then_n (.sr (.u (.fieldAddr rfl fo_57_5) (.q (.loadAs (vs := stC x.st) rfl ag_37 (by repeat' constructor) (by simp) rfl) rfl (.oq (.allocA ze_37) ?_)))))))
 rintro v L' ⟨b3, rfl, rfl⟩
 refine .oq (.storeA rfl rfl ?c8 sz_37 ?c11 ?c9 (nfz0 _ _)) ?_
 case c8 => intro v hv; simp only [stC, List.mem_cons, List.not_mem_nil, or_false] at hv; rcases hv with rfl | rfl | rfl | rfl | rfl | rfl | rfl | rfl | rfl <;> rfl
 case c11 => rfl
 case c9 => simp [stC]
 rintro v L' rfl
 refine .nil (.ptCast (b := b3) (l' := stC x.st) (by repeat' constructor) (by exact rfl) (.then_n (.seq (.draw [6, 7, 34, 35] [[0, 1, 2, 3, 4, 5, 8, 9, 12, 13, 16, 17, 18, 19, 20, 21, 22, 23, 24, 25, 26, 27, 28, 29, 30, 31, 32, 33, 37, 38, 41, 42, 6, 7, 10, 11, 14, 15, 34, 35, 36, 39, 40, 43], [44, 45]] mixed (by kernel_rfl) (.go [ptc b1 _ _, ptc b3 _ _, p] (by repeat' constructor) (.k rfl (.fieldAddr rfl fo_57_0) (.k rfl (.ld rfl ag_3) (.k rfl (.fieldAddr rfl fo_57_1) (.k rfl (.ld rfl ag_3) (.k rfl (.fieldAddr rfl fo_57_2) (.k rfl (.ld rfl ag_40) (.k rfl (.fieldAddr rfl fo_57_3) (.k rfl (.ld rfl ag_9) (.k rfl (.fieldAddr rfl fo_57_4) (.k rfl (.ld rfl ag_9) (.k rfl (.fieldAddr rfl fo_37_0) (.k rfl (.ld rfl ag_3) (.k rfl (.fieldAddr rfl fo_37_1) (.k rfl (.ld rfl ag_3) (.k rfl (.fieldAddr rfl fo_37_2) (.k rfl (.ld rfl ag_3) (.k rfl (.fieldAddr rfl fo_37_3) (.k rfl (.ld rfl ag_3) (.k rfl (.fieldAddr rfl fo_37_4) (.k rfl (.ld rfl ag_3) (.k rfl (.fieldAddr rfl fo_37_5) (.k rfl (.ld rfl ag_3) (.k rfl (.fieldAddr rfl fo_37_6) (.k rfl (.ld rfl ag_3) ?_)))))))))))))))))))))))))))))
 refine D.k rfl (.fieldAddr rfl fo_37_7) (.k rfl (.ld rfl ag_3) (.k rfl (.fieldAddr rfl fo_37_8) (.k rfl (.ld rfl ag_3) (.k rfl (.fieldAddr rfl fo_57_6) (.k rfl (.ld rfl ag_24) (.k rfl (.fieldAddr rfl fo_57_7) (.k rfl (.ld rfl ag_23) (.h2 (k := 34) rfl rfl (by kernel_rfl) rfl (.buildSlice1 (vs := [_, _, _]) el_34 ze_3 rfl rfl rfl rfl rfl (by decide)) (by repeat' constructor) (.buildSlice1 (vs := [_, _, _, _, _, _, _, _, _]) el_34 ze_3 rfl rfl rfl rfl rfl (by decide)) (by repeat' constructor) ?_ ?_))))))))
 ·rintro v L' ⟨b4, rfl, rfl⟩
  refine D.h2 (k := 34) rfl rfl (by kernel_rfl) rfl (.call Tryz.func72 rfl rfl (vs := [_]) rfl (r2nums_spec _ ([x.xid, x.zx, x.err]) (ptc b4 (ints ([x.xid, x.zx, x.err])) 3) (fun h hp => slR_rd (slR_pt hp rfl)) (fun n hn => by simp only [List.mem_cons, List.not_mem_nil, or_false] at hn; rcases hn with rfl | rfl | rfl; exact hi.xid; exact hi.zx; exact hi.err) (by simp [nums9]))) (by repeat' constructor) (.buildSlice1 (vs := [_, _, _, _, _, _, _, _, _]) el_34 ze_3 rfl rfl rfl rfl rfl (by decide)) (by repeat' constructor) ?_ ?_
  ·rintro v L' ⟨rfl, rfl⟩
   refine D.m rfl (by kernel_rfl) (.c Tryz.func119 [_] (r1txt_spec x.path (by omega))) (by repeat' constructor) ?_
   refine D.k rfl (.concat rfl rfl (by simp only [List.length_append, txtB] at *; omega)) (.m rfl (by kernel_rfl) (.c Tryz.func119 [_] (r1txt_spec x.data (by omega))) (by repeat' constructor) ?_)
   refine D.k rfl (.concat rfl rfl (by simp only [List.length_append, txtB] at *; omega)) (.hh rfl (.buildSlice1 (vs := [_, _, _, _, _, _, _, _, _]) el_34 ze_3 rfl rfl rfl rfl rfl (by decide)) ?_)
   rintro v L' ⟨b5, rfl, rfl⟩
   refine D.hh rfl (.call Tryz.func72 rfl rfl (vs := [_]) rfl (r2nums_spec _ (nums9 x.st) (ptc b5 (ints (nums9 x.st)) 3) (fun h hp => slR_rd (slR_pt hp rfl)) hi.st (by simp [nums9]))) ?_
   rintro v L' ⟨rfl, rfl⟩
   refine D.kv rfl (.concat rfl rfl (by simp only [List.length_append, txtB] at *; omega)) (.m rfl (by kernel_rfl) (.c Tryz.func174 [_] (r2acls_spec x.aclV acl p h.racl (fun a ha => (h.aclI.each a ha).1) (by omega) h.aclI.few)) (by repeat' constructor) ?_)
   refine D.kv rfl (.concat rfl rfl (by simp only [List.length_append, txtB] at *; omega)) (.m rfl (by kernel_rfl) (.c Tryz.func183 [_] (r2texts_spec x.kidsV kids p h.rkids h.few h.each)) (by repeat' constructor) ?_)
   refine D.ph (.g0 (.kv rfl (.concat rfl rfl (by simp only [List.length_append, txtB] at *; omega)) (.kv rfl (.assign rfl) (.pf (.ret ?_)))))
   exact .vv
  rintro v L' ⟨b5, rfl, rfl⟩
  refine D.hh rfl (.call Tryz.func72 rfl rfl (vs := [_]) rfl (r2nums_spec _ ([x.xid, x.zx, x.err]) (ptc b4 (ints ([x.xid, x.zx, x.err])) 3) (fun h hp => slR_rd (slR_pt hp rfl)) (fun n hn => by simp only [List.mem_cons, List.not_mem_nil, or_false] at hn; rcases hn with rfl | rfl | rfl; exact hi.xid; exact hi.zx; exact hi.err) (by simp [nums9]))) ?_
  rintro v L' ⟨rfl, rfl⟩
  refine D.m rfl (by kernel_rfl) (.c Tryz.func119 [_] (r1txt_spec x.path (by omega))) (by repeat' constructor) ?_
  refine D.k rfl (.concat rfl rfl (by simp only [List.length_append, txtB] at *; omega)) (.m rfl (by kernel_rfl) (.c Tryz.func119 [_] (r1txt_spec x.data (by omega))) (by repeat' constructor) ?_)
  refine D.k rfl (.concat rfl rfl (by simp only [List.length_append, txtB] at *; omega)) (.hh rfl (.call Tryz.func72 rfl rfl (vs := [_]) rfl (r2nums_spec _ (nums9 x.st) (ptc b5 (ints (nums9 x.st)) 3) (fun h hp => slR_rd (slR_pt hp rfl)) hi.st (by simp [nums9]))) ?_)
  rintro v L' ⟨rfl, rfl⟩
  refine D.kv rfl (.concat rfl rfl (by simp only [List.length_append, txtB] at *; omega)) (.m rfl (by kernel_rfl) (.c Tryz.func174 [_] (r2acls_spec x.aclV acl p h.racl (fun a ha => (h.aclI.each a ha).1) (by omega) h.aclI.few)) (by repeat' constructor) ?_)
  refine D.kv rfl (.concat rfl rfl (by simp only [List.length_append, txtB] at *; omega)) (.m rfl (by kernel_rfl) (.c Tryz.func183 [_] (r2texts_spec x.kidsV kids p h.rkids h.few h.each)) (by repeat' constructor) ?_)
  refine D.ph (.g0 (.kv rfl (.concat rfl rfl (by simp only [List.length_append, txtB] at *; omega)) (.kv rfl (.assign rfl) (.pf (.ret ?_)))))
  exact .vv
 rintro v L' ⟨b5, rfl, rfl⟩
 refine D.hh rfl (.buildSlice1 (vs := [_, _, _]) el_34 ze_3 rfl rfl rfl rfl rfl (by decide)) ?_
 rintro v L' ⟨b4, rfl, rfl⟩
 refine D.hh rfl (.call Tryz.func72 rfl rfl (vs := [_]) rfl (r2nums_spec _ ([x.xid, x.zx, x.err]) (ptc b4 (ints ([x.xid, x.zx, x.err])) 3) (fun h hp => slR_rd (slR_pt hp rfl)) (fun n hn => by simp only [List.mem_cons, List.not_mem_nil, or_false] at hn; rcases hn with rfl | rfl | rfl; exact hi.xid; exact hi.zx; exact hi.err) (by simp [nums9]))) ?_
 rintro v L' ⟨rfl, rfl⟩
 refine D.m rfl (by kernel_rfl) (.c Tryz.func119 [_] (r1txt_spec x.path (by omega))) (by repeat' constructor) ?_
 refine D.k rfl (.concat rfl rfl (by simp only [List.length_append, txtB] at *; omega)) (.m rfl (by kernel_rfl) (.c Tryz.func119 [_] (r1txt_spec x.data (by omega))) (by repeat' constructor) ?_)
 refine D.k rfl (.concat rfl rfl (by simp only [List.length_append, txtB] at *; omega)) (.hh rfl (.call Tryz.func72 rfl rfl (vs := [_]) rfl (r2nums_spec _ (nums9 x.st) (ptc b5 (ints (nums9 x.st)) 3) (fun h hp => slR_rd (slR_pt hp rfl)) hi.st (by simp [nums9]))) ?_)
 rintro v L' ⟨rfl, rfl⟩
 refine D.kv rfl (.concat rfl rfl (by simp only [List.length_append, txtB] at *; omega)) (.m rfl (by kernel_rfl) (.c Tryz.func174 [_] (r2acls_spec x.aclV acl p h.racl (fun a ha => (h.aclI.each a ha).1) (by omega) h.aclI.few)) (by repeat' constructor) ?_)
 refine D.kv rfl (.concat rfl rfl (by simp only [List.length_append, txtB] at *; omega)) (.m rfl (by kernel_rfl) (.c Tryz.func183 [_] (r2texts_spec x.kidsV kids p h.rkids h.few h.each)) (by repeat' constructor) ?_)
 refine D.ph (.g0 (.kv rfl (.concat rfl rfl (by simp only [List.length_append, txtB] at *; omega)) (.kv rfl (.assign rfl) (.pf (.ret ?_)))))
 exact .vv
theorem r2reply_spec (x : Rp) (acl : List Ac) (kids : List Bs) (subs : List Rp) (p : HP) (h : RpL p x acl kids subs) : Fn Tryz.prog 67 #[.agg (rpC x).toArray] [p] fun v L => v = vstr (repB x acl kids subs) ∧ L = [p] := by
 refine Fn.intro Tryz.func67 rfl rfl fun F W => ?_
 have hi := h.a.i
 have htl := txs_len h.a.few h.a.each
 have hal := ans_len hi (acl := acl) h.a.aclI.long (kids := kids)
 have hsl := an0s_len h.few fun y hy => (h.each y hy).1
 have hfew := h.few
 have hcl : (cntB subs.length).length ≤ 10 := sev_len10 (by have : U64 = 18446744073709551616 := rfl; omega)
 have hc1 : isCell x.aclV = true := by obtain ⟨a, n, c, e⟩ := h.sh.1; rw [e]; rfl
 have hc2 : isCell x.kidsV = true := by obtain ⟨a, n, c, e⟩ := h.sh.2; rw [e]; rfl
 refine .rdAny (p := p) h.rd (by repeat' constructor) fun aa ca hsv _ => ?_
 have hrd : ∀ g : Hp, p g → rdS 17 g (.slice aa subs.length ca) subs.length (subs.flatMap rpC) := fun g hp => hsv ▸ h.rd g hp
 refine .sr (.oq (.box rfl) ?_)
 rintro v L' ⟨b1, rfl, rfl⟩
 refine .a rfl (.nil (.ptCast (b := b1) (l' := rpC x) (by repeat' constructor) (by exact rfl) (.then_n (.seq (.draw [] [[0, 1, 2, 3, 4, 5, 6, 7]] mixed (by kernel_rfl) (.go [ptc b1 _ _, p] (by repeat' constructor) (.kv rfl (.to (v' := .agg (rpC x).toArray) (.loadA rfl ag_57 (by repeat' constructor) (by simp)) (by rfl)) (.m rfl (by kernel_rfl) (.c Tryz.func125 [_] (r2answer_spec x acl kids p h.a hc1 hc2 (by rw [hsv]; rfl))) (by repeat' constructor) ?_))))))))
 refine D.kv rfl (.fieldAddr rfl fo_57_8) (.kv rfl (.to (v' := .slice aa subs.length ca) (.load rfl ag_55 (by repeat' constructor) rfl) (by exact hsv)) (.kv rfl (.slen rfl Tryz.underlying55 rfl) (.m rfl (by kernel_rfl) (.c Tryz.func117 [_] (r1cnt_spec subs.length (by omega))) (by repeat' constructor) ?_)))
 refine D.kv rfl (.concat rfl rfl (by omega)) (.kv rfl (.assign rfl) (.pf (.seq (.sr (.an rfl (.block (.loopK (ι := Nat × Bs) (fun q E => (4, vint q.1) :: (3, vstr q.2) :: E) (fun q => []) (fun q => q.1 ≤ subs.length ∧ q.2 = ansB x acl kids ++ cntB subs.length ++ (subs.take q.1).flatMap an0) (fun q => subs.length - q.1) (0, ansB x acl kids ++ cntB subs.length) (ts := [1, 2]) (.cons rfl (.cons rfl (.nil))) (⟨Nat.zero_le _, by simp⟩) ⟨rfl, rfl, rfl, rfl, trivial⟩ (by repeat' constructor) ?_)))))))
 rintro ⟨i, t⟩ ⟨hj, ht⟩
 dsimp only
 dsimp only at hj ht
 have htl2 : t.length = (ansB x acl kids).length + (cntB subs.length).length + ((subs.take i).flatMap an0).length := by rw [ht, List.length_append, List.length_append]
 refine .seq (.sm rfl (.u (.fieldAddr rfl fo_57_8) (.q (.to (v' := .slice aa subs.length ca) (.load rfl ag_55 (by repeat' constructor) rfl) (by exact hsv)) rfl (.q (.slen rfl Tryz.underlying55 rfl) rfl (.ui rfl rfl rfl (.nt (.condD rfl (fun h16 => ?_) (fun h16 => ?_))))))))
 ·have hi2 : i < subs.length := by omega
  have hfs := fm_stepL an0 hi2
  obtain ⟨hz1, hz2, hz3⟩ := h.each _ (List.getElem_mem hi2)
  have hz4 := an0_len hz1
  refine .rdShape (p := p) hrd (by repeat' constructor) (by omega) fun ba oa e => ?_
  subst e
  refine .sk (.seq (.block (.region (.m rfl (.u (.fieldAddr rfl fo_57_8) (.q (.to (v' := .slice (some ⟨ba, oa, none⟩) subs.length ca) (.load rfl ag_55 (by repeat' constructor) rfl) (by exact hsv)) rfl (.m rfl (.q (.indexAddr rfl rfl el_55 (by omega)) rfl (.q (.loadRdA (sz := 17) (j := i * 17) (k := 17) (p := p) (vs := rpC subs[i]) rfl ag_57 (by repeat' constructor) hrd (by simp) (by omega) (by omega) (flatMap_at (f := rpC) (sz := 17) (fun _ _ => rfl) hi2)) rfl (.oq (.call Tryz.func125 rfl rfl (vs := [_]) rfl (r2answer_spec subs[i] [] [] p ⟨hz1, by rw [hz2]; exact fun _ _ => .inl ⟨rfl, rfl, none, 0, rfl⟩, ⟨by decide, aclB_nil, fun a ha => by cases ha⟩, by rw [hz3]; exact fun _ _ => .inl ⟨rfl, rfl, none, 0, rfl⟩, Nat.zero_le _, fun s hs => by cases hs⟩ (by rw [hz2]; rfl) (by rw [hz3]; rfl) (h.subc _ (List.getElem_mem hi2)))) ?_))))))))))
  rintro v L' ⟨rfl, rfl⟩; rw [show ansB subs[i] [] [] = an0 subs[i] from rfl]
  refine .q (.concat rfl rfl (by omega)) rfl (.a rfl (.nil (.blk_n (.then_n (.region (.m rfl (.q (.add rfl rfl (by omega)) rfl (.an rfl ?_))))))))
  exact .rk ((i + 1, t ++ an0 subs[i])) (⟨by dsimp only; omega, by dsimp only; rw [fm_step an0 hi2, ht]; simp only [List.append_assoc]⟩) (by dsimp only; omega) ⟨rfl, rfl, rfl, rfl, trivial⟩
 have hie : i = subs.length := by omega
 have hfin : t = repB x acl kids subs := by rw [ht, hie, List.take_length]; rfl
 subst hfin
 refine .exit (.then_e (.then_e (.blk_e (.then_n (.sm rfl (.an rfl (.ret ?_)))))))
 exact .vv
theorem preplies12b_spec (x y : Rp) (acl acl2 : List Ac) (kids kids2 : List Bs) (subs subs2 : List Rp) (p q : HP) (hx : RpL p x acl kids subs) (hy : RpL q y acl2 kids2 subs2) : Fn Tryz.prog 24 #[.agg (rpC x).toArray, .agg (rpC y).toArray] [p, q] fun v L => v = .bool (decide (repB x acl kids subs = repB y acl2 kids2 subs2)) ∧ L = [p, q] := by
 refine Fn.intro Tryz.func24 rfl rfl fun F W => ?_
 refine .sr (.oq (.box rfl) ?_)
 rintro v L' ⟨b2, rfl, rfl⟩
 refine .oq (.box rfl) ?_
 rintro v L' ⟨b3, rfl, rfl⟩
 refine .a rfl (.nil (.ptCast (b := b2) (l' := rpC x) (by repeat' constructor) (by exact rfl) (.ptCast (b := b3) (l' := rpC y) (by repeat' constructor) (by exact rfl) (.then_n (.seq (.draw [] [[0, 1, 2, 3, 4, 5]] mixed (by kernel_rfl) (.go [ptc b2 _ _, ptc b3 _ _, p, q] (by repeat' constructor) (.kv rfl (.to (v' := .agg (rpC (x)).toArray) (.loadA rfl ag_57 (by repeat' constructor) (by simp)) (by rfl)) (.m rfl (by kernel_rfl) (.c Tryz.func67 [_] (r2reply_spec x acl kids subs p hx)) (by repeat' constructor) ?_)))))))))
 refine D.kv rfl (.to (v' := .agg (rpC (y)).toArray) (.loadA rfl ag_57 (by repeat' constructor) (by simp)) (by rfl)) (.m rfl (by kernel_rfl) (.c Tryz.func67 [_] (r2reply_spec y acl2 kids2 subs2 q hy)) (by repeat' constructor) ?_)
 refine D.kv rfl (.streq rfl rfl) (.kv rfl (.assign rfl) (.pf (.ret ?_)))
 exact .vv
theorem back_take {xs : List Bs} {k : Nat} (hk : k < xs.length) : xs.reverse.take (k + 1) = xs.reverse.take k ++ [xs.reverse.getD k []] := by
 have hk2 : k < xs.reverse.length := by simpa using hk
 rw [List.take_succ_eq_append_getElem hk2, List.getD_eq_getElem?_getD, List.getElem?_eq_getElem hk2]
 rfl
theorem back_len {pre xs : List Bs} {k : Nat} (hk : k < xs.length) : (pre ++ xs.reverse.take k).length + 1 = (pre ++ xs.reverse.take (k + 1)).length := by
 rw [back_take hk]; simp only [List.length_append, List.length_singleton]; omega
theorem back_strs {pre xs : List Bs} {k : Nat} (hk : k < xs.length) : strs (pre ++ xs.reverse.take k) ++ [vstr (xs.reverse.getD k [])] = strs (pre ++ xs.reverse.take (k + 1)) := by
 rw [back_take hk]; simp [strs]
theorem prepPeople12_spec (va : Value) (es : List En) (s : Int) (ids more : List Bs) (ai am : Option Addr) (ci cm : Nat) (r : Rq) (subs : List Rq) (q : HP) (hA : EntsA q va es) (hN : ∀ e ∈ es, EnN e) (hF : wtL es ≤ 500000) (h_ids : Ids q (.slice ai ids.length ci) ids) (h_more : Ids q (.slice am more.length cm) more) (hsum : ids.length + more.length ≤ 1048576) (hD : WiD q ⟨s, ids⟩ (.slice ai ids.length ci) r subs) : Fn Tryz.prog 8 #[va, vint s, .slice ai ids.length ci, .slice am more.length cm, .agg (rqC r).toArray] [q] fun v L => v = .bool true ∧ L = [q] := by
 refine Fn.intro Tryz.func8 rfl rfl fun F W => ?_
 have hok0 := ents_ok (p := q) newT_ok hA.tx
 have hok : (appL newT es).Ok 1048576 := hok0.more (by omega)
 have hw : TrW (appL newT es) := ents_w TrW.new hN
 have h_ids2 := h_ids.1
 have h_more2 := h_more.1
 have hfi := h_ids.2.1
 have hfm := h_more.2.1
 refine .sr (.oq (.box rfl) ?_)
 rintro v L' ⟨b9, rfl, rfl⟩
 refine .a rfl (.nil (.ptCast (b := b9) (l' := rqC r) (by repeat' constructor) (by exact rfl) (.then_n (.sr (.cv Tryz.func10 [] (awake12_spec q hD.w.tab) ?_)))))
 refine .an rfl (.sm rfl (.oq (.c Tryz.func11 [_] (trees12_spec va es q hA)) ?_))
 rintro v L' ⟨t, x, rfl, rfl⟩
 refine .m rfl (.u (.extract rfl rfl) (.u (.extract rfl rfl) (.a rfl (.an rfl (.seq (.sm rfl (.u (.not rfl) (.m rfl (.grun (t := 29) rfl rfl rfl (.m rfl (.grun (t := 29) rfl rfl rfl (.q (.ptreq rfl rfl Tryz.underlying30) rfl (.u (.pickF rfl rfl) (.nt (.condF rfl (.sk (.sr (.a rfl (.nil (.add (slR_nil 9 1) (.then_n (.seq (.sm rfl (.q (.slen rfl Tryz.underlying23 rfl) rfl (.q (.to (v' := vint ((more.length : Int) - 1 - ((0 : Nat) : Int))) (.sub rfl rfl (by omega)) (by congr 1; omega)) rfl (.an rfl (.block (.loopK (ι := Nat × Value) (fun q E => (15, vint ((more.length : Int) - 1 - q.1)) :: (14, q.2) :: E) (fun q => [slR 9 1 q.2 ([] ++ more.reverse.take q.1).length (strs ([] ++ more.reverse.take q.1))]) (fun q => q.1 ≤ more.length ∧ ∃ a c, q.2 = .slice a ([] ++ more.reverse.take q.1).length c) (fun q => more.length - q.1) (0, nilV) (ts := [1, 2, 3, 9, 10, 12]) (.cons rfl (.cons rfl (.cons rfl (.cons rfl (.cons rfl (.cons rfl (.nil))))))) (⟨Nat.zero_le _, none, 0, rfl⟩) ⟨rfl, rfl, rfl, rfl, rfl, rfl, rfl, rfl, trivial⟩ (by repeat' constructor) ?_))))))))))))))))))))))))))))
 rintro ⟨k, w⟩ ⟨hk, aw, cw, hu⟩
 dsimp only
 dsimp only at hk hu
 subst hu
 refine .seq (.sm rfl (.ui rfl rfl rfl (.nt (.condD rfl (fun h37 => ?_) (fun h37 => ?_)))))
 ·have hkl : k < more.length := by omega
  refine .rdShape (p := q) h_more2 (by repeat' constructor) (by omega) fun ba oa e => ?_
  subst e
  refine .sk (.seq (.block (.region (.m rfl (.m rfl (.m rfl (.q (.indexAddr rfl rfl el_23 (by omega)) rfl (.q (.loadEl (p := q) (i := ((more.length : Int) - 1 - k).toNat * 1) (v := vstr (more.reverse.getD k [])) rfl ag_9 (by repeat' constructor) h_more2 (back_at hkl)) rfl (.oq (.buildSlice1 (vs := [_]) el_23 ze_9 rfl rfl rfl rfl rfl (by decide)) ?_)))))))))
  rintro v L' ⟨bb9, rfl, rfl⟩
  refine .oq (.append1 rfl rfl rfl el_23 ze_9 rfl rfl ?c26 ?c27 (Nat.le_refl _) ?c28 (by decide)) ?_
  case c26 => (first | (simp [isCell]; done) | (simp [isCell, setAll, Value.cells]; done))
  case c27 => rfl
  case c28 => have := h_ids.2.1; have := h_more.2.1; simp only [List.length_append, List.length_take, List.length_reverse, List.length_nil]; omega
  rintro v L' ⟨⟨a9, c9, rfl⟩, rfl⟩
  refine .a rfl (.nil (.blk_n (.then_n (.region (.m rfl (.q (.to (v' := vint ((more.length : Int) - 1 - ((k + 1 : Nat) : Int))) (.sub rfl rfl (by omega)) (by congr 1; omega)) rfl (.an rfl (.slCast (T := 9) (sz := 1) (m' := ([] ++ more.reverse.take (k + 1)).length) (xs' := strs ([] ++ more.reverse.take (k + 1))) (by repeat' constructor) (by exact back_len (pre := []) hkl) (by exact back_strs (pre := []) hkl) ?_))))))))
  exact .rk ((k + 1, .slice a9 (([] ++ more.reverse.take k).length + 1) c9)) (⟨by dsimp only; omega, _, _, congrArg (fun n => Value.slice _ n _) (back_len (pre := []) hkl)⟩) (by dsimp only; omega) ⟨rfl, rfl, rfl, rfl, rfl, rfl, rfl, rfl, trivial⟩
 have hke : k = more.length := by omega
 have e9 : [] ++ more.reverse.take k = more.reverse ++ ids.reverse.take 0 := by rw [List.take_of_length_le (by rw [List.length_reverse]; omega)]; simp
 rw [e9]
 refine .exit (.then_e (.then_e (.blk_e (.then_n (.seq (.sm rfl (.q (.slen rfl Tryz.underlying23 rfl) rfl (.q (.to (v' := vint ((ids.length : Int) - 1 - ((0 : Nat) : Int))) (.sub rfl rfl (by omega)) (by congr 1; omega)) rfl (.an rfl (.block (.loopK (ι := Nat × Value) (fun q E => (16, vint ((ids.length : Int) - 1 - q.1)) :: (14, q.2) :: E) (fun q => [slR 9 1 q.2 (more.reverse ++ ids.reverse.take q.1).length (strs (more.reverse ++ ids.reverse.take q.1))]) (fun q => q.1 ≤ ids.length ∧ ∃ a c, q.2 = .slice a (more.reverse ++ ids.reverse.take q.1).length c) (fun q => ids.length - q.1) (0, .slice aw (more.reverse ++ ids.reverse.take 0).length cw) (ts := [1, 2, 9, 10, 12]) (.cons rfl (.cons rfl (.cons rfl (.cons rfl (.cons rfl (.nil)))))) (⟨Nat.zero_le _, _, _, rfl⟩) ⟨rfl, rfl, rfl, rfl, rfl, rfl, rfl, trivial⟩ (by repeat' constructor) ?_)))))))))))
 rintro ⟨k, w⟩ ⟨hk, aw, cw, hu⟩
 dsimp only
 dsimp only at hk hu
 subst hu
 refine .seq (.sm rfl (.ui rfl rfl rfl (.nt (.condD rfl (fun h51 => ?_) (fun h51 => ?_)))))
 ·have hkl : k < ids.length := by omega
  refine .rdShape (p := q) h_ids2 (by repeat' constructor) (by omega) fun ba oa e => ?_
  subst e
  refine .sk (.seq (.block (.region (.m rfl (.m rfl (.m rfl (.q (.indexAddr rfl rfl el_23 (by omega)) rfl (.q (.loadEl (p := q) (i := ((ids.length : Int) - 1 - k).toNat * 1) (v := vstr (ids.reverse.getD k [])) rfl ag_9 (by repeat' constructor) h_ids2 (back_at hkl)) rfl (.oq (.buildSlice1 (vs := [_]) el_23 ze_9 rfl rfl rfl rfl rfl (by decide)) ?_)))))))))
  rintro v L' ⟨bb13, rfl, rfl⟩
  refine .oq (.append1 rfl rfl rfl el_23 ze_9 rfl rfl ?c45 ?c46 (Nat.le_refl _) ?c47 (by decide)) ?_
  case c45 => (first | (simp [isCell]; done) | (simp [isCell, setAll, Value.cells]; done))
  case c46 => rfl
  case c47 => have := h_ids.2.1; have := h_more.2.1; simp only [List.length_append, List.length_take, List.length_reverse, List.length_nil]; omega
  rintro v L' ⟨⟨a13, c13, rfl⟩, rfl⟩
  refine .a rfl (.nil (.blk_n (.then_n (.region (.m rfl (.q (.to (v' := vint ((ids.length : Int) - 1 - ((k + 1 : Nat) : Int))) (.sub rfl rfl (by omega)) (by congr 1; omega)) rfl (.an rfl (.slCast (T := 9) (sz := 1) (m' := (more.reverse ++ ids.reverse.take (k + 1)).length) (xs' := strs (more.reverse ++ ids.reverse.take (k + 1))) (by repeat' constructor) (by exact back_len (pre := more.reverse) hkl) (by exact back_strs (pre := more.reverse) hkl) ?_))))))))
  exact .rk ((k + 1, .slice a13 ((more.reverse ++ ids.reverse.take k).length + 1) c13)) (⟨by dsimp only; omega, _, _, congrArg (fun n => Value.slice _ n _) (back_len (pre := more.reverse) hkl)⟩) (by dsimp only; omega) ⟨rfl, rfl, rfl, rfl, rfl, rfl, rfl, trivial⟩
 have hke : k = ids.length := by omega
 have e9 : more.reverse ++ ids.reverse.take k = (more.reverse ++ ids.reverse) := by rw [List.take_of_length_le (by rw [List.length_reverse]; omega)]
 rw [e9]
 refine .fold (p := (sep [slR 9 1 (.slice aw (more.reverse ++ ids.reverse).length cw) (more.reverse ++ ids.reverse).length (strs (more.reverse ++ ids.reverse)), q])) (q := [slR 9 1 (.slice aw (more.reverse ++ ids.reverse).length cw) (more.reverse ++ ids.reverse).length (strs (more.reverse ++ ids.reverse)), q]) (by repeat' constructor) (fun _ h => h) ?_
 have hmem : ∀ i ∈ ids, i ∈ (more.reverse ++ ids.reverse) := fun i hi => List.mem_append.2 (.inr (List.mem_reverse.2 hi))
 have hall : (more.reverse ++ ids.reverse).length ≤ 1048576 := by simp only [List.length_append, List.length_reverse]; omega
 have hD1 : WiD (sep [slR 9 1 (.slice aw (more.reverse ++ ids.reverse).length cw) (more.reverse ++ ids.reverse).length (strs (more.reverse ++ ids.reverse)), q]) (⟨s, ids⟩ : Who) (.slice ai ids.length ci) r subs := hD.up
 have hD2 : WiD (sep [slR 9 1 (.slice aw (more.reverse ++ ids.reverse).length cw) (more.reverse ++ ids.reverse).length (strs (more.reverse ++ ids.reverse)), q]) (⟨s, (more.reverse ++ ids.reverse)⟩ : Who) (.slice aw (more.reverse ++ ids.reverse).length cw) r subs := hD.more (fun _ => slR_rd) hall ⟨_, _, _, rfl⟩
 refine .exit (.then_e (.then_e (.blk_e (.then_n (.sm rfl (.m rfl (.m rfl (.q (.to (v' := .agg (rqC r).toArray) (.loadA rfl ag_28 (by repeat' constructor) (by simp [rqC])) (by rfl)) rfl (.oq (.c Tryz.func14 [_, _, _, _] (ptxnA_spec t (appL newT es) (⟨s, ids⟩ : Who) (.slice ai ids.length ci) r (sep [slR 9 1 (.slice aw (more.reverse ++ ids.reverse).length cw) (more.reverse ++ ids.reverse).length (strs (more.reverse ++ ids.reverse)), q]) hD1.w 1048576 hok (by decide) hw (by decide) subs hD1.rd hD1.each hD1.acls (by decide))) ?_)))))))))
 rintro v L' ⟨y1, ys1, rfl, hy1, hys1, ⟨hc1, as1, cs1, hsub1⟩, hyk1, rfl⟩
 refine .oq (.allocA ze_43) ?_
 rintro v L' ⟨b17, rfl, rfl⟩
 refine .oq (.storeA rfl rfl ?c60 sz_43 ?c63 ?c61 (nfz0 _ _)) ?_
 case c60 => exact pt_cells hc1 (by rw [hsub1]; rfl)
 case c63 => rfl
 case c61 => simp [ptC]
 rintro v L' rfl
 refine .nil (.ptCast (b := b17) (l' := ptC y1) (by repeat' constructor) (by exact rfl) (.fold (p := entR ⟨0, 0, 0, y1, ys1⟩) (q := [aclR y1, slR 43 8 y1.subsV ys1.length (ys1.flatMap ptC), bigR aclR ys1]) (by repeat' constructor) (fun _ h => h) ?_))
 have hL1 := txn_L hok (Nat.le_refl _) hD1 hy1 hys1 ⟨hc1, as1, cs1, hsub1⟩ hyk1
 refine .then_n (.sm rfl (.m rfl (.m rfl (.q (.to (v' := .agg (rqC r).toArray) (.loadA rfl ag_28 (by repeat' constructor) (by simp [rqC])) (by rfl)) rfl (.oq (.c Tryz.func14 [_, _, _, _] (ptxnA_spec t (appL newT es) (⟨s, (more.reverse ++ ids.reverse)⟩ : Who) (.slice aw (more.reverse ++ ids.reverse).length cw) r (sep [slR 9 1 (.slice aw (more.reverse ++ ids.reverse).length cw) (more.reverse ++ ids.reverse).length (strs (more.reverse ++ ids.reverse)), q]) hD2.w 1048576 hok (by decide) hw (by decide) subs hD2.rd hD2.each hD2.acls (by decide))) ?_)))))
 rintro v L' ⟨y2, ys2, rfl, hy2, hys2, ⟨hc2, as2, cs2, hsub2⟩, hyk2, rfl⟩
 refine .oq (.allocA ze_43) ?_
 rintro v L' ⟨b18, rfl, rfl⟩
 refine .oq (.storeA rfl rfl ?c73 sz_43 ?c76 ?c74 (nfz0 _ _)) ?_
 case c73 => exact pt_cells hc2 (by rw [hsub2]; rfl)
 case c76 => rfl
 case c74 => simp [ptC]
 rintro v L' rfl
 refine .nil (.ptCast (b := b18) (l' := ptC y2) (by repeat' constructor) (by exact rfl) (.fold (p := entR ⟨0, 0, 0, y2, ys2⟩) (q := [aclR y2, slR 43 8 y2.subsV ys2.length (ys2.flatMap ptC), bigR aclR ys2]) (by repeat' constructor) (fun _ h => h) ?_))
 have hL2 := txn_L hok (Nat.le_refl _) hD2 hy2 hys2 ⟨hc2, as2, cs2, hsub2⟩ hyk2
 have hm : (y1.kind ≠ 8 ∨ (y1.err ≠ 65 ∧ r.kind ≠ 6)) → enB ⟨0, 0, 0, y1, ys1⟩ = enB ⟨0, 0, 0, y2, ys2⟩ := fun g => same_pl (hy1.trans ((congrArg Prod.fst (txn_more hmem (by rw [← hy1]; exact g))).symm.trans hy2.symm)) (hys1.trans ((congrArg Prod.snd (txn_more hmem (by rw [← hy1]; exact g))).symm.trans hys2.symm))
 refine .then_n (.seq (.joinK (ι := Unit) (fun q E => E) (fun q => []) (fun q => True) (pre := []) (ts := [2, 9, 12, 14]) (.cons rfl (.cons rfl (.cons rfl (.cons rfl (.nil))))) (by repeat' constructor) ?_ ?_))
 ·refine .sr (.u (.fieldAddr rfl fo_43_0) (.u (.ld rfl ag_3) (.ui rfl rfl rfl (.m rfl (.ndec (t := 74) rfl (fun h16_74 => ?_) (fun h16_74 => ?_))))))
  ·refine .kNT (t := 73) rfl h16_74 (.grun (t := 74) rfl rfl rfl (.q (.to (v' := .agg (ptC y1).toArray) (.loadA rfl ag_43 (by repeat' constructor) (by simp [ptC])) (by rfl)) rfl (.grun (t := 74) rfl rfl rfl (.q (.to (v' := .agg (ptC y2).toArray) (.loadA rfl ag_43 (by repeat' constructor) (by simp [ptC])) (by rfl)) rfl (.grun (t := 74) rfl rfl rfl (.oq (.c Tryz.func15 [_, _] (psame_spec y1 y2 ys1 ys2 _ _ hL1 hL2)) ?_))))))
   rintro v L' ⟨rfl, rfl⟩; rw [decide_eq_true (hm (.inl h16_74))]
   refine .grun (t := 74) rfl rfl rfl (.u (.not rfl) (.u (.pickT rfl rfl) (.m rfl (.grun (t := 80) rfl rfl rfl (.u (.fieldAddr rfl fo_43_0) (.grun (t := 80) rfl rfl rfl (.u (.ld rfl ag_3) (.grun (t := 80) rfl rfl rfl (.q (.as (v' := .bool false) (by exact congrArg Value.bool (decide_eq_false h16_74)) (.int rfl rfl rfl)) rfl (.grun (t := 80) rfl rfl rfl (.m rfl (.gk (.gk (.gk (.grun (t := 80) rfl rfl rfl (.u (.pickF rfl rfl) (.grun (t := 80) rfl rfl rfl (.m rfl (.gk (.gk (.gk (.grun (t := 80) rfl rfl rfl (.u (.pickF rfl rfl) (.grun (t := 80) rfl rfl rfl (.m rfl (.gk (.gk (.gk (.gk (.grun (t := 80) rfl rfl rfl (.u (.pickF rfl rfl) (.u (.pickF rfl rfl) (.nt (.condF rfl (.sk ?_)))))))))))))))))))))))))))))))))))
   exact .mk (()) (trivial) ⟨rfl, rfl, rfl, rfl, trivial⟩
  refine .kNF (t := 73) rfl h16_74 (.gk (.gk (.gk (.gk (.u (.pickF rfl rfl) (.m rfl (.grun (t := 80) rfl rfl rfl (.u (.fieldAddr rfl fo_43_0) (.grun (t := 80) rfl rfl rfl (.u (.ld rfl ag_3) (.grun (t := 80) rfl rfl rfl (.q (.as (v' := .bool true) (by exact congrArg Value.bool (decide_eq_true h16_74)) (.int rfl rfl rfl)) rfl (.grun (t := 80) rfl rfl rfl (.m rfl (.grun (t := 84) rfl rfl rfl (.u (.fieldAddr rfl fo_43_6) (.grun (t := 84) rfl rfl rfl (.u (.ld rfl ag_40) (.grun (t := 84) rfl rfl rfl (.ui rfl rfl rfl (.grun (t := 80) rfl rfl rfl (.u (.pickT rfl rfl) (.grun (t := 80) rfl rfl rfl (.m rfl (.ndec (t := 89) rfl (fun h16_89 => ?_) (fun h16_89 => ?_))))))))))))))))))))))))))
  ·refine .kNT (t := 87) rfl h16_89 (.kNT (t := 88) rfl h16_89 (.grun (t := 89) rfl rfl rfl (.u (.fieldAddr rfl fo_28_0) (.grun (t := 89) rfl rfl rfl (.u (.ld rfl ag_3) (.grun (t := 89) rfl rfl rfl (.ui rfl rfl rfl (.grun (t := 80) rfl rfl rfl (.u (.pickT rfl rfl) (.grun (t := 80) rfl rfl rfl (.m rfl (.ndec (t := 94) rfl (fun h16_94 => ?_) (fun h16_94 => ?_)))))))))))))
   ·refine .kNT (t := 92) rfl h16_94 (.kNT (t := 93) rfl h16_94 (.grun (t := 94) rfl rfl rfl (.q (.to (v' := .agg (ptC y1).toArray) (.loadA rfl ag_43 (by repeat' constructor) (by simp [ptC])) (by rfl)) rfl (.grun (t := 94) rfl rfl rfl (.q (.to (v' := .agg (ptC y2).toArray) (.loadA rfl ag_43 (by repeat' constructor) (by simp [ptC])) (by rfl)) rfl (.grun (t := 94) rfl rfl rfl (.oq (.c Tryz.func15 [_, _] (psame_spec y1 y2 ys1 ys2 _ _ hL1 hL2)) ?_)))))))
    rintro v L' ⟨rfl, rfl⟩; rw [decide_eq_true (hm (.inr ⟨h16_89, h16_94⟩))]
    refine .grun (t := 94) rfl rfl rfl (.u (.not rfl) (.grun (t := 80) rfl rfl rfl (.u (.pickT rfl rfl) (.u (.pickF rfl rfl) (.nt (.condF rfl (.sk ?_)))))))
    exact .mk (()) (trivial) ⟨rfl, rfl, rfl, rfl, trivial⟩
   refine .kNF (t := 92) rfl h16_94 (.kNF (t := 93) rfl h16_94 (.gk (.gk (.gk (.gk (.grun (t := 80) rfl rfl rfl (.u (.pickF rfl rfl) (.u (.pickF rfl rfl) (.nt (.condF rfl (.sk ?_)))))))))))
   exact .mk (()) (trivial) ⟨rfl, rfl, rfl, rfl, trivial⟩
  refine .kNF (t := 87) rfl h16_89 (.kNF (t := 88) rfl h16_89 (.gk (.gk (.gk (.grun (t := 80) rfl rfl rfl (.u (.pickF rfl rfl) (.grun (t := 80) rfl rfl rfl (.m rfl (.gk (.gk (.gk (.gk (.grun (t := 80) rfl rfl rfl (.u (.pickF rfl rfl) (.u (.pickF rfl rfl) (.nt (.condF rfl (.sk ?_))))))))))))))))))
  exact .mk (()) (trivial) ⟨rfl, rfl, rfl, rfl, trivial⟩
 rintro _u _
 refine .sm rfl (.m rfl (.q (.to (v' := .agg (rqC r).toArray) (.loadA rfl ag_28 (by repeat' constructor) (by simp [rqC])) (by rfl)) rfl (.oq (.c Tryz.func40 [_, _, _] (pread_spec t (appL newT es) ids (.slice ai ids.length ci) r (sep [slR 9 1 (.slice aw (more.reverse ++ ids.reverse).length cw) (more.reverse ++ ids.reverse).length (strs (more.reverse ++ ids.reverse)), q]) hD1.w.z 1048576 hok (by decide))) ?_)))
 rintro v L' ⟨av3, kv3, rfl, hav3, hkv3, rfl⟩
 refine .oq (.allocA ze_57) ?_
 rintro v L' ⟨b19, rfl, rfl⟩
 refine .oq (.storeA rfl rfl ?c117 sz_57 ?c120 ?c118 (nfz0 _ _)) ?_
 case c117 => exact rp_cells (by obtain ⟨_, _, e⟩ := hav3; show isCell av3 = true; rw [e]; rfl) (by obtain ⟨_, _, e⟩ := hkv3; show isCell kv3 = true; rw [e]; rfl) rfl
 case c120 => rfl
 case c118 => simp
 rintro v L' rfl
 refine .nil (.ptCast (b := b19) (l' := rpC (readR (appL newT es) ids r av3 kv3)) (by repeat' constructor) (by exact rfl) (.fold (p := sep [slR 85 2 av3 (readAl (appL newT es) ids r).length ((readAl (appL newT es) ids r).flatMap acC), slR 9 1 kv3 (readKl (appL newT es) ids r).length (strs (readKl (appL newT es) ids r))]) (q := [slR 85 2 av3 (readAl (appL newT es) ids r).length ((readAl (appL newT es) ids r).flatMap acC), slR 9 1 kv3 (readKl (appL newT es) ids r).length (strs (readKl (appL newT es) ids r))]) (by repeat' constructor) (fun _ h => h) ?_))
 have hR3 := read_L hw hok (Nat.le_refl _) (ids := ids) (r := r) hD.w.rq.xid (av := av3) (kv := kv3) (p := sep [slR 85 2 av3 (readAl (appL newT es) ids r).length ((readAl (appL newT es) ids r).flatMap acC), slR 9 1 kv3 (readKl (appL newT es) ids r).length (strs (readKl (appL newT es) ids r))]) (rd_head (fun _ => slR_rd)) (rd_two (fun _ => slR_rd)) hav3 hkv3
 refine .then_n (.sm rfl (.m rfl (.q (.to (v' := .agg (rqC r).toArray) (.loadA rfl ag_28 (by repeat' constructor) (by simp [rqC])) (by rfl)) rfl (.oq (.c Tryz.func40 [_, _, _] (pread_spec t (appL newT es) (more.reverse ++ ids.reverse) (.slice aw (more.reverse ++ ids.reverse).length cw) r (sep [slR 9 1 (.slice aw (more.reverse ++ ids.reverse).length cw) (more.reverse ++ ids.reverse).length (strs (more.reverse ++ ids.reverse)), q]) hD2.w.z 1048576 hok (by decide))) ?_))))
 rintro v L' ⟨av4, kv4, rfl, hav4, hkv4, rfl⟩
 refine .oq (.allocA ze_57) ?_
 rintro v L' ⟨b20, rfl, rfl⟩
 refine .oq (.storeA rfl rfl ?c129 sz_57 ?c132 ?c130 (nfz0 _ _)) ?_
 case c129 => exact rp_cells (by obtain ⟨_, _, e⟩ := hav4; show isCell av4 = true; rw [e]; rfl) (by obtain ⟨_, _, e⟩ := hkv4; show isCell kv4 = true; rw [e]; rfl) rfl
 case c132 => rfl
 case c130 => simp
 rintro v L' rfl
 refine .nil (.ptCast (b := b20) (l' := rpC (readR (appL newT es) (more.reverse ++ ids.reverse) r av4 kv4)) (by repeat' constructor) (by exact rfl) (.fold (p := sep [slR 85 2 av4 (readAl (appL newT es) (more.reverse ++ ids.reverse) r).length ((readAl (appL newT es) (more.reverse ++ ids.reverse) r).flatMap acC), slR 9 1 kv4 (readKl (appL newT es) (more.reverse ++ ids.reverse) r).length (strs (readKl (appL newT es) (more.reverse ++ ids.reverse) r))]) (q := [slR 85 2 av4 (readAl (appL newT es) (more.reverse ++ ids.reverse) r).length ((readAl (appL newT es) (more.reverse ++ ids.reverse) r).flatMap acC), slR 9 1 kv4 (readKl (appL newT es) (more.reverse ++ ids.reverse) r).length (strs (readKl (appL newT es) (more.reverse ++ ids.reverse) r))]) (by repeat' constructor) (fun _ h => h) ?_))
 have hR4 := read_L hw hok (Nat.le_refl _) (ids := (more.reverse ++ ids.reverse)) (r := r) hD.w.rq.xid (av := av4) (kv := kv4) (p := sep [slR 85 2 av4 (readAl (appL newT es) (more.reverse ++ ids.reverse) r).length ((readAl (appL newT es) (more.reverse ++ ids.reverse) r).flatMap acC), slR 9 1 kv4 (readKl (appL newT es) (more.reverse ++ ids.reverse) r).length (strs (readKl (appL newT es) (more.reverse ++ ids.reverse) r))]) (rd_head (fun _ => slR_rd)) (rd_two (fun _ => slR_rd)) hav4 hkv4
 refine .then_n (.sr (.u (.fieldAddr rfl fo_57_2) (.u (.ld rfl ag_40) (.ui rfl rfl rfl (.m rfl (.dec (t := 112) rfl (fun h20_112 => ?_) (fun h20_112 => ?_)))))))
 ·refine .kDT (t := 111) rfl h20_112 (.gk (.gk (.gk (.u (.pickT rfl rfl) (.an rfl (.ret (.focus (p := (sep [slR 9 1 (.slice aw (more.reverse ++ ids.reverse).length cw) (more.reverse ++ ids.reverse).length (strs (more.reverse ++ ids.reverse)), q])) (by repeat' constructor) (.unfold (q := [slR 9 1 (.slice aw (more.reverse ++ ids.reverse).length cw) (more.reverse ++ ids.reverse).length (strs (more.reverse ++ ids.reverse)), q]) (fun _ h => h) ?_))))))))
  exact .vv
 refine .kDF (t := 111) rfl h20_112 (.grun (t := 112) rfl rfl rfl (.q (.to (v' := .agg (rpC (readR (appL newT es) ids r av3 kv3)).toArray) (.loadA rfl ag_57 (by repeat' constructor) (by simp)) (by rfl)) rfl (.grun (t := 112) rfl rfl rfl (.q (.to (v' := .agg (rpC (readR (appL newT es) (more.reverse ++ ids.reverse) r av4 kv4)).toArray) (.loadA rfl ag_57 (by repeat' constructor) (by simp)) (by rfl)) rfl (.grun (t := 112) rfl rfl rfl (.oq (.c Tryz.func24 [_, _] (preplies12b_spec _ _ _ _ _ _ [] [] _ _ hR3 hR4)) ?_))))))
 rintro v L' ⟨rfl, rfl⟩; rw [decide_eq_true (read_same (readX_more hmem h20_112) av3 kv3 av4 kv4)]
 refine .u (.pickF rfl rfl) (.an rfl (.ret (.focus (p := (sep [slR 9 1 (.slice aw (more.reverse ++ ids.reverse).length cw) (more.reverse ++ ids.reverse).length (strs (more.reverse ++ ids.reverse)), q])) (by repeat' constructor) (.unfold (q := [slR 9 1 (.slice aw (more.reverse ++ ids.reverse).length cw) (more.reverse ++ ids.reverse).length (strs (more.reverse ++ ids.reverse)), q]) (fun _ h => h) ?_))))
 exact .vv
open Go Go.ChangeShapes Go.WideShapes Go.ChangeAt Go.RowKit
section
variable {H : Type} {enc : TypeId × Value → H} {P : Program} {W W' : World}
theorem trodAll_old (hl : laidOutB P = true) (hb : Below W.heap.size W W') (sp : Nat → Bool) : ∀ (ts : List TypeId) (vs : List Value) (ds : List (DataW H)) (p : List MemPlace), (∀ t ∈ ts, P.readableRec t = true ∧ t < P.types.size) →
  DataW.TrodAll enc P W 0 (fun _ => true) true ts vs ds p → (∀ x ∈ p, x.block < W.heap.size) → (∀ x ∈ p, sp x.block = true) → DataW.TrodAll enc P W' 0 sp true ts vs ds p
 | [], vs, ds, p, _, h, _, _ => by
  obtain ⟨rfl, rfl, rfl⟩ := trodAll_nil h
  exact h
 | t :: ts, vs, ds, p, hr, h, hlt, hsp => by
  obtain ⟨v, vs1, d, ds1, a, b, rfl, rfl, rfl, h1, h2⟩ := trodAll_cons h
  have r := hr t (by simp)
  refine ⟨a, b, WideElems.Trod_stays hl r.1 r.2 h1 (fun x hx => hb.same (hlt x (by simp [hx]))) (fun x hx => hsp x (by simp [hx])), ?_, rfl⟩
  exact trodAll_old hl hb sp ts vs1 ds1 b (fun t ht => hr t (by simp [ht])) h2 (fun x hx => hlt x (by simp [hx])) (fun x hx => hsp x (by simp [hx]))
theorem settled {fn : Func} {s : ChangeSpec} {apart fresh handsOn again : Bool} {args : Array Value} {ds gs : List (DataW H)} {before : List MemPlace} {tb : TypeId}
  (hW : DataW.Whole enc P fn.params.toList s.vars apart W args.toList ds gs before) (hvars : s.vars = []) (hspec : ∀ gs', gs' = [] → s.fn H (ds ++ gs') = { results := [.lit (.bool true)], args := ds })
  (hres : fn.resultTypes = #[tb]) (htb : P.underlying tb = some .bool) (hl : laidOutB P = true) (hr : ∀ t ∈ fn.params.toList, P.readableRec t = true ∧ t < P.types.size) (hb : Below W.heap.size W W') :
  s.post enc P fn apart fresh handsOn again W args (.bool true) W' := by
 have hW' := hW
 have hlt := hW.lt
 obtain ⟨p, q, hA, hV, rfl, hfz, hnd⟩ := hW
 rw [hvars] at hV
 obtain ⟨rfl, rfl⟩ := trodVars_none hV
 have hs := hspec [] rfl
 have hargs : ∀ sp : Nat → Bool, (∀ x ∈ p, sp x.block = true) → DataW.TrodAll enc P W' 0 sp true fn.params.toList args.toList ds p := fun sp hsp =>
  trodAll_old hl hb sp _ _ _ _ hr hA (fun x hx => hlt x (by simp [hx])) hsp
 have hbool : ∀ (b : Nat) (sp : Nat → Bool) (hd : Bool), DataW.TrodAll enc P W' b sp hd fn.resultTypes.toList ((Value.bool true).resultList fn.resultTypes.size) [.lit (.bool true)] [] := by
  intro b sp hd
  rw [hres]
  exact trodAll_cons_mk (shut_bool htb _) trodAll_mk0
 refine ⟨ds, [], p ++ [], [], p, [], hW', ?_, ?_, ?_, hb.frame _, fun _ => ⟨ok_one hres rfl (okWide_bool_mk htb _), [.lit (.bool true)] ++ ds, [], p, ⟨p, [], ?_, ?_, by simp, ?_, ?_⟩, ?_⟩⟩
 ·rw [hs]; exact hbool _ _ _
 ·rw [hs]; exact hargs _ (fun x hx => by simpa using hlt x (by simp [hx]))
 ·rw [hs, hvars]; exact hV
 ·exact trodAll_append (hargs _ (fun _ _ => rfl)) (hbool _ _ _)
 ·rw [hvars]; exact hV
 ·intro b off hp
  rw [hb.frozen (p := ⟨b, off, none⟩) (hlt (.cell b off) (by simp [hp]))]
  exact hfz b off (by simp [hp])
 ·intro ha
  have := hnd ha
  simpa using this
 ·intro x hx _
  simp [hx]
theorem old_calls {f : FuncId} {args : Array Value} (h : Fn P f args [Old W] fun v L => v = .bool true ∧ L = [Old W]) :
  Calls P f args W fun e W' => e = .returned (.bool true) ∧ Below W.heap.size W W' := by
 have h0 : St [Old W] W := ⟨fun b => W.heap[b]?, fun _ => none, fun _ => .inr rfl, fun b o h => h, fun b o h => (by cases h), fun b hb => rfl, trivial⟩
 refine (h [] W h0).mono ?_
 rintro e W' ⟨v, L, ⟨rfl, rfl⟩, rfl, hs, hk⟩
 refine ⟨rfl, hk.os, hk.tape, hk.output, hk.size, fun k hk' => ?_⟩
 obtain ⟨h1, a1, hp⟩ := sep_head hs
 have e1 := hp k hk'
 have : ∃ o, W.heap[k]? = some o := ⟨_, Array.getElem?_eq_getElem hk'⟩
 obtain ⟨o, ho⟩ := this
 rw [ho] at e1 ⊢
 exact a1 _ _ e1
theorem old_rd {a : Addr} {len cap : Nat} {V : Nat → Value} (hc : ∀ i, i < len → W.cell? (a.add i) = some (V i)) (hle : len ≤ cap) : ∀ h : Hp, Old W h → rdS 1 h (.slice (some a) len cap) len ((List.range len).map V) := by
 intro h hold
 rcases Nat.eq_zero_or_pos len with rfl | hpos
 ·exact .inl ⟨rfl, rfl, some a, cap, rfl⟩
 ·obtain ⟨b, off, spot⟩ := a
  have h0 := hc 0 hpos
  have e0 : (⟨b, off, spot⟩ : Addr).add 0 = ⟨b, off, spot⟩ := by simp [Addr.add]
  rw [e0] at h0
  simp only [World.cell?] at h0
  rcases hw : W.heap[b]? with _ | o
  ·rw [hw] at h0; cases h0
  ·cases o with
   | cells c T fr =>
    rw [hw] at h0
    dsimp only at h0
    split at h0
    ·cases h0
    ·rename_i hsp
     have hspot : spot = none := by simpa using hsp
     subst hspot
     have hc' : ∀ i, i < len → c[off + i]? = some (V i) := by
      intro i hi
      have := hc i hi
      have e1 : (⟨b, off, none⟩ : Addr).add i = ⟨b, off + i, none⟩ := by
       simp only [Addr.add]; split
       ·rename_i h0; simp [h0]
       ·rfl
      rw [e1] at this
      simp only [World.cell?, hw] at this
      simpa using this
     have hlt : b < W.heap.size := by
      rcases Nat.lt_or_ge b W.heap.size with h' | h'
      ·exact h'
      ·rw [Array.getElem?_eq_none h'] at hw; cases hw
     have hlen : off + len ≤ c.size := by
      have := hc' (len - 1) (by omega)
      rcases Nat.lt_or_ge (off + (len - 1)) c.size with h' | h'
      ·omega
      ·rw [Array.getElem?_eq_none h'] at this; cases this
     refine .inr ⟨b, off, cap, c.toList, T, fr, rfl, by rw [hold b hlt, hw], ?_, by simpa using hlen, hle⟩
     apply List.ext_getElem?
     intro i
     rw [Nat.mul_one, List.getElem?_take, List.getElem?_map, List.getElem?_drop]
     split
     ·rename_i hi
      rw [List.getElem?_range hi]
      simpa using hc' i hi
     ·rename_i hi
      rw [List.getElem?_eq_none (by simpa using hi)]; rfl
   | _ => rw [hw] at h0; cases h0
theorem arg_int {t : TypeId} {r : Reach} {b0 : Nat} {v : Value} {d : DataW H} {ps : List MemPlace} (ht : P.underlying t = some (.int .i64)) (hval : Value.okWide P W r b0 t v)
  (h : DataW.Trod enc P W 0 (fun _ => true) true t v d ps) : ∃ n : Int, v = vint n ∧ d = .lit (.int .i64 n) ∧ -9223372036854775808 ≤ n ∧ n ≤ 9223372036854775807 := by
 obtain ⟨n, rfl, rfl, rfl, hwf⟩ := open_int ht hval h
 exact ⟨n, rfl, rfl, bounds_i64 hwf⟩
end
open Go Go.ChangeShapes Go.WideShapes Go.ChangeAt Go.RowKit
section
variable {H : Type} {enc : TypeId × Value → H} {P : Program} {W : World}
theorem string_vstr (s : ByteArray) : Value.string s = vstr s.data.toList := by cases s; rfl
end
open Go Go.ChangeShapes Go.WideShapes Go.ChangeAt Go.RowKit
section
variable {H : Type} {enc : TypeId × Value → H} {P : Program} {W : World}
theorem flat_at {α : Type} {sz : Nat} (f : Nat → List α) : ∀ n, (∀ i, i < n → (f i).length = sz) → ∀ j, j < n * sz → ((List.range n).flatMap f)[j]? = (f (j / sz))[j % sz]? ∧ ((List.range n).flatMap f).length = n * sz := by
 intro n
 induction n with
 | zero => intro _ j hj; omega
 | succ n ih =>
  intro hf j hj
  have hn := hf n (by omega)
  have hlen : ((List.range n).flatMap f).length = n * sz := by
   rcases Nat.eq_zero_or_pos (n * sz) with h0 | h0
   ·rcases Nat.eq_zero_or_pos n with h1 | h1
    ·subst h1; simp
    ·have : sz = 0 := by
      rcases Nat.eq_zero_or_pos sz with h2 | h2
      ·exact h2
      ·have := Nat.mul_pos h1 h2; omega
     subst this; omega
   ·exact (ih (fun i hi => hf i (by omega)) 0 h0).2
  have e : (List.range (n + 1)).flatMap f = (List.range n).flatMap f ++ f n := by simp [List.range_succ]
  have hm : (n + 1) * sz = n * sz + sz := by rw [Nat.add_mul, Nat.one_mul]
  rw [e]
  refine ⟨?_, by rw [List.length_append, hlen, hn, hm]⟩
  rcases Nat.lt_or_ge j (n * sz) with h | h
  ·rw [List.getElem?_append_left (by omega)]
   exact (ih (fun i hi => hf i (by omega)) j h).1
  ·rw [List.getElem?_append_right (by omega), hlen]
   have hs : 0 < sz := by omega
   have h1 : j / sz = n := by
    have : j < (n + 1) * sz := hj
    have a := Nat.div_lt_of_lt_mul (show j < sz * (n + 1) by rw [Nat.mul_comm]; exact this)
    have b := (Nat.le_div_iff_mul_le hs).2 h
    omega
   have h2 : j % sz = j - n * sz := by
    have := Nat.div_add_mod j sz
    rw [h1, Nat.mul_comm] at this; omega
   rw [h1, h2]
theorem rdS_regroup {sz n c c1 : Nat} {a : Option Addr} {ys : List Value} {h : Hp} (hr : rdS 1 h (.slice a (n * sz) c1) (n * sz) ys) (hc : n ≤ c) (hs : 0 < sz) : rdS sz h (.slice a n c) n ys := by
 rcases hr with ⟨h1, h2, -⟩ | ⟨b, off, cap, l, T, fr, hv, hb, h1, h2, h3⟩
 ·have : n = 0 := by
   rcases Nat.eq_zero_or_pos n with h0 | h0
   ·exact h0
   ·have := Nat.mul_pos h0 hs; omega
  subst this
  exact .inl ⟨rfl, h2, a, c, rfl⟩
 ·simp only [Value.slice.injEq] at hv
  obtain ⟨rfl, -, -⟩ := hv
  exact .inr ⟨b, off, c, l, T, fr, rfl, hb, by rw [← h1, Nat.mul_one], by rw [Nat.mul_one] at h2; exact h2, hc⟩
abbrev Reads (enc : TypeId × Value → H) (P : Program) (W : World) (fuel : Nat) (t : TypeId) (cs : List Value) (x : DataW H × List MemPlace) : Prop := DataW.trod enc P W 0 (fun _ => true) true fuel t cs = some x
theorem dec_int {t : TypeId} {fuel : Nat} {cs : List Value} {x : DataW H × List MemPlace} (ht : P.underlying t = some (.int .i64)) (h : Reads enc P W fuel t cs x) : ∃ n : Int, cs = [vint n] ∧ -9223372036854775808 ≤ n ∧ n ≤ 9223372036854775807 := by
 obtain ⟨n, rfl, -, hwf⟩ := DataW.trod_int ht h
 exact ⟨n, rfl, bounds_i64 hwf⟩
theorem dec_bool {t : TypeId} {fuel : Nat} {cs : List Value} {x : DataW H × List MemPlace} (ht : P.underlying t = some .bool) (h : Reads enc P W fuel t cs x) : ∃ b : Bool, cs = [.bool b] := by
 obtain ⟨b, rfl, -⟩ := DataW.trod_bool ht h
 exact ⟨b, rfl⟩
end
open Go Go.ChangeShapes Go.WideShapes Go.ChangeAt Go.RowKit
theorem bulk_pos {H : Type} (d : DataW H) : 1 ≤ Rows.uptoBulk d := by
 cases d with
 | lit l => cases l <;> simp [Rows.uptoBulk]
 | _ => simp [Rows.uptoBulk]
theorem bulk_part {H : Type} {d : DataW H} : ∀ {l : List (DataW H)}, d ∈ l → Rows.uptoBulk d ≤ Rows.uptoBulkAll l
 | x :: l, h => by
  unfold Rows.uptoBulkAll
  rcases List.mem_cons.1 h with rfl | h
  ·omega
  ·have := bulk_part h; omega
theorem bulk_count {H : Type} : ∀ l : List (DataW H), l.length ≤ Rows.uptoBulkAll l
 | [] => by simp
 | x :: l => by
  have h1 := bulk_pos x
  have h2 := bulk_count l
  unfold Rows.uptoBulkAll
  rw [List.length_cons]; omega
theorem bulk_sum {H : Type} : ∀ l : List (DataW H), (l.map Rows.uptoBulk).sum ≤ Rows.uptoBulkAll l
 | [] => by simp
 | x :: l => by
  have h2 := bulk_sum l
  unfold Rows.uptoBulkAll
  rw [List.map_cons, List.sum_cons]; omega
theorem bulk_small {H : Type} {l : List (DataW H)} (h : Rows.uptoSmall H l = true) {d : DataW H} (hd : d ∈ l) : Rows.uptoBulk d ≤ 1048576 :=
 Nat.le_trans (bulk_part hd) (of_decide_eq_true h)
instance : Inhabited Value := ⟨.bool false⟩
section
variable {H : Type} {enc : TypeId × Value → H} {P : Program} {W : World} {N : Nat}
theorem dec_int' {t : TypeId} {fuel : Nat} {cs : List Value} {x : DataW H × List MemPlace} (ht : P.underlying t = some (.int .i64)) (h : Reads enc P W fuel t cs x) : ∃ n : Int, cs = [vint n] ∧ (-9223372036854775808 ≤ n ∧ n ≤ 9223372036854775807) := by
 obtain ⟨n, h1, h2⟩ := dec_int ht h; exact ⟨n, h1, h2⟩
theorem slice_cell {t e : TypeId} {fuel : Nat} {v : Value} {x : DataW H × List MemPlace} (ht : P.underlying t = some (.slice e)) (h : Reads enc P W fuel t [v] x) : isCell v = true := by
 rcases Go.Deep.open_slice ht h with ⟨hv, -⟩ | ⟨a, len, cap, m, n, Dd, Pl, hv, -⟩
 ·rw [List.cons.injEq] at hv; rw [hv.1]; rfl
 ·rw [List.cons.injEq] at hv; rw [hv.1]; rfl
theorem dec_sliceV {Z : Type} [Inhabited Z] (toC : Z → List Value) (Q : Z → Prop) {t e : TypeId} {sz : Nat} {fuel : Nat} {cs : List Value} {x : DataW H × List MemPlace} (ht : P.underlying t = some (.slice e)) (hc : P.cellsOf e = sz) (hs : 0 < sz)
  (hdec : ∀ (n : Nat) (cs : List Value) (y : DataW H × List MemPlace), Reads enc P W n e cs y → Rows.uptoBulk y.1 ≤ N → ∃ z, cs = toC z ∧ Q z) (h : Reads enc P W fuel t cs x) (hb : Rows.uptoBulk x.1 ≤ N + 1) :
  ∃ z : Value × List Z, cs = [z.1] ∧ (∀ h : Hp, Old W h → rdS sz h z.1 z.2.length (z.2.flatMap toC)) ∧ z.2.length ≤ N ∧ ∀ y ∈ z.2, Q y := by
 subst hc
 rcases Go.Deep.open_slice ht h with ⟨rfl, rfl⟩ | ⟨a, len, cap, m, n, Dd, Pl, rfl, -, hl, hm, hmm, rfl, hx⟩
 ·exact ⟨(_, []), rfl, fun h _ => .inl ⟨rfl, rfl, none, 0, rfl⟩, by simp, by simp⟩
 ·simp only [if_true] at hmm
  subst hmm
  have hbl : len ≤ N := by
   have := bulk_count ((List.range len).map Dd)
   simp only [Rows.uptoBulk] at hb
   rw [List.length_map, List.length_range] at this
   omega
  have hbe : ∀ i, i < len → Rows.uptoBulk (Dd i) ≤ N := fun i hi => by
   have := bulk_part (d := Dd i) (l := (List.range len).map Dd) (List.mem_map_of_mem (by simpa using hi))
   simp only [Rows.uptoBulk] at hb
   omega
  obtain ⟨Zf, hZ⟩ := Go.Deep.choose_lt (α := Z) (p := fun i z => W.cells? 0 (a.add (i * P.cellsOf e)) (P.cellsOf e) = some (toC z) ∧ Q z) (n := len) (fun i hi => by
   obtain ⟨cs', h1, h2⟩ := hx i (by omega)
   obtain ⟨z, rfl, h3⟩ := hdec _ _ _ h2 (hbe i hi)
   exact ⟨z, h1, h3⟩)
  have hlenf : ∀ i, i < len → (toC (Zf i)).length = P.cellsOf e := fun i hi => (World.cells?_some (hZ i hi).1).2.1
  have hflat := flat_at (fun i => toC (Zf i)) len hlenf
  refine ⟨(_, (List.range len).map Zf), rfl, ?_, ?_, ?_⟩
  ·intro h hold
   dsimp only
   rw [List.length_map, List.length_range]
   refine rdS_regroup (c1 := len * P.cellsOf e) ?_ hl hs
   have e1 : ((List.range len).map Zf).flatMap toC = (List.range (len * P.cellsOf e)).map (fun j => ((List.range len).flatMap fun i => toC (Zf i)).getD j (.bool false)) := by
    rw [List.flatMap_map]
    apply List.ext_getElem?
    intro j
    rcases Nat.lt_or_ge j (len * P.cellsOf e) with hj | hj
    ·rw [List.getElem?_map, List.getElem?_range hj]
     have := (hflat j hj).2
     have hjl : j < ((List.range len).flatMap fun i => toC (Zf i)).length := by omega
     simp only [Option.map_some, List.getD_eq_getElem?_getD, List.getElem?_eq_getElem hjl, Option.getD_some]
    ·have : ((List.range len).flatMap fun i => toC (Zf i)).length = len * P.cellsOf e := by
      rcases Nat.eq_zero_or_pos (len * P.cellsOf e) with h0 | h0
      ·have : len = 0 := by
        rcases Nat.eq_zero_or_pos len with h1 | h1
        ·exact h1
        ·have := Nat.mul_pos h1 hs; omega
       subst this; simp
      ·exact (hflat 0 h0).2
     rw [List.getElem?_eq_none (by omega), List.getElem?_eq_none (by simpa using hj)]
   rw [e1]
   refine old_rd (W := W) (fun j hj => ?_) (Nat.le_refl _) h hold
   have hi : j / P.cellsOf e < len := Nat.div_lt_of_lt_mul (by rw [Nat.mul_comm]; exact hj)
   have hcell := (World.cells?_some (hZ (j / P.cellsOf e) hi).1).2.2 (j % P.cellsOf e) (Nat.mod_lt _ hs)
   rw [Addr.add_add, Nat.mul_comm, Nat.div_add_mod] at hcell
   rw [hcell]
   obtain ⟨f1, f2⟩ := hflat j hj
   rw [List.getD_eq_getElem?_getD, f1]
   have : j % P.cellsOf e < (toC (Zf (j / P.cellsOf e))).length := by rw [hlenf _ hi]; exact Nat.mod_lt _ hs
   simp [this]
  ·dsimp only; rw [List.length_map, List.length_range]; exact hbl
  ·intro z hz
   obtain ⟨i, hi, rfl⟩ := List.mem_map.1 hz
   exact (hZ i (by simpa using hi)).2
theorem dec_sliceQV {Z : Type} [Inhabited Z] (toC : Z → List Value) (Q : Nat → Z → Prop) {t e : TypeId} {sz : Nat} {fuel : Nat} {cs : List Value} {x : DataW H × List MemPlace} (ht : P.underlying t = some (.slice e)) (hc : P.cellsOf e = sz) (hs : 0 < sz)
  (hdec : ∀ (n : Nat) (cs : List Value) (y : DataW H × List MemPlace), Reads enc P W n e cs y → ∃ z, cs = toC z ∧ Q (Rows.uptoBulk y.1) z) (h : Reads enc P W fuel t cs x) (hb : Rows.uptoBulk x.1 ≤ N + 1) :
  ∃ (z : Value × List Z) (ws : List Nat), cs = [z.1] ∧ (∀ h : Hp, Old W h → rdS sz h z.1 z.2.length (z.2.flatMap toC)) ∧ z.2.length ≤ N ∧ ws.length = z.2.length ∧ ws.sum ≤ N ∧ (∀ w ∈ ws, 1 ≤ w) ∧ ∀ i (h1 : i < z.2.length) (h2 : i < ws.length), Q ws[i] z.2[i] := by
 subst hc
 rcases Go.Deep.open_slice ht h with ⟨rfl, rfl⟩ | ⟨a, len, cap, m, n, Dd, Pl, rfl, -, hl, hm, hmm, rfl, hx⟩
 ·exact ⟨(_, []), [], rfl, fun h _ => .inl ⟨rfl, rfl, none, 0, rfl⟩, by simp, rfl, by simp, (fun _ h => by cases h), (fun i h1 _ => by simp at h1)⟩
 ·simp only [if_true] at hmm
  subst hmm
  have hbl : len ≤ N := by
   have := bulk_count ((List.range len).map Dd)
   simp only [Rows.uptoBulk] at hb
   rw [List.length_map, List.length_range] at this
   omega
  have hall : ((List.range len).map fun i => Rows.uptoBulk (Dd i)).sum ≤ N := by
   have := bulk_sum ((List.range len).map Dd)
   rw [List.map_map] at this
   simp only [Rows.uptoBulk] at hb
   have e : ((List.range len).map fun i => Rows.uptoBulk (Dd i)) = (List.range len).map (Rows.uptoBulk ∘ Dd) := rfl
   rw [e]; omega
  obtain ⟨Zf, hZ⟩ := Go.Deep.choose_lt (α := Z) (p := fun i z => W.cells? 0 (a.add (i * P.cellsOf e)) (P.cellsOf e) = some (toC z) ∧ Q (Rows.uptoBulk (Dd i)) z) (n := len) (fun i hi => by
   obtain ⟨cs', h1, h2⟩ := hx i (by omega)
   obtain ⟨z, rfl, h3⟩ := hdec _ _ _ h2
   exact ⟨z, h1, h3⟩)
  have hlenf : ∀ i, i < len → (toC (Zf i)).length = P.cellsOf e := fun i hi => (World.cells?_some (hZ i hi).1).2.1
  have hflat := flat_at (fun i => toC (Zf i)) len hlenf
  refine ⟨(_, (List.range len).map Zf), (List.range len).map fun i => Rows.uptoBulk (Dd i), rfl, ?_, ?_, by simp, hall, ?_, ?_⟩
  ·intro h hold
   dsimp only
   rw [List.length_map, List.length_range]
   refine rdS_regroup (c1 := len * P.cellsOf e) ?_ hl hs
   have e1 : ((List.range len).map Zf).flatMap toC = (List.range (len * P.cellsOf e)).map (fun j => ((List.range len).flatMap fun i => toC (Zf i)).getD j (.bool false)) := by
    rw [List.flatMap_map]
    apply List.ext_getElem?
    intro j
    rcases Nat.lt_or_ge j (len * P.cellsOf e) with hj | hj
    ·rw [List.getElem?_map, List.getElem?_range hj]
     have := (hflat j hj).2
     have hjl : j < ((List.range len).flatMap fun i => toC (Zf i)).length := by omega
     simp only [Option.map_some, List.getD_eq_getElem?_getD, List.getElem?_eq_getElem hjl, Option.getD_some]
    ·have : ((List.range len).flatMap fun i => toC (Zf i)).length = len * P.cellsOf e := by
      rcases Nat.eq_zero_or_pos (len * P.cellsOf e) with h0 | h0
      ·have : len = 0 := by
        rcases Nat.eq_zero_or_pos len with h1 | h1
        ·exact h1
        ·have := Nat.mul_pos h1 hs; omega
       subst this; simp
      ·exact (hflat 0 h0).2
     rw [List.getElem?_eq_none (by omega), List.getElem?_eq_none (by simpa using hj)]
   rw [e1]
   refine old_rd (W := W) (fun j hj => ?_) (Nat.le_refl _) h hold
   have hi : j / P.cellsOf e < len := Nat.div_lt_of_lt_mul (by rw [Nat.mul_comm]; exact hj)
   have hcell := (World.cells?_some (hZ (j / P.cellsOf e) hi).1).2.2 (j % P.cellsOf e) (Nat.mod_lt _ hs)
   rw [Addr.add_add, Nat.mul_comm, Nat.div_add_mod] at hcell
   rw [hcell]
   obtain ⟨f1, f2⟩ := hflat j hj
   rw [List.getD_eq_getElem?_getD, f1]
   have : j % P.cellsOf e < (toC (Zf (j / P.cellsOf e))).length := by rw [hlenf _ hi]; exact Nat.mod_lt _ hs
   simp [this]
  ·dsimp only; rw [List.length_map, List.length_range]; exact hbl
  ·intro w hw
   obtain ⟨i, -, rfl⟩ := List.mem_map.1 hw
   exact bulk_pos _
  ·intro i h1 h2
   simp only [List.getElem_map, List.getElem_range]
   exact (hZ i (by simpa using h1)).2
/-! ### With weights: what is read weighs no more than its bulk -/
theorem dec_strW {t : TypeId} {fuel : Nat} {cs : List Value} {x : DataW H × List MemPlace} (ht : P.underlying t = some .string) (h : Reads enc P W fuel t cs x) : ∃ s : List UInt8, cs = [vstr s] ∧ s.length + 1 ≤ Rows.uptoBulk x.1 := by
 obtain ⟨s, rfl, rfl, -⟩ := DataW.trod_string ht h
 exact ⟨s.data.toList, by rw [string_vstr], by simp [Rows.uptoBulk]⟩
theorem dec_intW {t : TypeId} {fuel : Nat} {cs : List Value} {x : DataW H × List MemPlace} (ht : P.underlying t = some (.int .i64)) (h : Reads enc P W fuel t cs x) : ∃ n : Int, cs = [vint n] ∧ (-9223372036854775808 ≤ n ∧ n ≤ 9223372036854775807) ∧ 1 ≤ Rows.uptoBulk x.1 := by
 obtain ⟨n, h1, h2⟩ := dec_int' ht h; exact ⟨n, h1, h2, bulk_pos _⟩
theorem slice_shape {t e : TypeId} {fuel : Nat} {v : Value} {x : DataW H × List MemPlace} (ht : P.underlying t = some (.slice e)) (h : Reads enc P W fuel t [v] x) : ∃ a n c, v = .slice a n c := by
 rcases Go.Deep.open_slice ht h with ⟨hv, -⟩ | ⟨a, len, cap, m, n, Dd, Pl, hv, -⟩
 ·rw [List.cons.injEq] at hv; rw [hv.1]; exact ⟨_, _, _, rfl⟩
 ·rw [List.cons.injEq] at hv; rw [hv.1]; exact ⟨_, _, _, rfl⟩
theorem sum_le {Z : Type} {m : Z → Nat} : ∀ {l : List Z} {ws : List Nat}, ws.length = l.length → (∀ i (h1 : i < l.length) (h2 : i < ws.length), m l[i] ≤ ws[i]) → (l.map m).sum ≤ ws.sum
 | [], _, _, _ => by simp
 | z :: l, [], h, _ => by simp at h
 | z :: l, w :: ws, h, hq => by
  have h0 := hq 0 (by simp) (by simp)
  have h1 := sum_le (l := l) (ws := ws) (m := m) (by simpa using h) (fun i h1 h2 => hq (i + 1) (by simpa using h1) (by simpa using h2))
  rw [List.map_cons, List.sum_cons, List.sum_cons]
  have h0' : m z ≤ w := h0
  omega
theorem dec_sliceW {Z : Type} [Inhabited Z] (toC : Z → List Value) (Q : Z → Prop) (m : Z → Nat) {t e : TypeId} {sz : Nat} {fuel : Nat} {cs : List Value} {x : DataW H × List MemPlace} (ht : P.underlying t = some (.slice e)) (hc : P.cellsOf e = sz) (hs : 0 < sz)
  (hdec : ∀ (n : Nat) (cs : List Value) (y : DataW H × List MemPlace), Reads enc P W n e cs y → ∃ z, cs = toC z ∧ Q z ∧ m z ≤ Rows.uptoBulk y.1) (h : Reads enc P W fuel t cs x) :
  ∃ z : Value × List Z, cs = [z.1] ∧ (∀ h : Hp, Old W h → rdS sz h z.1 z.2.length (z.2.flatMap toC)) ∧ (∀ y ∈ z.2, Q y) ∧ z.2.length + 1 ≤ Rows.uptoBulk x.1 ∧ 1 + (z.2.map m).sum ≤ Rows.uptoBulk x.1 := by
 have hp := bulk_pos x.1
 obtain ⟨z, ws, h1, h2, h3, h4, h5, -, h7⟩ := dec_sliceQV (N := Rows.uptoBulk x.1 - 1) toC (fun B z => Q z ∧ m z ≤ B) ht hc hs hdec h (by omega)
 refine ⟨z, h1, h2, fun y hy => ?_, by omega, ?_⟩
 ·obtain ⟨i, hi, rfl⟩ := List.mem_iff_getElem.1 hy
  exact (h7 i hi (by omega)).1
 ·have := sum_le (m := m) h4 (fun i g1 g2 => (h7 i g1 g2).2)
  omega
theorem rd_shape {sz n : Nat} {v : Value} {ys : List Value} (hr : ∀ h : Hp, Old W h → rdS sz h v n ys) : ∃ a c, v = .slice a n c := by
 have h := hr (fun b => if b < W.heap.size then W.heap[b]? else none) (fun b hb => if_pos hb)
 rcases h with ⟨rfl, -, a, c, rfl⟩ | ⟨b, off, cap, l, T, fr, rfl, -⟩
 ·exact ⟨_, _, rfl⟩
 ·exact ⟨_, _, rfl⟩
end
open Go Go.ChangeShapes Go.WideShapes Go.ChangeAt Go.RowKit
def mAc (a : Ac) : Nat := 3 + a.2.length
theorem sum_mem {α : Type} {m : α → Nat} : ∀ {l : List α} {x : α}, x ∈ l → m x ≤ (l.map m).sum
 | y :: l, x, h => by
  rw [List.map_cons, List.sum_cons]
  rcases List.mem_cons.1 h with rfl | h
  ·omega
  ·have := sum_mem (m := m) h; omega
theorem sum_three {α : Type} {m : α → Nat} (hm : ∀ x, 3 ≤ m x) : ∀ l : List α, 3 * l.length ≤ (l.map m).sum
 | [] => by simp
 | y :: l => by have := sum_three hm l; have := hm y; rw [List.map_cons, List.sum_cons, List.length_cons]; omega
theorem fm_weigh {α : Type} {f : α → Bs} {m : α → Nat} : ∀ {l : List α}, (∀ x ∈ l, (f x).length ≤ 20 * m x) → (l.flatMap f).length ≤ 20 * (l.map m).sum
 | [], _ => by simp
 | y :: l, h => by
  have h1 := h y (List.mem_cons_self ..)
  have h2 := fm_weigh (l := l) (m := m) (f := f) (fun x hx => h x (List.mem_cons_of_mem _ hx))
  rw [List.flatMap_cons, List.length_append, List.map_cons, List.sum_cons]; omega
theorem aclW_of {l : List Ac} (h : ∀ a ∈ l, I64 a.1) (hm : (l.map mAc).sum ≤ 1048576) : AclW l := by
 have hl := sum_three (m := mAc) (fun a => by unfold mAc; omega) l
 have hu : U64 = 18446744073709551616 := rfl
 have hi : ∀ a ∈ l, a.2.length ≤ 1048576 := fun a ha => by
  have h1 := sum_mem (m := mAc) ha
  have h2 : mAc a = 3 + a.2.length := rfl
  omega
 refine ⟨by omega, ?_, fun a ha => ⟨⟨h a ha, by have := hi a ha; omega⟩, hi a ha⟩⟩
 have h3 := fm_weigh (f := acB) (m := mAc) (l := l) (fun a ha => by
  have h1 := numB_len8 (h a ha)
  have h2 := sev_len10 (u := a.2.length) (by have := hi a ha; omega)
  unfold acB txtB cntB mAc
  rw [List.length_append, List.length_append]; omega)
 have h4 := sev_len10 (u := l.length) (by omega)
 unfold aclB cntB
 rw [List.length_append]; omega
def mPt (y : Pt) : Nat := 9 + y.path.length + y.data.length + (y.acl.map mAc).sum
def mEn (e : En) : Nat := mPt e.x + (e.subs.map mPt).sum
structure PtG (p : HP) (y : Pt) : Prop where
 own : I64 y.own
 num : I64 y.num
 err : I64 y.err
 acl : ∀ h : Hp, p h → rdS 2 h y.aclV y.acl.length (y.acl.flatMap acC)
 ac : isCell y.aclV = true
 sc : isCell y.subsV = true
 each : ∀ a ∈ y.acl, I64 a.1
structure EnG (p : HP) (e : En) : Prop where
 zx : I64 e.zx
 xid : I64 e.xid
 x : PtG p e.x
 subs : ∀ h : Hp, p h → rdS 8 h e.x.subsV e.subs.length (e.subs.flatMap ptC)
 each : ∀ y ∈ e.subs, PtG p y
theorem PtG.A {p : HP} {y : Pt} (h : PtG p y) (hm : mPt y ≤ 1048576) : PtA p y := by
 unfold mPt at hm
 exact ⟨h.acl, (aclW_of h.each (by omega)).few, by omega, h.sc, h.ac⟩
theorem PtG.N {p : HP} {y : Pt} (h : PtG p y) (hm : mPt y ≤ 1048576) : PtN y := by
 unfold mPt at hm
 exact ⟨h.own, h.num, by omega, aclW_of h.each (by omega)⟩
theorem subs_few (l : List Pt) : 3 * l.length ≤ (l.map mPt).sum := sum_three (fun y => by unfold mPt; omega) l
theorem EnG.T {p : HP} {e : En} (h : EnG p e) (hm : mEn e ≤ 1048576) : TxA p e.x e.subs := by
 unfold mEn at hm
 have := subs_few e.subs
 exact ⟨h.x.A (by omega), h.subs, by omega, fun y hy => (h.each y hy).A (by have := sum_mem (m := mPt) hy; omega)⟩
theorem EnG.N {p : HP} {e : En} (h : EnG p e) (hm : mEn e ≤ 1048576) : EnN e := by
 unfold mEn at hm
 exact ⟨h.zx, h.x.N (by omega), fun y hy => (h.each y hy).N (by have := sum_mem (m := mPt) hy; omega)⟩
instance : Inhabited Pt := ⟨ptS 0 [] [] 0⟩
instance : Inhabited En := ⟨⟨0, 0, 0, ptS 0 [] [] 0, []⟩⟩
instance : Inhabited Rq := ⟨⟨0, 0, [], [], nilV, [], 0, 0, false, nilV, nilV⟩⟩
theorem wtL_le : ∀ l : List En, 3 * wtL l ≤ (l.map mEn).sum
 | [] => by simp [wtL]
 | e :: l => by
  have h1 := wtL_le l
  have h2 := subs_few e.subs
  have h3 : mEn e = mPt e.x + (e.subs.map mPt).sum := rfl
  have h4 : 9 ≤ mPt e.x := by unfold mPt; omega
  unfold wtL at h1 ⊢
  rw [List.map_cons, List.sum_cons, List.map_cons, List.sum_cons]
  omega
def mRq (r : Rq) : Nat := 10 + r.path.length + r.data.length + (r.acl.map mAc).sum
structure RqG (p : HP) (r : Rq) : Prop where
 kind : I64 r.kind
 xid : I64 r.xid
 flags : I64 r.flags
 ver : I64 r.ver
 acl : ∀ h : Hp, p h → rdS 2 h r.aclV r.acl.length (r.acl.flatMap acC)
 ash : ∃ a n c, r.aclV = .slice a n c
 each : ∀ a ∈ r.acl, I64 a.1
 sub : ∃ a n c, r.subsV = .slice a n c
 arm : ∃ a n c, r.armV = .slice a n c
structure RqD (p : HP) (r : Rq) (l : List Rq) : Prop where
 own : RqG p r ∧ mRq r ≤ 1048576
 rd : ∀ h : Hp, p h → rdS 10 h r.subsV l.length (l.flatMap rqC)
 each : ∀ x ∈ l, RqG p x ∧ mRq x ≤ 1048576
theorem RqG.w {p : HP} {r : Rq} (h : RqG p r) (hm : mRq r ≤ 1048576) {s : Int} {iv : Value} {ids : List Bs} (hs : I64 s) (hi : Ids p iv ids) (hT : TabP p) : WiA p ⟨s, ids⟩ iv r := by
 unfold mRq at hm
 have h3 := sum_three (m := mAc) (fun a => by unfold mAc; omega) r.acl
 refine ⟨⟨h.kind, h.xid, h.flags, h.ver, by omega, by omega, h.acl, by omega, fun a ha => ⟨h.each a ha, ?_⟩, h.sub, h.arm⟩, hs, hi.1, hi.2.1, hi.2.2, h.ash, hT⟩
 have h1 := sum_mem (m := mAc) ha
 have h2 : mAc a = 3 + a.2.length := rfl
 omega
theorem RqD.wi {p : HP} {r : Rq} {l : List Rq} (h : RqD p r l) {s : Int} {iv : Value} {ids : List Bs} (hs : I64 s) (hi : Ids p iv ids) (hT : TabP p) : WiD p ⟨s, ids⟩ iv r l := by
 have ha : ∀ x : Rq, RqG p x → mRq x ≤ 1048576 → AclW x.acl := fun x hx hm => aclW_of hx.each (by unfold mRq at hm; omega)
 exact ⟨h.own.1.w h.own.2 hs hi hT, ha _ h.own.1 h.own.2, h.rd, fun x hx => (h.each x hx).1.w (h.each x hx).2 hs hi hT, fun x hx => ha _ (h.each x hx).1 (h.each x hx).2⟩
theorem fm_strs (l : List Bs) : (l.flatMap fun s => [vstr s]) = strs l := by
 induction l with
 | nil => rfl
 | cons z l ih => rw [List.flatMap_cons, ih]; rfl
theorem tab_of {W : World} (h : Lib.TabIs Tryz.prog W "internal/strconv.uint64pow10" .u64 Lib.pow10Tab) {g : Nat} (hg : Tryz.prog.globalNamed "internal/strconv.uint64pow10" = some g) : TabP (Old W) := by
 intro hp w hold hle
 unfold Lib.TabIs World.var? at h ⊢
 rw [hg] at h ⊢
 simp only [Option.bind_some] at h ⊢
 cases e : W.heap[g]? with
 | none => rw [e] at h; cases h
 | some o =>
  have hlt : g < W.heap.size := (Array.getElem?_eq_some_iff.1 e).1
  have h2 : w.heap[g]? = some o := hle g o (by rw [hold g hlt, e])
  rw [h2]
  rw [e] at h
  exact h
theorem decAc {H : Type} {enc : TypeId × Value → H} {W : World} (n : Nat) (cs : List Value) (y : DataW H × List MemPlace) (h : Reads enc Tryz.prog W n 85 cs y) : ∃ a : Ac, cs = acC a ∧ I64 a.1 ∧ mAc a ≤ Rows.uptoBulk y.1 := by
 obtain ⟨xs, m, -, rfl, hlen, hxs, hf⟩ := DataW.trod_struct Tryz.underlying85 h
 rw [show Tryz.prog.cellsOf 85 = 2 by kernel_rfl] at hlen
 obtain ⟨a0, a1, rfl⟩ : ∃ a0 a1, cs = [a0, a1] := by
  match cs, hlen with
  | [a0, a1], _ => exact ⟨a0, a1, rfl⟩
 obtain ⟨y0, y1, rfl⟩ : ∃ y0 y1, xs = [y0, y1] := by
  match xs, hxs with
  | [y0, y1], _ => exact ⟨y0, y1, rfl⟩
 try simp only [Rows.uptoBulk, Rows.uptoBulkAll, List.map_cons, List.map_nil]
 have g0 : Reads enc Tryz.prog W m 3 (([a0, a1] : List Value).drop 0 |>.take (Tryz.prog.cellsOf 3)) y0 := hf 0 _ rfl
 rw [show Tryz.prog.cellsOf 3 = 1 by kernel_rfl] at g0
 have p0 := bulk_pos y0.1
 obtain ⟨z0, e0, q0, r0⟩ := dec_intW Tryz.underlying3 g0
 try simp at e0
 have g1 : Reads enc Tryz.prog W m 9 (([a0, a1] : List Value).drop 1 |>.take (Tryz.prog.cellsOf 9)) y1 := hf 1 _ rfl
 rw [show Tryz.prog.cellsOf 9 = 1 by kernel_rfl] at g1
 have p1 := bulk_pos y1.1
 obtain ⟨z1, e1, r1⟩ := dec_strW Tryz.underlying9 g1
 try simp at e1
 subst e0
 subst e1
 exact ⟨(z0, z1), rfl, q0, by unfold mAc; dsimp only; omega⟩
theorem decPt {H : Type} {enc : TypeId × Value → H} {W : World} (n : Nat) (cs : List Value) (y : DataW H × List MemPlace) (h : Reads enc Tryz.prog W n 43 cs y) : ∃ y0 : Pt, cs = ptC y0 ∧ PtG (Old W) y0 ∧ mPt y0 ≤ Rows.uptoBulk y.1 := by
 obtain ⟨xs, m, -, rfl, hlen, hxs, hf⟩ := DataW.trod_struct Tryz.underlying43 h
 rw [show Tryz.prog.cellsOf 43 = 8 by kernel_rfl] at hlen
 obtain ⟨a0, a1, a2, a3, a4, a5, a6, a7, rfl⟩ : ∃ a0 a1 a2 a3 a4 a5 a6 a7, cs = [a0, a1, a2, a3, a4, a5, a6, a7] := by
  match cs, hlen with
  | [a0, a1, a2, a3, a4, a5, a6, a7], _ => exact ⟨a0, a1, a2, a3, a4, a5, a6, a7, rfl⟩
 obtain ⟨y0, y1, y2, y3, y4, y5, y6, y7, rfl⟩ : ∃ y0 y1 y2 y3 y4 y5 y6 y7, xs = [y0, y1, y2, y3, y4, y5, y6, y7] := by
  match xs, hxs with
  | [y0, y1, y2, y3, y4, y5, y6, y7], _ => exact ⟨y0, y1, y2, y3, y4, y5, y6, y7, rfl⟩
 try simp only [Rows.uptoBulk, Rows.uptoBulkAll, List.map_cons, List.map_nil]
 have g0 : Reads enc Tryz.prog W m 3 (([a0, a1, a2, a3, a4, a5, a6, a7] : List Value).drop 0 |>.take (Tryz.prog.cellsOf 3)) y0 := hf 0 _ rfl
 rw [show Tryz.prog.cellsOf 3 = 1 by kernel_rfl] at g0
 have p0 := bulk_pos y0.1
 obtain ⟨z0, e0, q0, r0⟩ := dec_intW Tryz.underlying3 g0
 try simp at e0
 have g1 : Reads enc Tryz.prog W m 9 (([a0, a1, a2, a3, a4, a5, a6, a7] : List Value).drop 1 |>.take (Tryz.prog.cellsOf 9)) y1 := hf 1 _ rfl
 rw [show Tryz.prog.cellsOf 9 = 1 by kernel_rfl] at g1
 have p1 := bulk_pos y1.1
 obtain ⟨z1, e1, r1⟩ := dec_strW Tryz.underlying9 g1
 try simp at e1
 have g2 : Reads enc Tryz.prog W m 9 (([a0, a1, a2, a3, a4, a5, a6, a7] : List Value).drop 2 |>.take (Tryz.prog.cellsOf 9)) y2 := hf 2 _ rfl
 rw [show Tryz.prog.cellsOf 9 = 1 by kernel_rfl] at g2
 have p2 := bulk_pos y2.1
 obtain ⟨z2, e2, r2⟩ := dec_strW Tryz.underlying9 g2
 try simp at e2
 have g3 : Reads enc Tryz.prog W m 24 (([a0, a1, a2, a3, a4, a5, a6, a7] : List Value).drop 3 |>.take (Tryz.prog.cellsOf 24)) y3 := hf 3 _ rfl
 rw [show Tryz.prog.cellsOf 24 = 1 by kernel_rfl] at g3
 have p3 := bulk_pos y3.1
 obtain ⟨⟨v3, l3⟩, e3, k3, q3, c3, r3⟩ := dec_sliceW acC (fun a => I64 a.1) mAc Tryz.underlying24 (show Tryz.prog.cellsOf 85 = 2 by kernel_rfl) (by decide) (fun n cs y h => decAc n cs y h) g3
 dsimp only at e3 k3 q3 c3 r3
 have ck3 : isCell v3 = true := by obtain ⟨sa, sc, hs⟩ := rd_shape k3; rw [hs]; rfl
 try simp at e3
 have g4 : Reads enc Tryz.prog W m 3 (([a0, a1, a2, a3, a4, a5, a6, a7] : List Value).drop 4 |>.take (Tryz.prog.cellsOf 3)) y4 := hf 4 _ rfl
 rw [show Tryz.prog.cellsOf 3 = 1 by kernel_rfl] at g4
 have p4 := bulk_pos y4.1
 obtain ⟨z4, e4, q4, r4⟩ := dec_intW Tryz.underlying3 g4
 try simp at e4
 have g5 : Reads enc Tryz.prog W m 3 (([a0, a1, a2, a3, a4, a5, a6, a7] : List Value).drop 5 |>.take (Tryz.prog.cellsOf 3)) y5 := hf 5 _ rfl
 rw [show Tryz.prog.cellsOf 3 = 1 by kernel_rfl] at g5
 have p5 := bulk_pos y5.1
 obtain ⟨z5, e5, q5, r5⟩ := dec_intW Tryz.underlying3 g5
 try simp at e5
 have g6 : Reads enc Tryz.prog W m 40 (([a0, a1, a2, a3, a4, a5, a6, a7] : List Value).drop 6 |>.take (Tryz.prog.cellsOf 40)) y6 := hf 6 _ rfl
 rw [show Tryz.prog.cellsOf 40 = 1 by kernel_rfl] at g6
 have p6 := bulk_pos y6.1
 obtain ⟨z6, e6, q6, r6⟩ := dec_intW Tryz.underlying40 g6
 try simp at e6
 have g7 : Reads enc Tryz.prog W m 41 (([a0, a1, a2, a3, a4, a5, a6, a7] : List Value).drop 7 |>.take (Tryz.prog.cellsOf 41)) y7 := hf 7 _ rfl
 rw [show Tryz.prog.cellsOf 41 = 1 by kernel_rfl] at g7
 have p7 := bulk_pos y7.1
 obtain ⟨z7, e7, s7⟩ : ∃ z : Value, a7 = z ∧ isCell z = true := ⟨_, rfl, slice_cell Tryz.underlying41 g7⟩
 try simp at e7
 subst e0
 subst e1
 subst e2
 subst e3
 subst e4
 subst e5
 subst e6
 subst e7
 exact ⟨⟨z0, z1, z2, a3, l3, z4, z5, z6, a7⟩, rfl, ⟨q4, q5, q6, k3, ck3, s7, q3⟩, by unfold mPt; dsimp only; omega⟩
theorem decPtD {H : Type} {enc : TypeId × Value → H} {W : World} (n : Nat) (cs : List Value) (y : DataW H × List MemPlace) (h : Reads enc Tryz.prog W n 43 cs y) : ∃ (y0 : Pt) (l : List Pt), cs = ptC y0 ∧ PtG (Old W) y0 ∧ (∀ h : Hp, Old W h → rdS 8 h y0.subsV l.length (l.flatMap ptC)) ∧ (∀ q ∈ l, PtG (Old W) q) ∧ mPt y0 + (l.map mPt).sum ≤ Rows.uptoBulk y.1 := by
 obtain ⟨xs, m, -, rfl, hlen, hxs, hf⟩ := DataW.trod_struct Tryz.underlying43 h
 rw [show Tryz.prog.cellsOf 43 = 8 by kernel_rfl] at hlen
 obtain ⟨a0, a1, a2, a3, a4, a5, a6, a7, rfl⟩ : ∃ a0 a1 a2 a3 a4 a5 a6 a7, cs = [a0, a1, a2, a3, a4, a5, a6, a7] := by
  match cs, hlen with
  | [a0, a1, a2, a3, a4, a5, a6, a7], _ => exact ⟨a0, a1, a2, a3, a4, a5, a6, a7, rfl⟩
 obtain ⟨y0, y1, y2, y3, y4, y5, y6, y7, rfl⟩ : ∃ y0 y1 y2 y3 y4 y5 y6 y7, xs = [y0, y1, y2, y3, y4, y5, y6, y7] := by
  match xs, hxs with
  | [y0, y1, y2, y3, y4, y5, y6, y7], _ => exact ⟨y0, y1, y2, y3, y4, y5, y6, y7, rfl⟩
 try simp only [Rows.uptoBulk, Rows.uptoBulkAll, List.map_cons, List.map_nil]
 have g0 : Reads enc Tryz.prog W m 3 (([a0, a1, a2, a3, a4, a5, a6, a7] : List Value).drop 0 |>.take (Tryz.prog.cellsOf 3)) y0 := hf 0 _ rfl
 rw [show Tryz.prog.cellsOf 3 = 1 by kernel_rfl] at g0
 have p0 := bulk_pos y0.1
 obtain ⟨z0, e0, q0, r0⟩ := dec_intW Tryz.underlying3 g0
 try simp at e0
 have g1 : Reads enc Tryz.prog W m 9 (([a0, a1, a2, a3, a4, a5, a6, a7] : List Value).drop 1 |>.take (Tryz.prog.cellsOf 9)) y1 := hf 1 _ rfl
 rw [show Tryz.prog.cellsOf 9 = 1 by kernel_rfl] at g1
 have p1 := bulk_pos y1.1
 obtain ⟨z1, e1, r1⟩ := dec_strW Tryz.underlying9 g1
 try simp at e1
 have g2 : Reads enc Tryz.prog W m 9 (([a0, a1, a2, a3, a4, a5, a6, a7] : List Value).drop 2 |>.take (Tryz.prog.cellsOf 9)) y2 := hf 2 _ rfl
 rw [show Tryz.prog.cellsOf 9 = 1 by kernel_rfl] at g2
 have p2 := bulk_pos y2.1
 obtain ⟨z2, e2, r2⟩ := dec_strW Tryz.underlying9 g2
 try simp at e2
 have g3 : Reads enc Tryz.prog W m 24 (([a0, a1, a2, a3, a4, a5, a6, a7] : List Value).drop 3 |>.take (Tryz.prog.cellsOf 24)) y3 := hf 3 _ rfl
 rw [show Tryz.prog.cellsOf 24 = 1 by kernel_rfl] at g3
 have p3 := bulk_pos y3.1
 obtain ⟨⟨v3, l3⟩, e3, k3, q3, c3, r3⟩ := dec_sliceW acC (fun a => I64 a.1) mAc Tryz.underlying24 (show Tryz.prog.cellsOf 85 = 2 by kernel_rfl) (by decide) (fun n cs y h => decAc n cs y h) g3
 dsimp only at e3 k3 q3 c3 r3
 have ck3 : isCell v3 = true := by obtain ⟨sa, sc, hs⟩ := rd_shape k3; rw [hs]; rfl
 try simp at e3
 have g4 : Reads enc Tryz.prog W m 3 (([a0, a1, a2, a3, a4, a5, a6, a7] : List Value).drop 4 |>.take (Tryz.prog.cellsOf 3)) y4 := hf 4 _ rfl
 rw [show Tryz.prog.cellsOf 3 = 1 by kernel_rfl] at g4
 have p4 := bulk_pos y4.1
 obtain ⟨z4, e4, q4, r4⟩ := dec_intW Tryz.underlying3 g4
 try simp at e4
 have g5 : Reads enc Tryz.prog W m 3 (([a0, a1, a2, a3, a4, a5, a6, a7] : List Value).drop 5 |>.take (Tryz.prog.cellsOf 3)) y5 := hf 5 _ rfl
 rw [show Tryz.prog.cellsOf 3 = 1 by kernel_rfl] at g5
 have p5 := bulk_pos y5.1
 obtain ⟨z5, e5, q5, r5⟩ := dec_intW Tryz.underlying3 g5
 try simp at e5
 have g6 : Reads enc Tryz.prog W m 40 (([a0, a1, a2, a3, a4, a5, a6, a7] : List Value).drop 6 |>.take (Tryz.prog.cellsOf 40)) y6 := hf 6 _ rfl
 rw [show Tryz.prog.cellsOf 40 = 1 by kernel_rfl] at g6
 have p6 := bulk_pos y6.1
 obtain ⟨z6, e6, q6, r6⟩ := dec_intW Tryz.underlying40 g6
 try simp at e6
 have g7 : Reads enc Tryz.prog W m 41 (([a0, a1, a2, a3, a4, a5, a6, a7] : List Value).drop 7 |>.take (Tryz.prog.cellsOf 41)) y7 := hf 7 _ rfl
 rw [show Tryz.prog.cellsOf 41 = 1 by kernel_rfl] at g7
 have p7 := bulk_pos y7.1
 obtain ⟨⟨v7, l7⟩, e7, k7, q7, c7, r7⟩ := dec_sliceW ptC (fun q => PtG (Old W) q) mPt Tryz.underlying41 (show Tryz.prog.cellsOf 43 = 8 by kernel_rfl) (by decide) (fun n cs y h => decPt n cs y h) g7
 dsimp only at e7 k7 q7 c7 r7
 have ck7 : isCell v7 = true := by obtain ⟨sa, sc, hs⟩ := rd_shape k7; rw [hs]; rfl
 try simp at e7
 subst e0
 subst e1
 subst e2
 subst e3
 subst e4
 subst e5
 subst e6
 subst e7
 exact ⟨⟨z0, z1, z2, a3, l3, z4, z5, z6, a7⟩, l7, rfl, ⟨q4, q5, q6, k3, ck3, ck7, q3⟩, k7, q7, by unfold mPt; dsimp only; unfold mPt at r7; omega⟩
theorem decEn {H : Type} {enc : TypeId × Value → H} {W : World} (n : Nat) (cs : List Value) (y : DataW H × List MemPlace) (h : Reads enc Tryz.prog W n 54 cs y) : ∃ e : En, cs = enC e ∧ EnG (Old W) e ∧ mEn e ≤ Rows.uptoBulk y.1 := by
 obtain ⟨xs, m, -, rfl, hlen, hxs, hf⟩ := DataW.trod_struct Tryz.underlying54 h
 rw [show Tryz.prog.cellsOf 54 = 11 by kernel_rfl] at hlen
 obtain ⟨a0, a1, a2, a3, a4, a5, a6, a7, a8, a9, a10, rfl⟩ : ∃ a0 a1 a2 a3 a4 a5 a6 a7 a8 a9 a10, cs = [a0, a1, a2, a3, a4, a5, a6, a7, a8, a9, a10] := by
  match cs, hlen with
  | [a0, a1, a2, a3, a4, a5, a6, a7, a8, a9, a10], _ => exact ⟨a0, a1, a2, a3, a4, a5, a6, a7, a8, a9, a10, rfl⟩
 obtain ⟨y0, y1, y2, y3, rfl⟩ : ∃ y0 y1 y2 y3, xs = [y0, y1, y2, y3] := by
  match xs, hxs with
  | [y0, y1, y2, y3], _ => exact ⟨y0, y1, y2, y3, rfl⟩
 try simp only [Rows.uptoBulk, Rows.uptoBulkAll, List.map_cons, List.map_nil]
 have g0 : Reads enc Tryz.prog W m 3 (([a0, a1, a2, a3, a4, a5, a6, a7, a8, a9, a10] : List Value).drop 0 |>.take (Tryz.prog.cellsOf 3)) y0 := hf 0 _ rfl
 rw [show Tryz.prog.cellsOf 3 = 1 by kernel_rfl] at g0
 have p0 := bulk_pos y0.1
 obtain ⟨z0, e0, q0, r0⟩ := dec_intW Tryz.underlying3 g0
 try simp at e0
 have g1 : Reads enc Tryz.prog W m 3 (([a0, a1, a2, a3, a4, a5, a6, a7, a8, a9, a10] : List Value).drop 1 |>.take (Tryz.prog.cellsOf 3)) y1 := hf 1 _ rfl
 rw [show Tryz.prog.cellsOf 3 = 1 by kernel_rfl] at g1
 have p1 := bulk_pos y1.1
 obtain ⟨z1, e1, q1, r1⟩ := dec_intW Tryz.underlying3 g1
 try simp at e1
 have g2 : Reads enc Tryz.prog W m 3 (([a0, a1, a2, a3, a4, a5, a6, a7, a8, a9, a10] : List Value).drop 2 |>.take (Tryz.prog.cellsOf 3)) y2 := hf 2 _ rfl
 rw [show Tryz.prog.cellsOf 3 = 1 by kernel_rfl] at g2
 have p2 := bulk_pos y2.1
 obtain ⟨z2, e2, q2, r2⟩ := dec_intW Tryz.underlying3 g2
 try simp at e2
 have g3 : Reads enc Tryz.prog W m 43 (([a0, a1, a2, a3, a4, a5, a6, a7, a8, a9, a10] : List Value).drop 3 |>.take (Tryz.prog.cellsOf 43)) y3 := hf 3 _ rfl
 rw [show Tryz.prog.cellsOf 43 = 8 by kernel_rfl] at g3
 have p3 := bulk_pos y3.1
 obtain ⟨z3, l3, e3, q3, k3, s3, r3⟩ := decPtD _ _ _ g3
 try simp [ptC, enC] at e3
 subst e0
 subst e1
 subst e2
 obtain ⟨rfl, rfl, rfl, rfl, rfl, rfl, rfl, rfl⟩ := e3
 exact ⟨⟨z0, z1, z2, z3, l3⟩, rfl, ⟨q0, q2, q3, k3, s3⟩, by unfold mEn; dsimp only; omega⟩
theorem decRq {H : Type} {enc : TypeId × Value → H} {W : World} (n : Nat) (cs : List Value) (y : DataW H × List MemPlace) (h : Reads enc Tryz.prog W n 28 cs y) : ∃ r0 : Rq, cs = rqC r0 ∧ RqG (Old W) r0 ∧ mRq r0 ≤ Rows.uptoBulk y.1 := by
 obtain ⟨xs, m, -, rfl, hlen, hxs, hf⟩ := DataW.trod_struct Tryz.underlying28 h
 rw [show Tryz.prog.cellsOf 28 = 10 by kernel_rfl] at hlen
 obtain ⟨a0, a1, a2, a3, a4, a5, a6, a7, a8, a9, rfl⟩ : ∃ a0 a1 a2 a3 a4 a5 a6 a7 a8 a9, cs = [a0, a1, a2, a3, a4, a5, a6, a7, a8, a9] := by
  match cs, hlen with
  | [a0, a1, a2, a3, a4, a5, a6, a7, a8, a9], _ => exact ⟨a0, a1, a2, a3, a4, a5, a6, a7, a8, a9, rfl⟩
 obtain ⟨y0, y1, y2, y3, y4, y5, y6, y7, y8, y9, rfl⟩ : ∃ y0 y1 y2 y3 y4 y5 y6 y7 y8 y9, xs = [y0, y1, y2, y3, y4, y5, y6, y7, y8, y9] := by
  match xs, hxs with
  | [y0, y1, y2, y3, y4, y5, y6, y7, y8, y9], _ => exact ⟨y0, y1, y2, y3, y4, y5, y6, y7, y8, y9, rfl⟩
 try simp only [Rows.uptoBulk, Rows.uptoBulkAll, List.map_cons, List.map_nil]
 have g0 : Reads enc Tryz.prog W m 3 (([a0, a1, a2, a3, a4, a5, a6, a7, a8, a9] : List Value).drop 0 |>.take (Tryz.prog.cellsOf 3)) y0 := hf 0 _ rfl
 rw [show Tryz.prog.cellsOf 3 = 1 by kernel_rfl] at g0
 have p0 := bulk_pos y0.1
 obtain ⟨z0, e0, q0, r0⟩ := dec_intW Tryz.underlying3 g0
 try simp at e0
 have g1 : Reads enc Tryz.prog W m 3 (([a0, a1, a2, a3, a4, a5, a6, a7, a8, a9] : List Value).drop 1 |>.take (Tryz.prog.cellsOf 3)) y1 := hf 1 _ rfl
 rw [show Tryz.prog.cellsOf 3 = 1 by kernel_rfl] at g1
 have p1 := bulk_pos y1.1
 obtain ⟨z1, e1, q1, r1⟩ := dec_intW Tryz.underlying3 g1
 try simp at e1
 have g2 : Reads enc Tryz.prog W m 9 (([a0, a1, a2, a3, a4, a5, a6, a7, a8, a9] : List Value).drop 2 |>.take (Tryz.prog.cellsOf 9)) y2 := hf 2 _ rfl
 rw [show Tryz.prog.cellsOf 9 = 1 by kernel_rfl] at g2
 have p2 := bulk_pos y2.1
 obtain ⟨z2, e2, r2⟩ := dec_strW Tryz.underlying9 g2
 try simp at e2
 have g3 : Reads enc Tryz.prog W m 9 (([a0, a1, a2, a3, a4, a5, a6, a7, a8, a9] : List Value).drop 3 |>.take (Tryz.prog.cellsOf 9)) y3 := hf 3 _ rfl
 rw [show Tryz.prog.cellsOf 9 = 1 by kernel_rfl] at g3
 have p3 := bulk_pos y3.1
 obtain ⟨z3, e3, r3⟩ := dec_strW Tryz.underlying9 g3
 try simp at e3
 have g4 : Reads enc Tryz.prog W m 24 (([a0, a1, a2, a3, a4, a5, a6, a7, a8, a9] : List Value).drop 4 |>.take (Tryz.prog.cellsOf 24)) y4 := hf 4 _ rfl
 rw [show Tryz.prog.cellsOf 24 = 1 by kernel_rfl] at g4
 have p4 := bulk_pos y4.1
 obtain ⟨⟨v4, l4⟩, e4, k4, q4, c4, r4⟩ := dec_sliceW acC (fun a => I64 a.1) mAc Tryz.underlying24 (show Tryz.prog.cellsOf 85 = 2 by kernel_rfl) (by decide) (fun n cs y h => decAc n cs y h) g4
 dsimp only at e4 k4 q4 c4 r4
 have ck4 : isCell v4 = true := by obtain ⟨sa, sc, hs⟩ := rd_shape k4; rw [hs]; rfl
 have sh4 : ∃ a n c, v4 = .slice a n c := by obtain ⟨sa, sc, hs⟩ := rd_shape k4; exact ⟨_, _, _, hs⟩
 try simp at e4
 have g5 : Reads enc Tryz.prog W m 3 (([a0, a1, a2, a3, a4, a5, a6, a7, a8, a9] : List Value).drop 5 |>.take (Tryz.prog.cellsOf 3)) y5 := hf 5 _ rfl
 rw [show Tryz.prog.cellsOf 3 = 1 by kernel_rfl] at g5
 have p5 := bulk_pos y5.1
 obtain ⟨z5, e5, q5, r5⟩ := dec_intW Tryz.underlying3 g5
 try simp at e5
 have g6 : Reads enc Tryz.prog W m 3 (([a0, a1, a2, a3, a4, a5, a6, a7, a8, a9] : List Value).drop 6 |>.take (Tryz.prog.cellsOf 3)) y6 := hf 6 _ rfl
 rw [show Tryz.prog.cellsOf 3 = 1 by kernel_rfl] at g6
 have p6 := bulk_pos y6.1
 obtain ⟨z6, e6, q6, r6⟩ := dec_intW Tryz.underlying3 g6
 try simp at e6
 have g7 : Reads enc Tryz.prog W m 4 (([a0, a1, a2, a3, a4, a5, a6, a7, a8, a9] : List Value).drop 7 |>.take (Tryz.prog.cellsOf 4)) y7 := hf 7 _ rfl
 rw [show Tryz.prog.cellsOf 4 = 1 by kernel_rfl] at g7
 have p7 := bulk_pos y7.1
 obtain ⟨z7, e7⟩ := dec_bool Tryz.underlying4 g7
 try simp at e7
 have g8 : Reads enc Tryz.prog W m 25 (([a0, a1, a2, a3, a4, a5, a6, a7, a8, a9] : List Value).drop 8 |>.take (Tryz.prog.cellsOf 25)) y8 := hf 8 _ rfl
 rw [show Tryz.prog.cellsOf 25 = 1 by kernel_rfl] at g8
 have p8 := bulk_pos y8.1
 obtain ⟨z8, e8, s8⟩ : ∃ z : Value, a8 = z ∧ ∃ a n c, z = .slice a n c := ⟨_, rfl, slice_shape Tryz.underlying25 g8⟩
 have ck8 : isCell z8 = true := by obtain ⟨sa, sn, sc, hs⟩ := s8; rw [hs]; rfl
 try simp at e8
 have g9 : Reads enc Tryz.prog W m 26 (([a0, a1, a2, a3, a4, a5, a6, a7, a8, a9] : List Value).drop 9 |>.take (Tryz.prog.cellsOf 26)) y9 := hf 9 _ rfl
 rw [show Tryz.prog.cellsOf 26 = 1 by kernel_rfl] at g9
 have p9 := bulk_pos y9.1
 obtain ⟨z9, e9, s9⟩ : ∃ z : Value, a9 = z ∧ ∃ a n c, z = .slice a n c := ⟨_, rfl, slice_shape Tryz.underlying26 g9⟩
 have ck9 : isCell z9 = true := by obtain ⟨sa, sn, sc, hs⟩ := s9; rw [hs]; rfl
 try simp at e9
 subst e0
 subst e1
 subst e2
 subst e3
 subst e4
 subst e5
 subst e6
 subst e7
 subst e8
 subst e9
 exact ⟨⟨z0, z1, z2, z3, a4, l4, z5, z6, z7, a8, a9⟩, rfl, ⟨q0, q1, q5, q6, k4, sh4, q4, s8, s9⟩, by unfold mRq; dsimp only; omega⟩
theorem decRqD {H : Type} {enc : TypeId × Value → H} {W : World} (n : Nat) (cs : List Value) (y : DataW H × List MemPlace) (h : Reads enc Tryz.prog W n 28 cs y) : ∃ (r0 : Rq) (l : List Rq), cs = rqC r0 ∧ (Rows.uptoBulk y.1 ≤ 1048576 → RqD (Old W) r0 l) := by
 obtain ⟨xs, m, -, rfl, hlen, hxs, hf⟩ := DataW.trod_struct Tryz.underlying28 h
 rw [show Tryz.prog.cellsOf 28 = 10 by kernel_rfl] at hlen
 obtain ⟨a0, a1, a2, a3, a4, a5, a6, a7, a8, a9, rfl⟩ : ∃ a0 a1 a2 a3 a4 a5 a6 a7 a8 a9, cs = [a0, a1, a2, a3, a4, a5, a6, a7, a8, a9] := by
  match cs, hlen with
  | [a0, a1, a2, a3, a4, a5, a6, a7, a8, a9], _ => exact ⟨a0, a1, a2, a3, a4, a5, a6, a7, a8, a9, rfl⟩
 obtain ⟨y0, y1, y2, y3, y4, y5, y6, y7, y8, y9, rfl⟩ : ∃ y0 y1 y2 y3 y4 y5 y6 y7 y8 y9, xs = [y0, y1, y2, y3, y4, y5, y6, y7, y8, y9] := by
  match xs, hxs with
  | [y0, y1, y2, y3, y4, y5, y6, y7, y8, y9], _ => exact ⟨y0, y1, y2, y3, y4, y5, y6, y7, y8, y9, rfl⟩
 try simp only [Rows.uptoBulk, Rows.uptoBulkAll, List.map_cons, List.map_nil]
 have g0 : Reads enc Tryz.prog W m 3 (([a0, a1, a2, a3, a4, a5, a6, a7, a8, a9] : List Value).drop 0 |>.take (Tryz.prog.cellsOf 3)) y0 := hf 0 _ rfl
 rw [show Tryz.prog.cellsOf 3 = 1 by kernel_rfl] at g0
 have p0 := bulk_pos y0.1
 obtain ⟨z0, e0, q0, r0⟩ := dec_intW Tryz.underlying3 g0
 try simp at e0
 have g1 : Reads enc Tryz.prog W m 3 (([a0, a1, a2, a3, a4, a5, a6, a7, a8, a9] : List Value).drop 1 |>.take (Tryz.prog.cellsOf 3)) y1 := hf 1 _ rfl
 rw [show Tryz.prog.cellsOf 3 = 1 by kernel_rfl] at g1
 have p1 := bulk_pos y1.1
 obtain ⟨z1, e1, q1, r1⟩ := dec_intW Tryz.underlying3 g1
 try simp at e1
 have g2 : Reads enc Tryz.prog W m 9 (([a0, a1, a2, a3, a4, a5, a6, a7, a8, a9] : List Value).drop 2 |>.take (Tryz.prog.cellsOf 9)) y2 := hf 2 _ rfl
 rw [show Tryz.prog.cellsOf 9 = 1 by kernel_rfl] at g2
 have p2 := bulk_pos y2.1
 obtain ⟨z2, e2, r2⟩ := dec_strW Tryz.underlying9 g2
 try simp at e2
 have g3 : Reads enc Tryz.prog W m 9 (([a0, a1, a2, a3, a4, a5, a6, a7, a8, a9] : List Value).drop 3 |>.take (Tryz.prog.cellsOf 9)) y3 := hf 3 _ rfl
 rw [show Tryz.prog.cellsOf 9 = 1 by kernel_rfl] at g3
 have p3 := bulk_pos y3.1
 obtain ⟨z3, e3, r3⟩ := dec_strW Tryz.underlying9 g3
 try simp at e3
 have g4 : Reads enc Tryz.prog W m 24 (([a0, a1, a2, a3, a4, a5, a6, a7, a8, a9] : List Value).drop 4 |>.take (Tryz.prog.cellsOf 24)) y4 := hf 4 _ rfl
 rw [show Tryz.prog.cellsOf 24 = 1 by kernel_rfl] at g4
 have p4 := bulk_pos y4.1
 obtain ⟨⟨v4, l4⟩, e4, k4, q4, c4, r4⟩ := dec_sliceW acC (fun a => I64 a.1) mAc Tryz.underlying24 (show Tryz.prog.cellsOf 85 = 2 by kernel_rfl) (by decide) (fun n cs y h => decAc n cs y h) g4
 dsimp only at e4 k4 q4 c4 r4
 have ck4 : isCell v4 = true := by obtain ⟨sa, sc, hs⟩ := rd_shape k4; rw [hs]; rfl
 have sh4 : ∃ a n c, v4 = .slice a n c := by obtain ⟨sa, sc, hs⟩ := rd_shape k4; exact ⟨_, _, _, hs⟩
 try simp at e4
 have g5 : Reads enc Tryz.prog W m 3 (([a0, a1, a2, a3, a4, a5, a6, a7, a8, a9] : List Value).drop 5 |>.take (Tryz.prog.cellsOf 3)) y5 := hf 5 _ rfl
 rw [show Tryz.prog.cellsOf 3 = 1 by kernel_rfl] at g5
 have p5 := bulk_pos y5.1
 obtain ⟨z5, e5, q5, r5⟩ := dec_intW Tryz.underlying3 g5
 try simp at e5
 have g6 : Reads enc Tryz.prog W m 3 (([a0, a1, a2, a3, a4, a5, a6, a7, a8, a9] : List Value).drop 6 |>.take (Tryz.prog.cellsOf 3)) y6 := hf 6 _ rfl
 rw [show Tryz.prog.cellsOf 3 = 1 by kernel_rfl] at g6
 have p6 := bulk_pos y6.1
 obtain ⟨z6, e6, q6, r6⟩ := dec_intW Tryz.underlying3 g6
 try simp at e6
 have g7 : Reads enc Tryz.prog W m 4 (([a0, a1, a2, a3, a4, a5, a6, a7, a8, a9] : List Value).drop 7 |>.take (Tryz.prog.cellsOf 4)) y7 := hf 7 _ rfl
 rw [show Tryz.prog.cellsOf 4 = 1 by kernel_rfl] at g7
 have p7 := bulk_pos y7.1
 obtain ⟨z7, e7⟩ := dec_bool Tryz.underlying4 g7
 try simp at e7
 have g8 : Reads enc Tryz.prog W m 25 (([a0, a1, a2, a3, a4, a5, a6, a7, a8, a9] : List Value).drop 8 |>.take (Tryz.prog.cellsOf 25)) y8 := hf 8 _ rfl
 rw [show Tryz.prog.cellsOf 25 = 1 by kernel_rfl] at g8
 have p8 := bulk_pos y8.1
 obtain ⟨⟨v8, l8⟩, e8, k8, q8, c8, r8⟩ := dec_sliceW rqC (fun r => RqG (Old W) r) mRq Tryz.underlying25 (show Tryz.prog.cellsOf 28 = 10 by kernel_rfl) (by decide) (fun n cs y h => decRq n cs y h) g8
 dsimp only at e8 k8 q8 c8 r8
 have ck8 : isCell v8 = true := by obtain ⟨sa, sc, hs⟩ := rd_shape k8; rw [hs]; rfl
 have sh8 : ∃ a n c, v8 = .slice a n c := by obtain ⟨sa, sc, hs⟩ := rd_shape k8; exact ⟨_, _, _, hs⟩
 try simp at e8
 have g9 : Reads enc Tryz.prog W m 26 (([a0, a1, a2, a3, a4, a5, a6, a7, a8, a9] : List Value).drop 9 |>.take (Tryz.prog.cellsOf 26)) y9 := hf 9 _ rfl
 rw [show Tryz.prog.cellsOf 26 = 1 by kernel_rfl] at g9
 have p9 := bulk_pos y9.1
 obtain ⟨z9, e9, s9⟩ : ∃ z : Value, a9 = z ∧ ∃ a n c, z = .slice a n c := ⟨_, rfl, slice_shape Tryz.underlying26 g9⟩
 have ck9 : isCell z9 = true := by obtain ⟨sa, sn, sc, hs⟩ := s9; rw [hs]; rfl
 try simp at e9
 subst e0
 subst e1
 subst e2
 subst e3
 subst e4
 subst e5
 subst e6
 subst e7
 subst e8
 subst e9
 refine ⟨⟨z0, z1, z2, z3, a4, l4, z5, z6, z7, a8, a9⟩, l8, rfl, fun hb => ⟨⟨⟨q0, q1, q5, q6, k4, sh4, q4, sh8, s9⟩, by unfold mRq; dsimp only; omega⟩, k8, fun x hx => ⟨q8 x hx, ?_⟩⟩⟩
 have h6 := sum_mem (m := mRq) hx
 omega
theorem dec_ents12 {H : Type} {enc : TypeId × Value → H} {W : World} {fuel : Nat} {cs : List Value} {x : DataW H × List MemPlace} (h : Reads enc Tryz.prog W fuel 22 cs x) (hb : Rows.uptoBulk x.1 ≤ 1048576) : ∃ (v : Value) (l : List En), cs = [v] ∧ EntsA (Old W) v l ∧ (∀ e ∈ l, EnN e) ∧ wtL l ≤ 500000 := by
 obtain ⟨⟨v, l⟩, h1, h2, h3, h4, h5⟩ := dec_sliceW enC (fun e => EnG (Old W) e) mEn Tryz.underlying22 (show Tryz.prog.cellsOf 54 = 11 by kernel_rfl) (by decide) (fun n cs y h => decEn n cs y h) h
 dsimp only at h1 h2 h3 h4 h5
 have hw := wtL_le l
 have hm : ∀ e ∈ l, mEn e ≤ 1048576 := fun e he => by
  have h6 := sum_mem (m := mEn) he
  omega
 exact ⟨v, l, h1, ⟨h2, by omega, fun e he => (h3 e he).T (hm e he), fun e he => (h3 e he).x.own.2, by omega⟩, fun e he => (h3 e he).N (hm e he), by omega⟩
theorem dec_ids12 {H : Type} {enc : TypeId × Value → H} {W : World} {fuel : Nat} {cs : List Value} {x : DataW H × List MemPlace} (h : Reads enc Tryz.prog W fuel 23 cs x) (hb : Rows.uptoBulk x.1 ≤ 1048576) : ∃ (v : Value) (l : List Bs), cs = [v] ∧ Ids (Old W) v l ∧ l.length ≤ Rows.uptoBulk x.1 := by
 obtain ⟨⟨v, l⟩, h1, h2, h3, h4, h5⟩ := dec_sliceW (fun s : Bs => [vstr s]) (fun _ => True) (fun s => s.length + 1) Tryz.underlying23 (show Tryz.prog.cellsOf 9 = 1 by kernel_rfl) (by decide) (fun n cs y h => by obtain ⟨s, e, hs⟩ := dec_strW Tryz.underlying9 h; exact ⟨s, e, trivial, hs⟩) h
 dsimp only at h1 h2 h3 h4 h5
 refine ⟨v, l, h1, ⟨fun h hp => by rw [← fm_strs]; exact h2 h hp, by omega, ?_⟩, by omega⟩
 rw [h1] at h
 exact slice_shape Tryz.underlying23 h
end Go.Proofs.YtkjlihfalfbmjaaGreatDoor
