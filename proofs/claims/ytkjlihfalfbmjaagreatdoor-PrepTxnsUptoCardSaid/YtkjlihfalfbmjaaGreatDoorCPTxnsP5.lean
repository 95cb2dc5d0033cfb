/- Own work, in part by program, for prepTxns.proved. -/
import Derived.Test.YtkjlihfalfbmjaaGreatDoorCPTxnsP4
import Derived.Test.YtkjlihfalfbmjaaGreatDoorCPTxnsP3
import Derived.Test.YtkjlihfalfbmjaaGreatDoorCPTxnsP2
import Derived.Test.YtkjlihfalfbmjaaGreatDoorCPTxnsP1
import Derived.Test.YtkjlihfalfbmjaaGreatDoorCPTxnsP0
import Derived.Test.YtkjlihfalfbmjaaGreatDoorRows
import Derived.WalkKit
import Derived.ProofKit
import Derived.OpenShut
import Derived.JoinedCond
import Derived.Carry
import Derived.Deep.Grids
import Derived.Handed
import Derived.Deep.Strs
set_option maxRecDepth 100000
namespace Go.Proofs.YtkjlihfalfbmjaaGreatDoor
open Go
theorem changes_iff {k : Int} : changesK k = true ↔ k = 1 ∨ k = 2 ∨ k = 3 ∨ k = 4 ∨ k = 6 ∨ k = 7 ∨ k = 8 := by
 unfold changesK
 simp only [Bool.and_eq_true, decide_eq_true_eq, Bool.not_eq_true', decide_eq_false_iff_not]
 omega
theorem r12changes_spec (k : Int) : Fn Tryz.prog 22 #[vint k] [] fun v L => v = .bool (changesK k) ∧ L = [] := by
 refine Fn.intro Tryz.func22 rfl rfl fun F W => ?_
 refine .sr (.an rfl (.seq (.sm rfl (.nt (.block (.seq (.sr (.ui rfl rfl rfl (.an rfl (.condD rfl (fun h4 => ?_) (fun h4 => ?_)))))))))))
 ·refine .sk (.condD rfl (fun h4 => ?_) (fun h4 => ?_))
  ·refine .sr (.an rfl (.ret (.blk_r (.then_r ?_))))
   exact .dn rfl rfl ⟨by first | (exfalso; omega; done) | (rw [changes_iff.2 (by omega)]; done) | (rw [show changesK k = false from Bool.eq_false_iff.2 (fun g => by have := changes_iff.1 g; omega)]; done), rfl⟩
  refine .skip (.blk_n (.then_n (.sr (.an rfl (.ret ?_)))))
  exact .dn rfl rfl ⟨by first | (exfalso; omega; done) | (rw [changes_iff.2 (by omega)]; done) | (rw [show changesK k = false from Bool.eq_false_iff.2 (fun g => by have := changes_iff.1 g; omega)]; done), rfl⟩
 refine .sr (.ui rfl rfl rfl (.an rfl (.condD rfl (fun h4 => ?_) (fun h4 => ?_))))
 ·refine .sk (.condD rfl (fun h4 => ?_) (fun h4 => ?_))
  ·refine .sr (.an rfl (.ret (.blk_r (.then_r ?_))))
   exact .dn rfl rfl ⟨by first | (exfalso; omega; done) | (rw [changes_iff.2 (by omega)]; done) | (rw [show changesK k = false from Bool.eq_false_iff.2 (fun g => by have := changes_iff.1 g; omega)]; done), rfl⟩
  refine .skip (.blk_n (.then_n (.sr (.an rfl (.ret ?_)))))
  exact .dn rfl rfl ⟨by first | (exfalso; omega; done) | (rw [changes_iff.2 (by omega)]; done) | (rw [show changesK k = false from Bool.eq_false_iff.2 (fun g => by have := changes_iff.1 g; omega)]; done), rfl⟩
 refine .sr (.ui rfl rfl rfl (.an rfl (.condD rfl (fun h4 => ?_) (fun h4 => ?_))))
 ·refine .sk (.condD rfl (fun h4 => ?_) (fun h4 => ?_))
  ·refine .sr (.an rfl (.ret (.blk_r (.then_r ?_))))
   exact .dn rfl rfl ⟨by first | (exfalso; omega; done) | (rw [changes_iff.2 (by omega)]; done) | (rw [show changesK k = false from Bool.eq_false_iff.2 (fun g => by have := changes_iff.1 g; omega)]; done), rfl⟩
  refine .skip (.blk_n (.then_n (.sr (.an rfl (.ret ?_)))))
  exact .dn rfl rfl ⟨by first | (exfalso; omega; done) | (rw [changes_iff.2 (by omega)]; done) | (rw [show changesK k = false from Bool.eq_false_iff.2 (fun g => by have := changes_iff.1 g; omega)]; done), rfl⟩
 refine .sr (.ui rfl rfl rfl (.an rfl (.condD rfl (fun h4 => ?_) (fun h4 => ?_))))
 ·refine .sk (.condD rfl (fun h4 => ?_) (fun h4 => ?_))
  ·refine .sr (.an rfl (.ret (.blk_r (.then_r ?_))))
   exact .dn rfl rfl ⟨by first | (exfalso; omega; done) | (rw [changes_iff.2 (by omega)]; done) | (rw [show changesK k = false from Bool.eq_false_iff.2 (fun g => by have := changes_iff.1 g; omega)]; done), rfl⟩
  refine .skip (.blk_n (.then_n (.sr (.an rfl (.ret ?_)))))
  exact .dn rfl rfl ⟨by first | (exfalso; omega; done) | (rw [changes_iff.2 (by omega)]; done) | (rw [show changesK k = false from Bool.eq_false_iff.2 (fun g => by have := changes_iff.1 g; omega)]; done), rfl⟩
 refine .sr (.ui rfl rfl rfl (.an rfl (.condD rfl (fun h4 => ?_) (fun h4 => ?_))))
 ·refine .sk (.condD rfl (fun h4 => ?_) (fun h4 => ?_))
  ·refine .sr (.an rfl (.ret (.blk_r (.then_r ?_))))
   exact .dn rfl rfl ⟨by first | (exfalso; omega; done) | (rw [changes_iff.2 (by omega)]; done) | (rw [show changesK k = false from Bool.eq_false_iff.2 (fun g => by have := changes_iff.1 g; omega)]; done), rfl⟩
  refine .skip (.blk_n (.then_n (.sr (.an rfl (.ret ?_)))))
  exact .dn rfl rfl ⟨by first | (exfalso; omega; done) | (rw [changes_iff.2 (by omega)]; done) | (rw [show changesK k = false from Bool.eq_false_iff.2 (fun g => by have := changes_iff.1 g; omega)]; done), rfl⟩
 refine .sr (.ui rfl rfl rfl (.an rfl (.condD rfl (fun h4 => ?_) (fun h4 => ?_))))
 ·refine .sk (.condD rfl (fun h4 => ?_) (fun h4 => ?_))
  ·refine .sr (.an rfl (.ret (.blk_r (.then_r ?_))))
   exact .dn rfl rfl ⟨by first | (exfalso; omega; done) | (rw [changes_iff.2 (by omega)]; done) | (rw [show changesK k = false from Bool.eq_false_iff.2 (fun g => by have := changes_iff.1 g; omega)]; done), rfl⟩
  refine .skip (.blk_n (.then_n (.sr (.an rfl (.ret ?_)))))
  exact .dn rfl rfl ⟨by first | (exfalso; omega; done) | (rw [changes_iff.2 (by omega)]; done) | (rw [show changesK k = false from Bool.eq_false_iff.2 (fun g => by have := changes_iff.1 g; omega)]; done), rfl⟩
 refine .region (.ui rfl rfl rfl (.an rfl (.condD rfl (fun h4 => ?_) (fun h4 => ?_))))
 ·refine .sr (.an rfl (.ret (.blk_r (.then_r ?_))))
  exact .dn rfl rfl ⟨by first | (exfalso; omega; done) | (rw [changes_iff.2 (by omega)]; done) | (rw [show changesK k = false from Bool.eq_false_iff.2 (fun g => by have := changes_iff.1 g; omega)]; done), rfl⟩
 refine .skip (.blk_n (.then_n (.sr (.an rfl (.ret ?_)))))
 exact .dn rfl rfl ⟨by first | (exfalso; omega; done) | (rw [changes_iff.2 (by omega)]; done) | (rw [show changesK k = false from Bool.eq_false_iff.2 (fun g => by have := changes_iff.1 g; omega)]; done), rfl⟩
theorem r12txn_spec (x : Nat) (τ : Tr) (u : Who) (iv : Value) (r : Rq) (p : HP) (hA : WiA p u iv r) (N : Nat) (ho : τ.Ok N) (hN : N ≤ 1073741824) (hw : TrW τ) (hN2 : N + 16 ≤ 1073741824) (hN3 : N + N + 1 ≤ 1073741824) (subs : List Rq) (hr : ∀ h : Hp, p h → rdS 10 h r.subsV subs.length (subs.flatMap rqC)) (hS : ∀ x ∈ subs, WiA p u iv x) (hSa : ∀ x ∈ subs, AclW x.acl) : Fn Tryz.prog 16 #[vptr x, vint u.ses, iv, .agg (rqC r).toArray] [refR x τ, p] fun v L => ∃ (y : Pt) (ys : List Pt), v = .agg (ptC y).toArray ∧ y.pl = (txnP τ u r subs).1 ∧ ys.map Pt.pl = (txnP τ u r subs).2 ∧ (isCell y.aclV = true ∧ ∃ a c, y.subsV = .slice a ys.length c) ∧ (∀ z ∈ ys, isCell z.aclV = true ∧ z.subsV = nilV) ∧ L = [refR x τ, p, aclR y, slR 43 8 y.subsV ys.length (ys.flatMap ptC), bigR aclR ys] := by
 refine Fn.intro Tryz.func16 rfl rfl fun F W => ?_
 have hsf := ho.sfew
 refine .sr (.oq (.box rfl) ?_)
 rintro v L' ⟨b7, rfl, rfl⟩
 refine .oq (.allocA ze_43) ?_
 rintro v L' ⟨b8, rfl, rfl⟩
 refine .nil (.pc b7 (rqC r) ?_)
 refine .then_n (.sr (.u (.fieldAddr rfl fo_28_0) (.u (.ld rfl ag_3) (.cv Tryz.func22 [_] (r12changes_spec r.kind) ?_))))
 refine .an rfl (.seq (.sm rfl (.u (.not rfl) (.nt (.condB rfl (fun h16 => ?_) (fun h16 => ?_))))))
 ·have hT : txnP τ u r subs = (refusal 110 (-1), []) := if_pos (by simpa using h16)
  refine .sr (.cv Tryz.func48 [_, _] (r12refusal_spec 110 (-1)) ?_)
  refine .sa rfl rfl sz_43 (by exact pt_cells (y := refusal 110 (-1)) rfl rfl) ?_
  refine .nil (.pc b8 (ptC (refusal 110 (-1))) ?_)
  refine .add (slR_nil 85 2) (.add (slR_nil 43 8) (.add (p := bigR aclR []) (fun h => big_nil h) (.then_n (.rt ?_))))
  exact .d1 rfl (.cellA rfl ag_43 (by repeat' constructor) (by simp [ptC]) rfl) ⟨refusal 110 (-1), [], rfl, by rw [hT]; rfl, by rw [hT]; rfl, ⟨rfl, none, 0, rfl⟩, (fun _ h => by cases h), rfl⟩
 have hcg : changesK r.kind = true := by simpa using h16
 refine .sk (.seq (.sm rfl (.m rfl (.cv Tryz.func49 [_, _] (rsession_spec x τ u.ses (by omega)) ?_))))
 refine .ui rfl rfl rfl (.nt (.condD rfl (fun h21 => ?_) (fun h21 => ?_)))
 ·have hse : ¬ sesT τ u.ses := ses_iff12.1 h21
  have hT : txnP τ u r subs = (refusal 67 (-1), []) := by unfold txnP; rw [if_neg (fun g => g hcg), if_pos hse]
  refine .sr (.cv Tryz.func48 [_, _] (r12refusal_spec 67 (-1)) ?_)
  refine .sa rfl rfl sz_43 (by exact pt_cells (y := refusal 67 (-1)) rfl rfl) ?_
  refine .nil (.pc b8 (ptC (refusal 67 (-1))) ?_)
  refine .add (slR_nil 85 2) (.add (slR_nil 43 8) (.add (p := bigR aclR []) (fun h => big_nil h) (.then_n (.rt ?_))))
  exact .d1 rfl (.cellA rfl ag_43 (by repeat' constructor) (by simp [ptC]) rfl) ⟨refusal 67 (-1), [], rfl, by rw [hT]; rfl, by rw [hT]; rfl, ⟨rfl, none, 0, rfl⟩, (fun _ h => by cases h), rfl⟩
 have hse : sesT τ u.ses := Decidable.byContradiction fun g => h21 (ses_iff12.2 g)
 refine .sk (.seq (.sr (.u (.fieldAddr rfl fo_28_0) (.u (.ld rfl ag_3) (.nt (.block (.sr (.ui rfl rfl rfl (.an rfl (.condD rfl (fun h25 => ?_) (fun h25 => ?_)))))))))))
 ·have hT : txnP τ u r subs = multiP τ u subs := by unfold txnP; rw [if_neg (fun g => g hcg), if_neg (fun g => g hse), if_pos h25]
  refine .sm rfl (.m rfl (.m rfl (.q (.la (rqC r) rfl ag_28) rfl (.oq (.c Tryz.func50 [_, _, _, _] (r12multi_spec x τ u iv r p hA N ho hN hw hN2 subs hr hS hSa)) ?_))))
  rintro v L' ⟨y, ys, rfl, hy, hys, ⟨hc, a1, c1, hsub⟩, hyk, rfl⟩
  refine .sa rfl rfl sz_43 (by exact pt_cells (y := y) hc (by rw [hsub]; rfl)) ?_
  refine .nil (.pc b8 (ptC (y)) ?_)
  refine .then_n (.ret (.blk_r (.then_r ?_)))
  exact .d1 rfl (.cellA rfl ag_43 (by repeat' constructor) (by simp [ptC]) rfl) ⟨y, ys, rfl, by rw [hT]; exact hy, by rw [hT]; exact hys, ⟨hc, a1, c1, hsub⟩, hyk, rfl⟩
 refine .sr (.ui rfl rfl rfl (.an rfl (.condD rfl (fun h32 => ?_) (fun h32 => ?_))))
 ·have hT : txnP τ u r subs = (noopX, []) := by unfold txnP; rw [if_neg (fun g => g hcg), if_neg (fun g => g hse), if_neg h25, if_pos h32]
  refine .sr (.q (.to (v' := .agg (ptC noopX).toArray) (.build (us := [(0, _)]) fl_43 ze_43 rfl rfl (by simp [isCell])) rfl) rfl (.sa rfl rfl sz_43 (by exact pt_cells (y := noopX) rfl rfl) ?_))
  refine .nil (.pc b8 (ptC (noopX)) ?_)
  refine .add (slR_nil 85 2) (.add (slR_nil 43 8) (.add (p := bigR aclR []) (fun h => big_nil h) (.then_n (.ret (.blk_r (.then_r ?_))))))
  exact .d1 rfl (.cellA rfl ag_43 (by repeat' constructor) (by simp [ptC]) rfl) ⟨noopX, [], rfl, by rw [hT]; rfl, by rw [hT]; rfl, ⟨rfl, none, 0, rfl⟩, (fun _ h => by cases h), rfl⟩
 refine .sr (.ui rfl rfl rfl (.an rfl (.condD rfl (fun h35 => ?_) (fun h35 => ?_))))
 ·have hT : txnP τ u r subs = closeP τ u.ses := by unfold txnP; rw [if_neg (fun g => g hcg), if_neg (fun g => g hse), if_neg h25, if_neg h32, if_pos h35]
  refine .sm rfl (.m rfl (.oq (.c Tryz.func51 [_, _] (r12closes_spec x τ u.ses p N ho hN3)) ?_))
  rintro v L' ⟨y, ys, rfl, hy, hys, ⟨hc, a1, c1, hsub⟩, hyk, rfl⟩
  refine .sa rfl rfl sz_43 (by exact pt_cells (y := y) hc (by rw [hsub]; rfl)) ?_
  refine .nil (.pc b8 (ptC (y)) ?_)
  refine .then_n (.ret (.blk_r (.then_r ?_)))
  exact .d1 rfl (.cellA rfl ag_43 (by repeat' constructor) (by simp [ptC]) rfl) ⟨y, ys, rfl, by rw [hT]; exact hy, by rw [hT]; exact hys, ⟨hc, a1, c1, hsub⟩, hyk, rfl⟩
 refine .skip (.blk_n (.then_n (.sm rfl (.m rfl (.m rfl (.q (.la (rqC r) rfl ag_28) rfl (.oq (.c Tryz.func52 [_, _, _, _] (r12part_spec x τ u iv r p hA N ho hN hw)) ?_)))))))
 rintro v L' ⟨X, rfl, hX, hxa, hxs, rfl⟩
 refine .m rfl (.u (.extract rfl rfl) (.u (.extract rfl rfl) (.oq (.allocA ze_43) ?_)))
 rintro v L' ⟨b10, rfl, rfl⟩
 refine .sa rfl rfl sz_43 (by exact pt_cells hxa (by rw [hxs]; rfl)) ?_
 refine .a rfl (.nil (.pc b10 (ptC X) ?_))
 refine .then_n (.seq (.sm rfl (.ui rfl rfl rfl (.nt (.condN rfl (fun h49 => ?_) (fun h49 => ?_))))))
 ·have hT : txnP τ u r subs = (refusal (partP τ u r).2 (-1), []) := by unfold txnP; rw [if_neg (fun g => g hcg), if_neg (fun g => g hse), if_neg h25, if_neg h32, if_neg h35, if_pos h49]
  refine .sm rfl (.cv Tryz.func48 [_, _] (r12refusal_spec _ _) ?_)
  refine .sa rfl rfl sz_43 (by exact pt_cells (y := refusal (partP τ u r).2 (-1)) rfl rfl) ?_
  refine .nil (.pc b8 (ptC (refusal (partP τ u r).2 (-1))) ?_)
  refine .add (slR_nil 85 2) (.add (slR_nil 43 8) (.add (p := bigR aclR []) (fun h => big_nil h) (.then_n (.rt ?_))))
  exact .d1 rfl (.cellA rfl ag_43 (by repeat' constructor) (by simp [ptC]) rfl) ⟨refusal (partP τ u r).2 (-1), [], rfl, by rw [hT]; rfl, by rw [hT]; rfl, ⟨rfl, none, 0, rfl⟩, (fun _ h => by cases h), rfl⟩
 have h0 : (partP τ u r).2 = 0 := by omega
 have hT : txnP τ u r subs = ((partP τ u r).1, []) := by unfold txnP; rw [if_neg (fun g => g hcg), if_neg (fun g => g hse), if_neg h25, if_neg h32, if_neg h35, if_neg (fun g => g h0)]
 refine .sk (.sr (.q (.la (ptC X) rfl ag_43) rfl (.sa rfl rfl sz_43 (by exact pt_cells (y := X) hxa (by rw [hxs]; rfl)) ?_)))
 refine .nil (.pc b8 (ptC (X)) ?_)
 refine .add (slR_nil 43 8) (.add (p := bigR aclR []) (fun h => big_nil h) (.then_n (.ret ?_)))
 exact .d1 rfl (.cellA rfl ag_43 (by repeat' constructor) (by simp [ptC]) rfl) ⟨X, [], rfl, by rw [hT]; exact hX h0, by rw [hT]; rfl, ⟨hxa, none, 0, hxs⟩, (fun _ h => by cases h), by rw [hxs]⟩
theorem strs_at {xs : List Bs} {i : Nat} (hi : i < xs.length) : (strs xs)[i * 1]? = some (vstr xs[i]) := by
 unfold strs; rw [Nat.mul_one, List.getElem?_map, List.getElem?_eq_getElem hi]; rfl
theorem ints_at {xs : List Int} {i : Nat} (hi : i < xs.length) : (ints xs)[i * 1]? = some (vint xs[i]) := by
 unfold ints; rw [Nat.mul_one, List.getElem?_map, List.getElem?_eq_getElem hi]; rfl
theorem texts7_spec (xs ys : List Bs) (va vb : Value) (h1 : xs.length ≤ 4611686018427387904) : Fn Tryz.prog 59 #[va, vb] [slR 9 1 va xs.length (strs xs), slR 9 1 vb ys.length (strs ys)] fun v L => v = .bool (decide (xs = ys)) ∧ L = [slR 9 1 va xs.length (strs xs), slR 9 1 vb ys.length (strs ys)] := by
 refine Fn.intro Tryz.func59 rfl rfl fun F W => ?_
 refine .slAny (v := va) (by repeat' constructor) fun aa ca e0 _ => ?_
 subst e0
 refine .slAny (v := vb) (by repeat' constructor) fun ab cb e0 _ => ?_
 subst e0
 refine .sr (.an rfl (.seq (.sm rfl (.q (.slen rfl Tryz.underlying23 rfl) rfl (.m rfl (.q (.slen rfl Tryz.underlying23 rfl) rfl (.ui rfl rfl rfl (.nt (.condN rfl (fun h10 => ?_) (fun h10 => ?_))))))))))
 ·refine .sr (.an rfl (.rt ?_))
  exact .dn rfl rfl ⟨by rw [decide_eq_false (fun e => h10 (by rw [e]))], rfl⟩
 have hlen : xs.length = ys.length := by omega
 refine .sk (.seq (.sr (.an rfl (.block (.loopK (ι := Nat) (fun q E => (5, vint q) :: E) (fun q => []) (fun q => q ≤ xs.length ∧ xs.take q = ys.take q) (fun q => xs.length - q) (0) (ts := [0, 1]) (.cons rfl (.cons rfl (.nil))) (⟨Nat.zero_le _, rfl⟩) ⟨rfl, rfl, rfl, trivial⟩ (by repeat' constructor) ?_)))))
 rintro i ⟨hi, hpre⟩
 refine .seq (.sm rfl (.m rfl (.q (.slen rfl Tryz.underlying23 rfl) rfl (.ui rfl rfl rfl (.nt (.condD rfl (fun h14 => ?_) (fun h14 => ?_)))))))
 ·have hi2 : i < xs.length := by omega
  have hi3 : i < ys.length := by omega
  refine .slShape (v := .slice aa _ ca) (by repeat' constructor) (by omega) fun ba ba' e0 mba _ => ?_
  simp only [Value.slice.injEq, true_and] at e0
  obtain ⟨rfl, rfl⟩ := e0
  refine .slShape (v := .slice ab _ cb) (by repeat' constructor) (by omega) fun bb bb' e0 mbb _ => ?_
  simp only [Value.slice.injEq, true_and] at e0
  obtain ⟨rfl, rfl⟩ := e0
  refine .sk (.seq (.block (.seq (.draw [] [[0, 1, 2, 3, 4, 5, 6, 7, 8]] mixed (by kernel_rfl) (.g0 (.mv rfl rfl (.mv rfl rfl (.kv rfl (.indexAddr rfl rfl el_23 (by omega)) (.kv rfl (.loadRd (sz := 1) (j := i * 1) (p := slR 9 1 _ xs.length (strs xs)) rfl ag_9 (by repeat' constructor) (fun h hp => slR_rd hp) (by omega) (strs_at (by omega))) (.mv rfl rfl (.mv rfl rfl (.kv rfl (.indexAddr rfl rfl el_23 (by omega)) (.kv rfl (.loadRd (sz := 1) (j := i * 1) (p := slR 9 1 _ ys.length (strs ys)) rfl ag_9 (by repeat' constructor) (fun h hp => slR_rd hp) (by omega) (strs_at (by omega))) (.kv rfl (.strne rfl rfl) (.pf (.condN rfl (fun h25 => ?_) (fun h25 => ?_)))))))))))))))))
  ·refine .sr (.an rfl (.ret (.blk_r (.then_r (.then_r (.blk_r (.then_r ?_)))))))
   exact .dn rfl rfl ⟨by rw [decide_eq_false (fun e => h25 (by simp only [e]))], rfl⟩
  refine .skip (.blk_n (.then_n (.region (.m rfl (.q (.add rfl rfl (by omega)) rfl (.an rfl ?_))))))
  exact .rk (i + 1) (⟨by omega, by rw [List.take_succ_eq_append_getElem hi2, List.take_succ_eq_append_getElem hi3, hpre, h25]⟩) (by omega) ⟨rfl, rfl, rfl, trivial⟩
 refine .exit (.then_e (.then_e (.blk_e (.then_n (.sr (.an rfl (.ret ?_)))))))
 exact .dn rfl rfl ⟨by rw [decide_eq_true (by have hii : i = xs.length := (by omega); rw [hii, List.take_length] at hpre; rw [hlen, List.take_length] at hpre; exact hpre)], rfl⟩
theorem numbers7_spec (xs ys : List Int) (va vb : Value) (h1 : xs.length ≤ 4611686018427387904) : Fn Tryz.prog 62 #[va, vb] [slR 3 1 va xs.length (ints xs), slR 3 1 vb ys.length (ints ys)] fun v L => v = .bool (decide (xs = ys)) ∧ L = [slR 3 1 va xs.length (ints xs), slR 3 1 vb ys.length (ints ys)] := by
 refine Fn.intro Tryz.func62 rfl rfl fun F W => ?_
 refine .slAny (v := va) (by repeat' constructor) fun aa ca e0 _ => ?_
 subst e0
 refine .slAny (v := vb) (by repeat' constructor) fun ab cb e0 _ => ?_
 subst e0
 refine .sr (.an rfl (.seq (.sm rfl (.q (.slen rfl Tryz.underlying34 rfl) rfl (.m rfl (.q (.slen rfl Tryz.underlying34 rfl) rfl (.ui rfl rfl rfl (.nt (.condN rfl (fun h10 => ?_) (fun h10 => ?_))))))))))
 ·refine .sr (.an rfl (.rt ?_))
  exact .dn rfl rfl ⟨by rw [decide_eq_false (fun e => h10 (by rw [e]))], rfl⟩
 have hlen : xs.length = ys.length := by omega
 refine .sk (.seq (.sr (.an rfl (.block (.loopK (ι := Nat) (fun q E => (5, vint q) :: E) (fun q => []) (fun q => q ≤ xs.length ∧ xs.take q = ys.take q) (fun q => xs.length - q) (0) (ts := [0, 1]) (.cons rfl (.cons rfl (.nil))) (⟨Nat.zero_le _, rfl⟩) ⟨rfl, rfl, rfl, trivial⟩ (by repeat' constructor) ?_)))))
 rintro i ⟨hi, hpre⟩
 refine .seq (.sm rfl (.m rfl (.q (.slen rfl Tryz.underlying34 rfl) rfl (.ui rfl rfl rfl (.nt (.condD rfl (fun h14 => ?_) (fun h14 => ?_)))))))
 ·have hi2 : i < xs.length := by omega
  have hi3 : i < ys.length := by omega
  refine .slShape (v := .slice aa _ ca) (by repeat' constructor) (by omega) fun ba ba' e0 mba _ => ?_
  simp only [Value.slice.injEq, true_and] at e0
  obtain ⟨rfl, rfl⟩ := e0
  refine .slShape (v := .slice ab _ cb) (by repeat' constructor) (by omega) fun bb bb' e0 mbb _ => ?_
  simp only [Value.slice.injEq, true_and] at e0
  obtain ⟨rfl, rfl⟩ := e0
  refine .sk (.seq (.block (.seq (.draw [] [[0, 1, 2, 3, 4, 5, 6, 7, 8]] mixed (by kernel_rfl) (.g0 (.mv rfl rfl (.mv rfl rfl (.kv rfl (.indexAddr rfl rfl el_34 (by omega)) (.kv rfl (.loadRd (sz := 1) (j := i * 1) (p := slR 3 1 _ xs.length (ints xs)) rfl ag_3 (by repeat' constructor) (fun h hp => slR_rd hp) (by omega) (ints_at (by omega))) (.mv rfl rfl (.mv rfl rfl (.kv rfl (.indexAddr rfl rfl el_34 (by omega)) (.kv rfl (.loadRd (sz := 1) (j := i * 1) (p := slR 3 1 _ ys.length (ints ys)) rfl ag_3 (by repeat' constructor) (fun h hp => slR_rd hp) (by omega) (ints_at (by omega))) (.kv rfl (.int rfl rfl rfl) (.pf (.condN rfl (fun h25 => ?_) (fun h25 => ?_)))))))))))))))))
  ·refine .sr (.an rfl (.ret (.blk_r (.then_r (.then_r (.blk_r (.then_r ?_)))))))
   exact .dn rfl rfl ⟨by rw [decide_eq_false (fun e => h25 (by simp only [e]))], rfl⟩
  refine .skip (.blk_n (.then_n (.region (.m rfl (.q (.add rfl rfl (by omega)) rfl (.an rfl ?_))))))
  exact .rk (i + 1) (⟨by omega, by rw [List.take_succ_eq_append_getElem hi2, List.take_succ_eq_append_getElem hi3, hpre, h25]⟩) (by omega) ⟨rfl, rfl, rfl, trivial⟩
 refine .exit (.then_e (.then_e (.blk_e (.then_n (.sr (.an rfl (.ret ?_)))))))
 exact .dn rfl rfl ⟨by rw [decide_eq_true (by have hii : i = xs.length := (by omega); rw [hii, List.take_length] at hpre; rw [hlen, List.take_length] at hpre; exact hpre)], rfl⟩
set_option maxHeartbeats 1000000 in
theorem alike7_spec (t x : Nat) (τ : Tr) (N : Nat) (ho : τ.Ok N) (hN : N ≤ 1073741824) (hb : ∀ y ∈ τ.sess, y.1 ≤ 9223372036854775807) : Fn Tryz.prog 20 #[vptr t, vptr x] [treeR t τ, refR x τ] fun r L => r = .bool true ∧ L = [treeR t τ, refR x τ] := by
 refine Fn.intro Tryz.func20 rfl rfl fun F W => ?_
 have hfew := ho.few
 have hsf := ho.sfew
 have hpz : (pathsZ τ).length = τ.nodes.length := List.length_map _
 have hiz : (idsZ τ).length = τ.sess.length := List.length_map _
 refine .sr (.an rfl (.sr (.an rfl (.seq (.seq (.add (slR_nil 9 1) (.region (.an rfl (.block (.loopK (ι := Nat × Value) (fun q E => (6, vint q.1) :: (5, q.2) :: E) (fun q => [treeR t τ, refR x τ, slR 9 1 q.2 ((pathsZ τ).take q.1).length (strs ((pathsZ τ).take q.1))]) (fun q => q.1 ≤ τ.nodes.length ∧ ∃ a c, q.2 = .slice a ((pathsZ τ).take q.1).length c) (fun q => τ.nodes.length - q.1) (0, .slice none 0 0) (ts := [0, 1]) (.cons rfl (.cons rfl (.nil))) (⟨Nat.zero_le _, none, 0, rfl⟩) ⟨rfl, rfl, rfl, rfl, trivial⟩ (by repeat' constructor) ?_))))))))))
 rintro ⟨i, u⟩ ⟨hi, au, cu, hu⟩
 dsimp only
 dsimp only at hi hu
 subst hu
 have hpl2 : ((pathsZ τ).take i).length = i := by rw [List.length_take]; omega
 refine .seq (.seq (.rtOpen (x := x) (τ := τ) (by repeat' constructor) fun an cn as1 cs l hl => ?_))
 have hll := nds_len hl
 refine .region (.m rfl (.m rfl (.nf rfl fo_110_0 (.u (.ld rfl ag_107) (.q (.slen rfl Tryz.underlying107 rfl) rfl (.ui rfl rfl rfl (.nil (.rtFold (x := x) (τ := τ) (l := l) hl (by repeat' constructor) rfl rfl rfl rfl rfl (.then_n (.condD rfl (fun h36 => ?_) (fun h36 => ?_)))))))))))
 ·have hi2 : i < τ.nodes.length := by omega
  obtain ⟨hst, hth⟩ : statD τ τ.nodes[i].1 = { τ.nodes[i].2.st with len := τ.nodes[i].2.data.length, kids := (kidsZ τ τ.nodes[i].1).length } ∧ thereT τ τ.nodes[i].1 := by have h1 : alook τ.nodes τ.nodes[i].1 = some τ.nodes[i].2 := al_of_mem (ho.sorted.nodup linB) (List.getElem_mem hi2); exact ⟨stat_some h1, there_some'.2 ⟨_, h1⟩⟩
  have hlk : alook τ.nodes τ.nodes[i].1 = some τ.nodes[i].2 := al_of_mem (ho.sorted.nodup linB) (List.getElem_mem hi2)
  have hda : dataD τ τ.nodes[i].1 = τ.nodes[i].2.data := by unfold dataD; rw [hlk]; rfl
  have hac : aclD τ τ.nodes[i].1 = τ.nodes[i].2.acl := by unfold aclD; rw [hlk]; rfl
  have hacl := ho.acls _ (List.getElem_mem hi2)
  have hkl := kidsZ_len τ τ.nodes[i].1
  have hpsn : (pathsZ τ).take (i + 1) = (pathsZ τ).take i ++ [τ.nodes[i].1] := by rw [List.take_succ_eq_append_getElem (by omega)]; simp [pathsZ]
  refine .sk (.seq (.block (.seq (.rtOpen (x := x) (τ := τ) (by repeat' constructor) fun an cn as1 cs l hl => ?_))))
  have hll := nds_len hl
  have hil : i < l.length := by omega
  have hgl := nds_get hl hil
  refine .slShape (T := 112) (sz := 12) (v := .slice an l.length cn) (xs := l.flatMap rnC) (by repeat' constructor) (by omega) fun bn bn' e0 mbn _ => ?_
  simp only [Value.slice.injEq, true_and] at e0
  obtain ⟨rfl, rfl⟩ := e0
  refine .region (.m rfl (.nf rfl fo_110_0 (.u (.ld rfl ag_107) (.m rfl (.q (.indexAddr rfl rfl el_107 (by omega)) rfl (.u (.fieldAddr rfl fo_112_0) (.q (.to (v' := vstr τ.nodes[i].1) (.loadRd (sz := 12) (j := i * 12 + 0) (p := rnR _ l) rfl ag_9 (by repeat' constructor) (fun h hp => slR_rd hp) (by omega) ((rn_cell (l := l) (i := i) (k := 0) (by omega) (by decide)).trans rfl)) (by rw [hgl])) rfl (.a rfl (.nil (.rtFold (x := x) (τ := τ) (l := l) hl (by repeat' constructor) rfl rfl rfl rfl rfl (.then_n (.sm rfl (.m rfl (.oq (.buildSlice1 (vs := [_]) el_23 ze_9 rfl rfl rfl rfl rfl (by decide)) ?_))))))))))))))
  rintro v L' ⟨b6_2, rfl, rfl⟩
  refine .oq (.append1 rfl rfl rfl el_23 ze_9 rfl rfl ?c22 ?c23 (Nat.le_refl _) ?c24 (by decide)) ?_
  case c22 => (first | (simp [isCell]; done) | (simp [isCell, setAll, Value.cells]; done))
  case c23 => rfl
  case c24 => first | omega | (simp; omega)
  rintro v L' ⟨⟨a6_3, c6_3, rfl⟩, rfl⟩
  refine .a rfl (.nil ?_)
  rw [show strs ((pathsZ τ).take i) ++ [vstr τ.nodes[i].1] = strs ((pathsZ τ).take (i + 1)) by rw [hpsn]; simp [strs], show ((pathsZ τ).take i).length + 1 = ((pathsZ τ).take (i + 1)).length by rw [hpsn, List.length_append]; rfl]
  refine .then_n (.sm rfl (.m rfl (.oq (.c Tryz.func54 [_, _] (trget_spec t τ τ.nodes[i].1 N ho (by omega))) ?_)))
  rintro v L' ⟨rfl, rfl⟩; rw [if_pos hth]
  refine .m rfl (.u (.extract rfl rfl) (.u (.extract rfl rfl) (.u (.extract rfl rfl) (.oq (.allocA ze_37) ?_))))
  rintro v L' ⟨b9, rfl, rfl⟩
  refine .a rfl (.sa rfl rfl sz_37 (by intro v hv; simp only [stC, List.mem_cons, List.not_mem_nil, or_false] at hv; rcases hv with rfl | rfl | rfl | rfl | rfl | rfl | rfl | rfl | rfl <;> rfl) ?_)
  refine .a rfl (.nil (.ptCast (b := b9) (l' := stC (statD τ τ.nodes[i].1)) (by repeat' constructor) rfl ?_))
  refine .then_n (.sm rfl (.m rfl (.oq (.c Tryz.func55 [_, _] (rstat_spec x τ τ.nodes[i].1 N ho hN)) ?_)))
  rintro v L' ⟨rfl, rfl⟩; rw [decide_eq_true hth]
  refine .m rfl (.u (.extract rfl rfl) (.u (.extract rfl rfl) (.oq (.allocA ze_37) ?_)))
  rintro v L' ⟨b11, rfl, rfl⟩
  refine .sa rfl rfl sz_37 (by intro v hv; simp only [stC, List.mem_cons, List.not_mem_nil, or_false] at hv; rcases hv with rfl | rfl | rfl | rfl | rfl | rfl | rfl | rfl | rfl <;> rfl) ?_
  refine .a rfl (.nil (.ptCast (b := b11) (l' := stC (statD τ τ.nodes[i].1)) (by repeat' constructor) rfl ?_))
  refine .then_n (.sm rfl (.m rfl (.oq (.c Tryz.func13 [_, _] (trstat_spec t τ τ.nodes[i].1 N ho (by omega))) ?_)))
  rintro v L' ⟨rfl, rfl⟩; rw [decide_eq_true hth]
  refine .m rfl (.u (.extract rfl rfl) (.u (.extract rfl rfl) (.oq (.allocA ze_37) ?_)))
  rintro v L' ⟨b13, rfl, rfl⟩
  refine .sa rfl rfl sz_37 (by intro v hv; simp only [stC, List.mem_cons, List.not_mem_nil, or_false] at hv; rcases hv with rfl | rfl | rfl | rfl | rfl | rfl | rfl | rfl | rfl <;> rfl) ?_
  refine .a rfl (.nil (.ptCast (b := b13) (l' := stC (statD τ τ.nodes[i].1)) (by repeat' constructor) rfl ?_))
  refine .then_n (.sm rfl (.m rfl (.oq (.c Tryz.func56 [_, _] (tracl_spec t τ τ.nodes[i].1 N ho)) ?_)))
  rintro v L' ⟨ua, rfl, ⟨aa, ca, rfl⟩, rfl⟩; rw [if_pos hth]
  refine .m rfl (.u (.extract rfl rfl) (.u (.extract rfl rfl) (.a rfl (.an rfl (.sm rfl (.m rfl (.oq (.c Tryz.func57 [_, _] (trkids_spec t τ τ.nodes[i].1 N ho (by omega))) ?_)))))))
  rintro v L' ⟨uk, lk, rfl, -, hlk, ⟨ak, ck, rfl⟩, rfl⟩; rw [if_pos hth] at hlk; subst hlk; rw [if_pos hth]
  refine .m rfl (.u (.extract rfl rfl) (.u (.extract rfl rfl) (.a rfl (.an rfl (.seq (.rtOpen (x := x) (τ := τ) (by repeat' constructor) fun an cn as1 cs l hl => ?_))))))
  have hll := nds_len hl
  have hil : i < l.length := by omega
  have hgl := nds_get hl hil
  refine .slShape (T := 112) (sz := 12) (v := .slice an l.length cn) (xs := l.flatMap rnC) (by repeat' constructor) (by omega) fun bn bn' e0 mbn _ => ?_
  simp only [Value.slice.injEq, true_and] at e0
  obtain ⟨rfl, rfl⟩ := e0
  refine .region (.m rfl (.m rfl (.nf rfl fo_110_0 (.u (.ld rfl ag_107) (.m rfl (.q (.indexAddr rfl rfl el_107 (by omega)) rfl (.u (.fieldAddr rfl fo_112_2) (.q (.loadRd (sz := 12) (j := i * 12 + 2) (p := rnR _ l) rfl ag_24 (by repeat' constructor) (fun h hp => slR_rd hp) (by omega) ((rn_cell (l := l) (i := i) (k := 2) (by omega) (by decide)).trans rfl)) rfl (.oq (.call Tryz.func58 rfl rfl (vs := [_, _]) rfl (rrowseq_spec _ l[i].2.1 (aclD τ τ.nodes[i].1) l[i].2.2.acl _ (bigR inA l) (fun h hp => slR_rd (T := 85) hp) (big_rd hil) (by rw [hac]; exact hacl))) ?_)))))))))
  rintro v L' ⟨rfl, rfl⟩; rw [decide_eq_true (by rw [hac, hgl])]
  refine .a rfl (.nil (.rtFold (x := x) (τ := τ) (l := l) hl (by repeat' constructor) rfl rfl rfl rfl rfl (.then_n (.sm rfl (.m rfl (.m rfl (.oq (.c Tryz.func60 [_, _] (rkids_spec x τ τ.nodes[i].1 N ho hN)) ?_)))))))
  rintro v L' ⟨⟨a13, c13, rfl⟩, rfl⟩
  refine .oq (.call Tryz.func59 rfl rfl (vs := [_, _]) rfl (texts7_spec (kidsZ τ τ.nodes[i].1) (kidsZ τ τ.nodes[i].1) _ _ (by omega))) ?_
  rintro v L' ⟨rfl, rfl⟩; rw [decide_eq_true rfl]
  refine .an rfl (.seq (.seq (.rtOpen (x := x) (τ := τ) (by repeat' constructor) fun an cn as1 cs l hl => ?_)))
  have hll := nds_len hl
  have hil : i < l.length := by omega
  have hgl := nds_get hl hil
  refine .slShape (T := 112) (sz := 12) (v := .slice an l.length cn) (xs := l.flatMap rnC) (by repeat' constructor) (by omega) fun bn bn' e0 mbn _ => ?_
  simp only [Value.slice.injEq, true_and] at e0
  obtain ⟨rfl, rfl⟩ := e0
  have hdl : dataD τ τ.nodes[i].1 = l[i].2.2.data := hda.trans (by rw [hgl])
  refine .region (.m rfl (.m rfl (.nf rfl fo_110_0 (.u (.ld rfl ag_107) (.m rfl (.q (.indexAddr rfl rfl el_107 (by omega)) rfl (.u (.fieldAddr rfl fo_112_1) (.q (.loadRd (sz := 12) (j := i * 12 + 1) (p := rnR _ l) rfl ag_9 (by repeat' constructor) (fun h hp => slR_rd hp) (by omega) ((rn_cell (l := l) (i := i) (k := 1) (by omega) (by decide)).trans rfl)) rfl (.q (.as (v' := .bool false) (by simp [hdl]) (.strne rfl rfl)) rfl (.m rfl (.grun (t := 107) rfl rfl rfl (.q (.loadAs (vs := stC (statD τ τ.nodes[i].1)) rfl ag_37 (by repeat' constructor) (by simp [stC]) rfl) rfl (.grun (t := 107) rfl rfl rfl (.q (.loadAs (vs := stC (statD τ τ.nodes[i].1)) rfl ag_37 (by repeat' constructor) (by simp [stC]) rfl) rfl (.grun (t := 107) rfl rfl rfl (.q (.as (v' := .bool false) (by simp) (.structNe (r := decide (statD τ τ.nodes[i].1 = statD τ τ.nodes[i].1)) rfl rfl (by kernel_rfl) (st_eq 9998 _ _))) rfl ?_))))))))))))))))
  refine .u (.pickF rfl rfl) (.m rfl (.grun (t := 112) rfl rfl rfl (.q (.loadAs (vs := stC (statD τ τ.nodes[i].1)) rfl ag_37 (by repeat' constructor) (by simp [stC]) rfl) rfl (.grun (t := 112) rfl rfl rfl (.q (.loadAs (vs := stC (statD τ τ.nodes[i].1)) rfl ag_37 (by repeat' constructor) (by simp [stC]) rfl) rfl (.grun (t := 112) rfl rfl rfl (.q (.as (v' := .bool false) (by simp) (.structNe (r := decide (statD τ τ.nodes[i].1 = statD τ τ.nodes[i].1)) rfl rfl (by kernel_rfl) (st_eq 9998 _ _))) rfl (.u (.pickF rfl rfl) (.m rfl (.grun (t := 117) rfl rfl rfl (.m rfl (.grun (t := 117) rfl rfl rfl (.u (.not rfl) (.u (.pickF rfl rfl) (.m rfl (.grun (t := 121) rfl rfl rfl (.m rfl (.grun (t := 121) rfl rfl rfl (.u (.not rfl) (.u (.pickF rfl rfl) (.m rfl (.grun (t := 125) rfl rfl rfl (.m rfl (.grun (t := 125) rfl rfl rfl (.u (.not rfl) (.u (.pickF rfl rfl) (.m rfl (.grun (t := 129) rfl rfl rfl (.m rfl (.grun (t := 129) rfl rfl rfl ?_))))))))))))))))))))))))))))))
  refine .q (.as (v' := .bool false) (by rfl) (.int rfl rfl rfl)) rfl (.u (.pickF rfl rfl) (.m rfl (.grun (t := 133) rfl rfl rfl (.m rfl (.grun (t := 133) rfl rfl rfl (.q (.as (v' := .bool false) (by rfl) (.int rfl rfl rfl)) rfl (.u (.pickF rfl rfl) (.m rfl (.grun (t := 137) rfl rfl rfl (.m rfl (.grun (t := 137) rfl rfl rfl (.q (.as (v' := .bool false) (by rfl) (.int rfl rfl rfl)) rfl (.u (.pickF rfl rfl) (.nil (.rtFold (x := x) (τ := τ) (l := l) hl (by repeat' constructor) rfl rfl rfl rfl rfl (.then_n (.condF rfl (.sk (.seq (.rtOpen (x := x) (τ := τ) (by repeat' constructor) fun an cn as1 cs l hl => ?_))))))))))))))))))))
  have hll := nds_len hl
  have hil : i < l.length := by omega
  have hgl := nds_get hl hil
  refine .slShape (T := 112) (sz := 12) (v := .slice an l.length cn) (xs := l.flatMap rnC) (by repeat' constructor) (by omega) fun bn bn' e0 mbn _ => ?_
  simp only [Value.slice.injEq, true_and] at e0
  obtain ⟨rfl, rfl⟩ := e0
  refine .region (.m rfl (.nf rfl fo_110_0 (.u (.ld rfl ag_107) (.m rfl (.q (.indexAddr rfl rfl el_107 (by omega)) rfl (.u (.fieldAddr rfl fo_112_3) (.u (.fieldAddr rfl fo_37_6) (.q (.loadRd (sz := 12) (j := i * 12 + 9) (p := rnR _ l) rfl ag_3 (by repeat' constructor) (fun h hp => slR_rd hp) (by omega) ((rn_cell (l := l) (i := i) (k := 9) (by omega) (by decide)).trans rfl)) rfl (.a rfl (.nil (.rtFold (x := x) (τ := τ) (l := l) hl (by repeat' constructor) rfl rfl rfl rfl rfl ?_)))))))))))
  have how : ∀ s, (ownedZ τ s).length ≤ τ.nodes.length := owned_len τ
  generalize l[i].2.2.st.own = ow
  refine .then_n (.sm rfl (.m rfl (.oq (.c Tryz.func37 [_, _] (trowned_spec t τ ow N ho (by omega))) ?_)))
  rintro v L' ⟨⟨ao, co, rfl⟩, rfl⟩
  refine .m rfl (.m rfl (.oq (.c Tryz.func61 [_, _] (rowned_spec x τ ow N ho hN)) ?_))
  rintro v L' ⟨⟨ap, cp, rfl⟩, rfl⟩
  refine .oq (.call Tryz.func59 rfl rfl (vs := [_, _]) rfl (texts7_spec (ownedZ τ ow) (ownedZ τ ow) _ _ (by have := how ow; omega))) ?_
  rintro v L' ⟨rfl, rfl⟩; rw [decide_eq_true rfl]
  refine .an rfl (.sm rfl (.u (.not rfl) (.nt (.condF rfl (.skip (.blk_n (.then_n (.region (.m rfl (.q (.add rfl rfl (by omega)) rfl (.an rfl ?_)))))))))))
  exact .rk ((i + 1, .slice a6_3 ((pathsZ τ).take (i + 1)).length c6_3)) (⟨by dsimp only; omega, _, _, rfl⟩) (by dsimp only; omega) ⟨rfl, rfl, rfl, rfl, trivial⟩
 have hii : i = τ.nodes.length := by omega
 have hpt : (pathsZ τ).take i = pathsZ τ := List.take_of_length_le (by omega)
 rw [hpt]
 refine .exit (.then_e (.then_e (.blk_e (.then_n (.sr (.an rfl (.seq (.seq (.add (slR_nil 3 1) (.region (.an rfl (.block (.loopK (ι := Nat × Value) (fun q E => (24, vint q.1) :: (23, q.2) :: E) (fun q => [treeR t τ, refR x τ, slR 3 1 q.2 ((idsZ τ).take q.1).length (ints ((idsZ τ).take q.1))]) (fun q => q.1 ≤ τ.sess.length ∧ ∃ a c, q.2 = .slice a ((idsZ τ).take q.1).length c) (fun q => τ.sess.length - q.1) (0, .slice none 0 0) (ts := [0, 1, 5]) (.cons rfl (.cons rfl (.cons rfl (.nil)))) (⟨Nat.zero_le _, none, 0, rfl⟩) ⟨rfl, rfl, rfl, rfl, rfl, trivial⟩ (by repeat' constructor) ?_)))))))))))))
 rintro ⟨j, w⟩ ⟨hj, aw, cw, hw⟩
 dsimp only
 dsimp only at hj hw
 subst hw
 have hjl : ((idsZ τ).take j).length = j := by rw [List.length_take]; omega
 refine .seq (.seq (.rtOpen (x := x) (τ := τ) (by repeat' constructor) fun an cn as1 cs l hl => ?_))
 have hll := nds_len hl
 refine .region (.m rfl (.m rfl (.nf rfl fo_110_1 (.u (.ld rfl ag_108) (.q (.slen rfl Tryz.underlying108 rfl) rfl (.ui rfl rfl rfl (.nil (.rtFold (x := x) (τ := τ) (l := l) hl (by repeat' constructor) rfl rfl rfl rfl rfl (.then_n (.condD rfl (fun h165 => ?_) (fun h165 => ?_)))))))))))
 ·have hj2 : j < τ.sess.length := by omega
  have hsl : alook τ.sess τ.sess[j].1 = some τ.sess[j].2 := al_of_mem (ho.ssorted.nodup linI) (List.getElem_mem hj2)
  have hsd : sesD τ τ.sess[j].1 = τ.sess[j].2 ∧ sesT τ τ.sess[j].1 := by unfold sesD sesT; rw [hsl]; exact ⟨rfl, rfl⟩
  have hisn : (idsZ τ).take (j + 1) = (idsZ τ).take j ++ [τ.sess[j].1] := by rw [List.take_succ_eq_append_getElem (by omega)]; simp [idsZ]
  refine .sk (.seq (.block (.seq (.rtOpen (x := x) (τ := τ) (by repeat' constructor) fun an cn as1 cs l hl => (.slShape (T := 122) (sz := 3) (v := .slice as1 τ.sess.length cs) (xs := τ.sess.flatMap rsC) (by repeat' constructor) (by omega) fun bs bs' e0 mbs _ => ?_)))))
  simp only [Value.slice.injEq, true_and] at e0
  obtain ⟨rfl, rfl⟩ := e0
  refine .region (.m rfl (.m rfl (.nf rfl fo_110_1 (.u (.ld rfl ag_108) (.m rfl (.q (.indexAddr rfl rfl el_108 (by omega)) rfl (.u (.fieldAddr rfl fo_122_0) (.q (.loadRd (sz := 3) (j := j * 3 + 0) (p := rsR _ τ.sess) rfl ag_3 (by repeat' constructor) (fun h hp => slR_rd hp) (by omega) ((rs_cell (l := τ.sess) (i := j) (k := 0) (by omega) (by decide)).trans rfl)) rfl (.oq (.buildSlice1 (vs := [_]) el_34 ze_3 rfl rfl rfl rfl rfl (by decide)) ?_)))))))))
  rintro v L' ⟨b24, rfl, rfl⟩
  refine .oq (.append1 rfl rfl rfl el_34 ze_3 rfl rfl ?c150 ?c151 (Nat.le_refl _) ?c152 (by decide)) ?_
  case c150 => (first | (simp [isCell]; done) | (simp [isCell, setAll, Value.cells]; done))
  case c151 => rfl
  case c152 => first | omega | (simp; omega)
  rintro v L' ⟨⟨a24_23, c24_23, rfl⟩, rfl⟩
  refine .a rfl (.nil ?_)
  rw [show ints ((idsZ τ).take j) ++ [vint τ.sess[j].1] = ints ((idsZ τ).take (j + 1)) by rw [hisn]; simp [ints], show ((idsZ τ).take j).length + 1 = ((idsZ τ).take (j + 1)).length by rw [hisn, List.length_append]; rfl]
  refine .rtFold (x := x) (τ := τ) (l := l) hl (by repeat' constructor) rfl rfl rfl rfl rfl (.then_n (.seq (.rtOpen (x := x) (τ := τ) (by repeat' constructor) fun an cn as1 cs l hl => (.slShape (T := 122) (sz := 3) (v := .slice as1 τ.sess.length cs) (xs := τ.sess.flatMap rsC) (by repeat' constructor) (by omega) fun bs bs' e0 mbs _ => ?_))))
  simp only [Value.slice.injEq, true_and] at e0
  obtain ⟨rfl, rfl⟩ := e0
  refine .region (.m rfl (.m rfl (.nf rfl fo_110_1 (.u (.ld rfl ag_108) (.m rfl (.q (.indexAddr rfl rfl el_108 (by omega)) rfl (.u (.fieldAddr rfl fo_122_0) (.q (.loadRd (sz := 3) (j := j * 3 + 0) (p := rsR _ τ.sess) rfl ag_3 (by repeat' constructor) (fun h hp => slR_rd hp) (by omega) ((rs_cell (l := τ.sess) (i := j) (k := 0) (by omega) (by decide)).trans rfl)) rfl (.rtFold (x := x) (τ := τ) (l := l) hl (by repeat' constructor) rfl rfl rfl rfl rfl (.oq (.c Tryz.func44 [_, _] (trsession_spec t τ τ.sess[j].1)) ?_))))))))))
  rintro v L' ⟨rfl, rfl⟩; rw [hsd.1, decide_eq_true hsd.2]
  refine .m rfl (.u (.extract rfl rfl) (.u (.extract rfl rfl) (.u (.extract rfl rfl) (.a rfl (.a rfl (.an rfl (.seq (.rtOpen (x := x) (τ := τ) (by repeat' constructor) fun an cn as1 cs l hl => (.slShape (T := 122) (sz := 3) (v := .slice as1 τ.sess.length cs) (xs := τ.sess.flatMap rsC) (by repeat' constructor) (by omega) fun bs bs' e0 mbs _ => ?_)))))))))
  simp only [Value.slice.injEq, true_and] at e0
  obtain ⟨rfl, rfl⟩ := e0
  refine .region (.m rfl (.m rfl (.nf rfl fo_110_1 (.u (.ld rfl ag_108) (.m rfl (.q (.indexAddr rfl rfl el_108 (by omega)) rfl (.u (.fieldAddr rfl fo_122_1) (.q (.loadRd (sz := 3) (j := j * 3 + 1) (p := rsR _ τ.sess) rfl ag_3 (by repeat' constructor) (fun h hp => slR_rd hp) (by omega) ((rs_cell (l := τ.sess) (i := j) (k := 1) (by omega) (by decide)).trans rfl)) rfl (.q (.as (v' := .bool false) (by simp) (.int rfl rfl rfl)) rfl (.m rfl (.grun (t := 203) rfl rfl rfl (.m rfl (.grun (t := 203) rfl rfl rfl (.m rfl (.grun (t := 203) rfl rfl rfl (.u (.nilp rfl) (.grun (t := 203) rfl rfl rfl (.u (.fieldAddr rfl fo_110_1) (.grun (t := 203) rfl rfl rfl (.u (.ld rfl ag_108) (.grun (t := 203) rfl rfl rfl (.m rfl (.grun (t := 203) rfl rfl rfl (.q (.indexAddr rfl rfl el_108 (by omega)) rfl (.grun (t := 203) rfl rfl rfl (.u (.fieldAddr rfl fo_122_2) (.grun (t := 203) rfl rfl rfl ?_)))))))))))))))))))))))))))
  refine .q (.loadRd (sz := 3) (j := j * 3 + 2) (p := rsR _ τ.sess) rfl ag_9 (by repeat' constructor) (fun h hp => slR_rd hp) (by omega) ((rs_cell (l := τ.sess) (i := j) (k := 2) (by omega) (by decide)).trans rfl)) rfl (.grun (t := 203) rfl rfl rfl (.q (.as (v' := .bool false) (by simp) (.strne rfl rfl)) rfl (.u (.pickF rfl rfl) (.m rfl (.grun (t := 215) rfl rfl rfl (.m rfl (.grun (t := 215) rfl rfl rfl (.u (.not rfl) (.u (.pickF rfl rfl) (.nil (.rtFold (x := x) (τ := τ) (l := l) hl (by repeat' constructor) rfl rfl rfl rfl rfl (.then_n (.condF rfl (.skip (.blk_n (.then_n (.region (.m rfl (.q (.add rfl rfl (by omega)) rfl (.an rfl ?_))))))))))))))))))))
  exact .rk ((j + 1, .slice a24_23 ((idsZ τ).take (j + 1)).length c24_23)) (⟨by dsimp only; omega, _, _, rfl⟩) (by dsimp only; omega) ⟨rfl, rfl, rfl, rfl, rfl, trivial⟩
 have hjj : j = τ.sess.length := by omega
 have hjt : (idsZ τ).take j = idsZ τ := List.take_of_length_le (by omega)
 rw [hjt]
 refine .exit (.then_e (.then_e (.blk_e (.then_n (.sm rfl (.oq (.c Tryz.func38 [_] (trpaths_spec t τ N ho (by omega))) ?_))))))
 rintro v L' ⟨⟨a28, c28, rfl⟩, rfl⟩
 refine .m rfl (.oq (.call Tryz.func59 rfl rfl (vs := [_, _]) rfl (texts7_spec (pathsZ τ) (pathsZ τ) _ _ (by omega))) ?_)
 rintro v L' ⟨rfl, rfl⟩; rw [decide_eq_true rfl]
 refine .an rfl (.sm rfl (.oq (.c Tryz.func63 [_] (trsessions_spec t τ N ho hb (by omega))) ?_))
 rintro v L' ⟨⟨a29, c29, rfl⟩, rfl⟩
 refine .m rfl (.oq (.call Tryz.func62 rfl rfl (vs := [_, _]) rfl (numbers7_spec (idsZ τ) (idsZ τ) _ _ (by omega))) ?_)
 rintro v L' ⟨rfl, rfl⟩; rw [decide_eq_true rfl]
 refine .an rfl (.seq (.rtOpen (x := x) (τ := τ) (by repeat' constructor) fun an cn as1 cs l hl => (.draw [] [[0, 1, 2, 3, 4, 5, 6, 7, 8, 9, 10, 11, 12, 13]] mixed (by kernel_rfl) (.go [treeR t τ, ptc x _ _] (by repeat' constructor) (.mv rfl rfl (.mv rfl rfl (.gv rfl (.move rfl) (.kv rfl (.pickT rfl rfl) (.mv rfl rfl (.gv rfl (.move rfl) (.gm (t := 231) rfl rfl rfl (by kernel_rfl) (.c Tryz.func64 [_] (trzxid_spec t τ)) (by repeat' constructor) ?_)))))))))))
 refine D.gv rfl (.move rfl) (.gv rfl (.nilp rfl) (.gv rfl (.fieldAddr rfl fo_110_2) (.gv rfl (.ld rfl ag_3) (.gv rfl (.as (v' := .bool true) (by simp) (.int rfl rfl rfl)) (.kv rfl (.pickT rfl rfl) (.kv rfl (.assign rfl) (.ph (.fin (.rtFold (x := x) (τ := τ) (l := l) hl (by repeat' constructor) rfl rfl rfl rfl rfl (.then_n (.ret ?_)))))))))))
 exact .vv
/- not in this seat -/
theorem ptxn0_spec (s : Int) (iv : Value) (r : Rq) (hr : ∀ v ∈ rqC r, isCell v = true) : Fn Tryz.prog 14 #[.pointer none, vint s, iv, .agg (rqC r).toArray] [] fun v L => v = .agg (ptC (refusal 1 (-1))).toArray ∧ L = [] := by
 refine Fn.intro Tryz.func14 rfl rfl fun F W => ?_
 refine .sr (.oq (.box rfl) ?_)
 rintro v L' ⟨b7, rfl, rfl⟩
 refine .oq (.allocA ze_43) ?_
 rintro v L' ⟨b8, rfl, rfl⟩
 refine .nt (.seq (.sm rfl (.q (.ptreq rfl rfl Tryz.underlying30) rfl (.nt (.condT rfl (.sr (.cv Tryz.func43 [_, _] (prefusal_spec 1 (-1)) ?_)))))))
 refine .sa rfl rfl sz_43 (by simp [ptC, refusal, isCell]) ?_
 refine .nil (.pc b8 (ptC (refusal 1 (-1))) ?_)
 refine .then_n (.rt ?_)
 exact .d1 rfl (.cellA rfl ag_43 (by repeat' constructor) (by simp [ptC]) rfl) ⟨rfl, rfl⟩
theorem strs_len (l : List Bs) : (strs l).length = l.length := List.length_map _
theorem ref_L {p : HP} : EnL p ⟨0, 0, 0, refusal 1 (-1), []⟩ := by
 have hR := refusal_R (e := 1) (n := -1) ⟨by decide, by decide⟩ ⟨by decide, by decide⟩
 have hN : ∀ g : Hp, p g → rdS 2 g nilV 0 [] := fun _ _ => .inl ⟨rfl, rfl, none, 0, rfl⟩
 refine ⟨⟨⟨I64.zero, I64.zero, I64.zero, hR.i, by show 0 < U64; decide, fun z hz => by cases hz⟩, hN, fun _ _ => .inl ⟨rfl, rfl, none, 0, rfl⟩, fun z hz => by cases hz⟩, ?_, ⟨Nat.zero_le _, Nat.zero_le _, fun z hz => by cases hz⟩, ⟨rfl, rfl⟩, fun z hz => by cases hz⟩
 exact long_len hR (fun z hz => by cases hz) (Nat.zero_le _)
theorem prepTxns12_spec (va : Value) (es : List En) (s : Int) (ids : List Bs) (ai : Option Addr) (ci : Nat) (r : Rq) (subs : List Rq) (arm : List Am) (q : HP) (hA : EntsA q va es) (hN : ∀ e ∈ es, EnN e) (hF : wtL es ≤ 500000) (hI : Ids q (.slice ai ids.length ci) ids) (hD : WiD q (⟨s, ids⟩ : Who) (.slice ai ids.length ci) r subs) (hf : subs.length ≤ 1048576) (hm : ∀ g : Hp, q g → rdS 5 g r.armV arm.length (arm.flatMap amC)) (hmn : arm.length ≤ 1048576) (hmi : ∀ a ∈ arm, AmI a) : Fn Tryz.prog 4 #[va, vint s, (.slice ai ids.length ci), .agg (rqC r).toArray] [q] fun v L => v = .bool true ∧ L = [q] := by
 refine Fn.intro Tryz.func4 rfl rfl fun F W => ?_
 have hok0 := ents_ok (p := q) newT_ok hA.tx
 have hok : (appL newT es).Ok 524288 := hok0.more (by omega)
 have hw : TrW (appL newT es) := ents_w TrW.new hN
 have hsb : SesB (appL newT es) := ents_sesB (by intro y hy; cases hy) hA.own
 refine .add (p := nilP) nilP_ok (.add (p := nilP) nilP_ok ?_)
 have hR := hD.rqL hf hm hmn hmi
 have hids := hI.2.1
 refine .sr (.oq (.box rfl) ?_)
 rintro v L' ⟨b7, rfl, rfl⟩
 refine .a rfl (.nil (.pc b7 (rqC r) ?_))
 refine .then_n (.sr (.cv Tryz.func10 [] (awake12_spec q hD.w.tab) ?_))
 refine .an rfl (.sm rfl (.oq (.c Tryz.func11 [_] (trees12_spec va es q hA)) ?_))
 rintro v L' ⟨t, x, rfl, rfl⟩
 refine .m rfl (.u (.extract rfl rfl) (.u (.extract rfl rfl) (.a rfl (.an rfl (.seq (.sm rfl (.u (.not rfl) (.m rfl (.grun (t := 29) rfl rfl rfl (.m rfl (.grun (t := 29) rfl rfl rfl (.q (.ptreq rfl rfl Tryz.underlying30) rfl (.u (.pickF rfl rfl) (.nt (.condF rfl (.sk (.sm rfl (.m rfl (.m rfl (.q (.la (rqC r) rfl ag_28) rfl (.oq (.c Tryz.func16 [_, _, _, _] (r12txn_spec x (appL newT es) (⟨s, ids⟩ : Who) (.slice ai ids.length ci) r q hD.w 524288 hok (by decide) hw (by decide) (by decide) subs hD.rd hD.each hD.acls)) ?_)))))))))))))))))))))
 rintro v L' ⟨y5, ys5, rfl, hy5, hys5, ⟨hc5, as5, cs5, hsub5⟩, hyk5, rfl⟩
 refine .oq (.allocA ze_43) ?_
 rintro v L' ⟨b12, rfl, rfl⟩
 refine .sa rfl rfl sz_43 (by exact pt_cells hc5 (by rw [hsub5]; rfl)) ?_
 refine .nil (.pc b12 (ptC y5) ?_)
 refine .fold (p := entR (⟨0, 0, 0, y5, ys5⟩ : En)) (q := [aclR y5, slR 43 8 y5.subsV ys5.length (ys5.flatMap ptC), bigR aclR ys5]) (by repeat' constructor) (fun _ h => h) ?_
 have hL5 := txn_L hok (by decide) hD hy5 hys5 ⟨hc5, as5, cs5, hsub5⟩ hyk5
 refine .then_n (.sm rfl (.m rfl (.q (.la (rqC r) rfl ag_28) rfl (.cv Tryz.func14 [_, _, _, _] (ptxn0_spec s (.slice ai ids.length ci) r hD.w.rqcells) ?_))))
 refine .oq (.allocA ze_43) ?_
 rintro v L' ⟨b13, rfl, rfl⟩
 refine .sa rfl rfl sz_43 (by exact pt_cells (y := refusal 1 (-1)) rfl rfl) ?_
 refine .nil (.pc b13 (ptC (refusal 1 (-1))) ?_)
 refine .then_n (.seq (.sr (.an rfl (.block (.loopK (ι := Nat) (fun q E => (14, vint q) :: E) (fun q => []) (fun q => q ≤ 2) (fun q => 2 - q) (0) (ts := [1, 2, 7, 10, 11, 12, 13]) (.cons rfl (.cons rfl (.cons rfl (.cons rfl (.cons rfl (.cons rfl (.cons rfl (.nil)))))))) (Nat.zero_le _) ⟨rfl, rfl, rfl, rfl, rfl, rfl, rfl, rfl, trivial⟩ (by repeat' constructor) ?_)))))
 rintro i hi
 refine .seq (.sm rfl (.ui rfl rfl rfl (.nt (.condD rfl (fun h43 => ?_) (fun h43 => ?_)))))
 ·refine .sk (.seq (.block (.sr (.q (.la (rqC r) rfl ag_28) rfl (.oq (.c Tryz.func17 [_] (lent12_spec r subs arm q hR)) ?_)))))
  rintro v L' ⟨va1, vs1, rfl, ⟨aa1, na1, ca1, rfl⟩, ⟨as1, ns1, cs1, rfl⟩, rfl⟩
  refine .oq (.allocA ze_28) ?_
  rintro v L' ⟨b15, rfl, rfl⟩
  refine .sa rfl rfl sz_28 (by exact own_cells hR.op.c3) ?_
  refine .nil (.pc b15 (rqC (ownQ r (.slice aa1 na1 ca1) (.slice as1 ns1 cs1))) ?_)
  refine .add (slR_nil 9 1) (.then_n (.sm rfl (.oq (.append (n := 0) (m := ids.length) (ys := strs ids) (p := q) rfl rfl rfl el_23 (.inl ⟨_, Tryz.underlying23⟩) ze_9 rfl rfl ?hc51 hI.1 ?hb52 (by decide)) ?_)))
  case hc51 => intro y hy; obtain ⟨z, _, rfl⟩ := List.mem_map.1 hy; rfl
  case hb52 => omega
  rintro v L' ⟨⟨a11, c11, rfl⟩, rfl⟩; rw [Nat.zero_add, List.nil_append]
  refine .oq (.buildSlice1 (vs := [_]) el_23 ze_9 rfl rfl rfl rfl rfl (by decide)) ?_
  rintro v L' ⟨b11s, rfl, rfl⟩
  refine .oq (.shapedS (k := ids.length + 1) ?hk57 (.append1 rfl rfl rfl el_23 ze_9 rfl rfl ?h158 ?h259 (Nat.le_refl _) ?h360 (by decide))) ?_
  case hk57 => omega
  case h158 => (first | (simp [isCell]; done) | (simp [isCell, setAll, Value.cells]; done))
  case h259 => rfl
  case h360 => omega
  rintro v L' ⟨bn, cn, hcn, rfl, rfl⟩
  refine .m rfl (.q (.slen rfl Tryz.underlying23 rfl) rfl (.q (.to (v' := .slice (some ⟨bn, 0, none⟩) ids.length cn) (.slTo rfl el_23 rfl (by omega) (.inr ⟨_, _, rfl⟩)) (by simp)) rfl (.a rfl (.nil (.slCast (T := 9) (sz := 1) (m' := ids.length + 1) (xs' := strs ids ++ [vstr [115, 112, 97, 114, 101]]) (by repeat' constructor) (by exact rfl) (by exact rfl) (.fold (p := (sep [lentS12 (.slice as1 ns1 cs1) subs, q])) (q := [lentS12 (.slice as1 ns1 cs1) subs, q]) (by repeat' constructor) (fun _ h => h) (.fold (p := (sep [lentA12 (.slice aa1 na1 ca1) r.acl, (sep [lentS12 (.slice as1 ns1 cs1) subs, q])])) (q := [lentA12 (.slice aa1 na1 ca1) r.acl, (sep [lentS12 (.slice as1 ns1 cs1) subs, q])]) (by repeat' constructor) (fun _ h => h) (.fold (p := (sep [slR 9 1 (.slice (some ⟨bn, 0, none⟩) (ids.length + 1) cn) (ids.length + 1) (strs ids ++ [vstr [115, 112, 97, 114, 101]]), (sep [lentA12 (.slice aa1 na1 ca1) r.acl, (sep [lentS12 (.slice as1 ns1 cs1) subs, q])])])) (q := [slR 9 1 (.slice (some ⟨bn, 0, none⟩) (ids.length + 1) cn) (ids.length + 1) (strs ids ++ [vstr [115, 112, 97, 114, 101]]), (sep [lentA12 (.slice aa1 na1 ca1) r.acl, (sep [lentS12 (.slice as1 ns1 cs1) subs, q])])]) (by repeat' constructor) (fun _ h => h) ?_))))))))
  have hup : WiD (sep [slR 9 1 (.slice (some ⟨bn, 0, none⟩) (ids.length + 1) cn) (ids.length + 1) (strs ids ++ [vstr [115, 112, 97, 114, 101]]), (sep [lentA12 (.slice aa1 na1 ca1) r.acl, (sep [lentS12 (.slice as1 ns1 cs1) subs, q])])]) (⟨s, ids⟩ : Who) (.slice ai ids.length ci) r subs := ((hD.up (a := lentS12 (.slice as1 ns1 cs1) subs)).up (a := lentA12 (.slice aa1 na1 ca1) r.acl)).up (a := slR 9 1 (.slice (some ⟨bn, 0, none⟩) (ids.length + 1) cn) (ids.length + 1) (strs ids ++ [vstr [115, 112, 97, 114, 101]]))
  have hDo : WiD (sep [slR 9 1 (.slice (some ⟨bn, 0, none⟩) (ids.length + 1) cn) (ids.length + 1) (strs ids ++ [vstr [115, 112, 97, 114, 101]]), (sep [lentA12 (.slice aa1 na1 ca1) r.acl, (sep [lentS12 (.slice as1 ns1 cs1) subs, q])])]) (⟨s, ids⟩ : Who) (.slice (some ⟨bn, 0, none⟩) ids.length cn) (ownQ r (.slice aa1 na1 ca1) (.slice as1 ns1 cs1)) subs := hD.own hup (rd_tail (rd_head fun _ hp => lentA12_rd hp)) (rd_tail (rd_tail (rd_head fun _ hp => lentS12_rd hp))) (rd_head fun _ hp => rd_cutB (by rw [strs_len, Nat.mul_one]) (slR_rd hp)) ⟨_, _, _, rfl⟩ ⟨_, _, _, rfl⟩ ⟨_, _, _, rfl⟩
  refine .then_n (.sm rfl (.m rfl (.m rfl (.q (.la (rqC (ownQ r (.slice aa1 na1 ca1) (.slice as1 ns1 cs1))) rfl ag_28) rfl (.oq (.c Tryz.func14 [_, _, _, _] (ptxnA_spec t (appL newT es) (⟨s, ids⟩ : Who) (.slice (some ⟨bn, 0, none⟩) ids.length cn) (ownQ r (.slice aa1 na1 ca1) (.slice as1 ns1 cs1)) (sep [slR 9 1 (.slice (some ⟨bn, 0, none⟩) (ids.length + 1) cn) (ids.length + 1) (strs ids ++ [vstr [115, 112, 97, 114, 101]]), (sep [lentA12 (.slice aa1 na1 ca1) r.acl, (sep [lentS12 (.slice as1 ns1 cs1) subs, q])])]) hDo.w 524288 hok (by decide) hw (by decide) subs hDo.rd hDo.each hDo.acls (by decide))) ?_)))))
  rintro v L' ⟨y12, ys12, rfl, hy12, hys12, ⟨hc12, as12, cs12, hsub12⟩, hyk12, rfl⟩
  refine .oq (.allocA ze_43) ?_
  rintro v L' ⟨b17, rfl, rfl⟩
  refine .sa rfl rfl sz_43 (by exact pt_cells hc12 (by rw [hsub12]; rfl)) ?_
  refine .nil (.pc b17 (ptC y12) ?_)
  refine .fold (p := entR (⟨0, 0, 0, y12, ys12⟩ : En)) (q := [aclR y12, slR 43 8 y12.subsV ys12.length (ys12.flatMap ptC), bigR aclR ys12]) (by repeat' constructor) (fun _ h => h) ?_
  have hL12 := txn_L hok (by decide) hDo hy12 hys12 ⟨hc12, as12, cs12, hsub12⟩ hyk12
  have hto : txnP (appL newT es) (⟨s, ids⟩ : Who) (ownQ r (.slice aa1 na1 ca1) (.slice as1 ns1 cs1)) subs = txnP (appL newT es) (⟨s, ids⟩ : Who) r subs := rfl
  have hsm : enB (⟨0, 0, 0, y12, ys12⟩ : En) = enB (⟨0, 0, 0, y5, ys5⟩ : En) := same_pl (hy12.trans ((congrArg Prod.fst hto).trans hy5.symm)) (hys12.trans ((congrArg Prod.snd hto).trans hys5.symm))
  refine .focus (p := (sep [slR 9 1 (.slice (some ⟨bn, 0, none⟩) (ids.length + 1) cn) (ids.length + 1) (strs ids ++ [vstr [115, 112, 97, 114, 101]]), (sep [lentA12 (.slice aa1 na1 ca1) r.acl, (sep [lentS12 (.slice as1 ns1 cs1) subs, q])])])) (by repeat' constructor) (.unfold (q := [slR 9 1 (.slice (some ⟨bn, 0, none⟩) (ids.length + 1) cn) (ids.length + 1) (strs ids ++ [vstr [115, 112, 97, 114, 101]]), (sep [lentA12 (.slice aa1 na1 ca1) r.acl, (sep [lentS12 (.slice as1 ns1 cs1) subs, q])])]) (fun _ h => h) (.focus (p := (sep [lentA12 (.slice aa1 na1 ca1) r.acl, (sep [lentS12 (.slice as1 ns1 cs1) subs, q])])) (by repeat' constructor) (.unfold (q := [lentA12 (.slice aa1 na1 ca1) r.acl, (sep [lentS12 (.slice as1 ns1 cs1) subs, q])]) (fun _ h => h) (.focus (p := (sep [lentS12 (.slice as1 ns1 cs1) subs, q])) (by repeat' constructor) (.unfold (q := [lentS12 (.slice as1 ns1 cs1) subs, q]) (fun _ h => h) (.then_n (.sr (.q (.la (rqC (ownQ r (.slice aa1 na1 ca1) (.slice as1 ns1 cs1))) rfl ag_28) rfl ?_))))))))
  refine .q (.la (rqC r) rfl ag_28) rfl (.cv Tryz.func18 [_, _] (kept12_spec r (.slice aa1 na1 ca1) (.slice as1 ns1 cs1) subs arm q hR) ?_)
  refine .an rfl (.sr (.q (.la (ptC y12) rfl ag_43) rfl (.q (.la (ptC y5) rfl ag_43) rfl (.oq (.c Tryz.func15 [_, _] (psame_spec y12 y5 ys12 ys5 _ _ hL12 hL5)) ?_))))
  rintro v L' ⟨rfl, rfl⟩; rw [decide_eq_true hsm]
  refine .a rfl (.nil (.focus (p := entR (⟨0, 0, 0, y12, ys12⟩ : En)) (by repeat' constructor) (.unfold (q := [aclR y12, slR 43 8 y12.subsV ys12.length (ys12.flatMap ptC), bigR aclR ys12]) (fun _ h => h) (.then_n (.seq (.sm rfl (.u (.not rfl) (.m rfl (.grun (t := 68) rfl rfl rfl (.m rfl (.grun (t := 68) rfl rfl rfl (.u (.not rfl) (.u (.pickF rfl rfl) (.m rfl (.grun (t := 72) rfl rfl rfl (.m rfl (.grun (t := 72) rfl rfl rfl (.m rfl (.grun (t := 72) rfl rfl rfl (.q (.slen rfl Tryz.underlying23 rfl) rfl (.grun (t := 72) rfl rfl rfl (.q (.add rfl rfl (by omega)) rfl (.grun (t := 72) rfl rfl rfl (.q (.to (v' := .slice (some ⟨bn, 0, none⟩) (ids.length + 1) cn) (.slTo rfl el_23 rfl (by omega) (.inr ⟨_, _, rfl⟩)) (by simp)) rfl (.grun (t := 72) rfl rfl rfl (.m rfl (.grun (t := 72) rfl rfl rfl (.q (.slen rfl Tryz.underlying23 rfl) rfl (.grun (t := 72) rfl rfl rfl ?_)))))))))))))))))))))))))))))
  refine .q (.indexAddr rfl rfl el_23 (by omega)) rfl (.grun (t := 72) rfl rfl rfl (.q (.loadRd (sz := 1) (j := ids.length * 1) (p := slR 9 1 (.slice (some ⟨bn, 0, none⟩) (ids.length + 1) cn) (ids.length + 1) (strs ids ++ [vstr [115, 112, 97, 114, 101]])) (v := vstr [115, 112, 97, 114, 101]) rfl ag_9 (by repeat' constructor) (fun h hp => slR_rd hp) (by omega) (by rw [Nat.mul_one, List.getElem?_append_right (by rw [strs_len]; omega), strs_len, Nat.sub_self]; rfl)) rfl ?_))
  refine .grun (t := 72) rfl rfl rfl (.q (.as (v' := .bool false) (by rfl) (.strne rfl rfl)) rfl (.u (.pickF rfl rfl) (.nt (.condF rfl (.sk (.region (.q (.la (ptC y12) rfl ag_43) rfl (.cv Tryz.func19 [_] (over12_spec y12 ys12 ⟨hc12, as12, cs12, hsub12⟩ hL12.few.2.1 hL12.few.1 hL12.few.2.2) ?_))))))))
  refine .nil (.blk_n (.then_n (.region (.m rfl (.q (.add rfl rfl (by omega)) rfl (.an rfl ?_))))))
  exact .rk (i + 1) (by omega) (by omega) ⟨rfl, rfl, rfl, rfl, rfl, rfl, rfl, rfl, trivial⟩
 refine .exit (.then_e (.then_e (.blk_e (.then_n (.sm rfl (.m rfl (.cv Tryz.func20 [_, _] (alike7_spec t x (appL newT es) 524288 hok (by decide) hsb) ?_)))))))
 refine .an rfl (.seq (.draw [4] [[0, 1, 2, 3, 4], [5, 6, 7, 8, 9, 10, 11, 12, 13, 14, 15]] mixed (by kernel_rfl) (.g0 (.mv rfl rfl (.mv rfl rfl (.gv rfl (.la (ptC (refusal 1 (-1))) rfl ag_43) (.gv rfl (.to (v' := .agg (ptC (refusal 1 (-1))).toArray) (.build (us := [(0, _), (6, _), (5, _)]) fl_43 ze_43 rfl rfl (by simp [isCell])) rfl) (.gh (t := 90) rfl rfl rfl (by kernel_rfl) (.c Tryz.func15 [_, _] (psame_spec (refusal 1 (-1)) (refusal 1 (-1)) [] [] nilP nilP ref_L ref_L)) (by repeat' constructor) ?_))))))))
 rintro v L' ⟨rfl, rfl⟩; rw [decide_eq_true rfl]
 refine D.ph (.go [ptc b7 _ _, ptc b13 _ _] (by repeat' constructor) (.kv rfl (.pickT rfl rfl) (.mv rfl rfl (.gv rfl (.fieldAddr rfl fo_28_0) (.gv rfl (.ld rfl ag_3) (.gm (t := 95) rfl rfl rfl (by kernel_rfl) (.c Tryz.func21 [_] (pchanges_spec r.kind)) (by repeat' constructor) ?_))))))
 refine D.gv rfl (.fieldAddr rfl fo_28_0) (.gv rfl (.ld rfl ag_3) (.gm (t := 95) rfl rfl rfl (by kernel_rfl) (.c Tryz.func22 [_] (r12changes_spec r.kind)) (by repeat' constructor) ?_))
 refine D.gv rfl (.as (v' := .bool true) (by simp) (.booleq rfl rfl Tryz.underlying4)) (.kv rfl (.pickT rfl rfl) (.kv rfl (.assign rfl) (.pf (.ret ?_))))
 exact .vv
open Go Go.ChangeShapes Go.WideShapes Go.ChangeAt Go.RowKit
section
variable {H : Type} {enc : TypeId × Value → H} {P : Program} {W W' : World}
theorem trodAll_old (hl : laidOutB P = true) (hb : Below W.heap.size W W') (sp : Nat → Bool) : ∀ (ts : List TypeId) (vs : List Value) (ds : List (DataW H)) (p : List MemPlace), (∀ t ∈ ts, P.readableRec t = true ∧ t < P.types.size) →
  DataW.TrodAll enc P W 0 (fun _ => true) true ts vs ds p → (∀ x ∈ p, x.block < W.heap.size) → (∀ x ∈ p, sp x.block = true) → DataW.TrodAll enc P W' 0 sp true ts vs ds p
 | [], vs, ds, p, _, h, _, _ => by
  obtain ⟨rfl, rfl, rfl⟩ := trodAll_nil h
  exact h
 | t :: ts, vs, ds, p, hr, h, hlt, hsp => by
  obtain ⟨v, vs1, d, ds1, a, b, rfl, rfl, rfl, h1, h2⟩ := trodAll_cons h
  have r := hr t (by simp)
  refine ⟨a, b, WideElems.Trod_stays hl r.1 r.2 h1 (fun x hx => hb.same (hlt x (by simp [hx]))) (fun x hx => hsp x (by simp [hx])), ?_, rfl⟩
  exact trodAll_old hl hb sp ts vs1 ds1 b (fun t ht => hr t (by simp [ht])) h2 (fun x hx => hlt x (by simp [hx])) (fun x hx => hsp x (by simp [hx]))
theorem settled {fn : Func} {s : ChangeSpec} {apart fresh handsOn again : Bool} {args : Array Value} {ds gs : List (DataW H)} {before : List MemPlace} {tb : TypeId}
  (hW : DataW.Whole enc P fn.params.toList s.vars apart W args.toList ds gs before) (hvars : s.vars = []) (hspec : ∀ gs', gs' = [] → s.fn H (ds ++ gs') = { results := [.lit (.bool true)], args := ds })
  (hres : fn.resultTypes = #[tb]) (htb : P.underlying tb = some .bool) (hl : laidOutB P = true) (hr : ∀ t ∈ fn.params.toList, P.readableRec t = true ∧ t < P.types.size) (hb : Below W.heap.size W W') :
  s.post enc P fn apart fresh handsOn again W args (.bool true) W' := by
 have hW' := hW
 have hlt := hW.lt
 obtain ⟨p, q, hA, hV, rfl, hfz, hnd⟩ := hW
 rw [hvars] at hV
 obtain ⟨rfl, rfl⟩ := trodVars_none hV
 have hs := hspec [] rfl
 have hargs : ∀ sp : Nat → Bool, (∀ x ∈ p, sp x.block = true) → DataW.TrodAll enc P W' 0 sp true fn.params.toList args.toList ds p := fun sp hsp =>
  trodAll_old hl hb sp _ _ _ _ hr hA (fun x hx => hlt x (by simp [hx])) hsp
 have hbool : ∀ (b : Nat) (sp : Nat → Bool) (hd : Bool), DataW.TrodAll enc P W' b sp hd fn.resultTypes.toList ((Value.bool true).resultList fn.resultTypes.size) [.lit (.bool true)] [] := by
  intro b sp hd
  rw [hres]
  exact trodAll_cons_mk (shut_bool htb _) trodAll_mk0
 refine ⟨ds, [], p ++ [], [], p, [], hW', ?_, ?_, ?_, hb.frame _, fun _ => ⟨ok_one hres rfl (okWide_bool_mk htb _), [.lit (.bool true)] ++ ds, [], p, ⟨p, [], ?_, ?_, by simp, ?_, ?_⟩, ?_⟩⟩
 ·rw [hs]; exact hbool _ _ _
 ·rw [hs]; exact hargs _ (fun x hx => by simpa using hlt x (by simp [hx]))
 ·rw [hs, hvars]; exact hV
 ·exact trodAll_append (hargs _ (fun _ _ => rfl)) (hbool _ _ _)
 ·rw [hvars]; exact hV
 ·intro b off hp
  rw [hb.frozen (p := ⟨b, off, none⟩) (hlt (.cell b off) (by simp [hp]))]
  exact hfz b off (by simp [hp])
 ·intro ha
  have := hnd ha
  simpa using this
 ·intro x hx _
  simp [hx]
theorem old_calls {f : FuncId} {args : Array Value} (h : Fn P f args [Old W] fun v L => v = .bool true ∧ L = [Old W]) :
  Calls P f args W fun e W' => e = .returned (.bool true) ∧ Below W.heap.size W W' := by
 have h0 : St [Old W] W := ⟨fun b => W.heap[b]?, fun _ => none, fun _ => .inr rfl, fun b o h => h, fun b o h => (by cases h), fun b hb => rfl, trivial⟩
 refine (h [] W h0).mono ?_
 rintro e W' ⟨v, L, ⟨rfl, rfl⟩, rfl, hs, hk⟩
 refine ⟨rfl, hk.os, hk.tape, hk.output, hk.size, fun k hk' => ?_⟩
 obtain ⟨h1, a1, hp⟩ := sep_head hs
 have e1 := hp k hk'
 have : ∃ o, W.heap[k]? = some o := ⟨_, Array.getElem?_eq_getElem hk'⟩
 obtain ⟨o, ho⟩ := this
 rw [ho] at e1 ⊢
 exact a1 _ _ e1
theorem old_rd {a : Addr} {len cap : Nat} {V : Nat → Value} (hc : ∀ i, i < len → W.cell? (a.add i) = some (V i)) (hle : len ≤ cap) : ∀ h : Hp, Old W h → rdS 1 h (.slice (some a) len cap) len ((List.range len).map V) := by
 intro h hold
 rcases Nat.eq_zero_or_pos len with rfl | hpos
 ·exact .inl ⟨rfl, rfl, some a, cap, rfl⟩
 ·obtain ⟨b, off, spot⟩ := a
  have h0 := hc 0 hpos
  have e0 : (⟨b, off, spot⟩ : Addr).add 0 = ⟨b, off, spot⟩ := by simp [Addr.add]
  rw [e0] at h0
  simp only [World.cell?] at h0
  rcases hw : W.heap[b]? with _ | o
  ·rw [hw] at h0; cases h0
  ·cases o with
   | cells c T fr =>
    rw [hw] at h0
    dsimp only at h0
    split at h0
    ·cases h0
    ·rename_i hsp
     have hspot : spot = none := by simpa using hsp
     subst hspot
     have hc' : ∀ i, i < len → c[off + i]? = some (V i) := by
      intro i hi
      have := hc i hi
      have e1 : (⟨b, off, none⟩ : Addr).add i = ⟨b, off + i, none⟩ := by
       simp only [Addr.add]; split
       ·rename_i h0; simp [h0]
       ·rfl
      rw [e1] at this
      simp only [World.cell?, hw] at this
      simpa using this
     have hlt : b < W.heap.size := by
      rcases Nat.lt_or_ge b W.heap.size with h' | h'
      ·exact h'
      ·rw [Array.getElem?_eq_none h'] at hw; cases hw
     have hlen : off + len ≤ c.size := by
      have := hc' (len - 1) (by omega)
      rcases Nat.lt_or_ge (off + (len - 1)) c.size with h' | h'
      ·omega
      ·rw [Array.getElem?_eq_none h'] at this; cases this
     refine .inr ⟨b, off, cap, c.toList, T, fr, rfl, by rw [hold b hlt, hw], ?_, by simpa using hlen, hle⟩
     apply List.ext_getElem?
     intro i
     rw [Nat.mul_one, List.getElem?_take, List.getElem?_map, List.getElem?_drop]
     split
     ·rename_i hi
      rw [List.getElem?_range hi]
      simpa using hc' i hi
     ·rename_i hi
      rw [List.getElem?_eq_none (by simpa using hi)]; rfl
   | _ => rw [hw] at h0; cases h0
theorem arg_int {t : TypeId} {r : Reach} {b0 : Nat} {v : Value} {d : DataW H} {ps : List MemPlace} (ht : P.underlying t = some (.int .i64)) (hval : Value.okWide P W r b0 t v)
  (h : DataW.Trod enc P W 0 (fun _ => true) true t v d ps) : ∃ n : Int, v = vint n ∧ d = .lit (.int .i64 n) ∧ -9223372036854775808 ≤ n ∧ n ≤ 9223372036854775807 := by
 obtain ⟨n, rfl, rfl, rfl, hwf⟩ := open_int ht hval h
 exact ⟨n, rfl, rfl, bounds_i64 hwf⟩
end
open Go Go.ChangeShapes Go.WideShapes Go.ChangeAt Go.RowKit
section
variable {H : Type} {enc : TypeId × Value → H} {P : Program} {W : World}
theorem string_vstr (s : ByteArray) : Value.string s = vstr s.data.toList := by cases s; rfl
end
open Go Go.ChangeShapes Go.WideShapes Go.ChangeAt Go.RowKit
section
variable {H : Type} {enc : TypeId × Value → H} {P : Program} {W : World}
theorem flat_at {α : Type} {sz : Nat} (f : Nat → List α) : ∀ n, (∀ i, i < n → (f i).length = sz) → ∀ j, j < n * sz → ((List.range n).flatMap f)[j]? = (f (j / sz))[j % sz]? ∧ ((List.range n).flatMap f).length = n * sz := by
 intro n
 induction n with
 | zero => intro _ j hj; omega
 | succ n ih =>
  intro hf j hj
  have hn := hf n (by omega)
  have hlen : ((List.range n).flatMap f).length = n * sz := by
   rcases Nat.eq_zero_or_pos (n * sz) with h0 | h0
   ·rcases Nat.eq_zero_or_pos n with h1 | h1
    ·subst h1; simp
    ·have : sz = 0 := by
      rcases Nat.eq_zero_or_pos sz with h2 | h2
      ·exact h2
      ·have := Nat.mul_pos h1 h2; omega
     subst this; omega
   ·exact (ih (fun i hi => hf i (by omega)) 0 h0).2
  have e : (List.range (n + 1)).flatMap f = (List.range n).flatMap f ++ f n := by simp [List.range_succ]
  have hm : (n + 1) * sz = n * sz + sz := by rw [Nat.add_mul, Nat.one_mul]
  rw [e]
  refine ⟨?_, by rw [List.length_append, hlen, hn, hm]⟩
  rcases Nat.lt_or_ge j (n * sz) with h | h
  ·rw [List.getElem?_append_left (by omega)]
   exact (ih (fun i hi => hf i (by omega)) j h).1
  ·rw [List.getElem?_append_right (by omega), hlen]
   have hs : 0 < sz := by omega
   have h1 : j / sz = n := by
    have : j < (n + 1) * sz := hj
    have a := Nat.div_lt_of_lt_mul (show j < sz * (n + 1) by rw [Nat.mul_comm]; exact this)
    have b := (Nat.le_div_iff_mul_le hs).2 h
    omega
   have h2 : j % sz = j - n * sz := by
    have := Nat.div_add_mod j sz
    rw [h1, Nat.mul_comm] at this; omega
   rw [h1, h2]
theorem rdS_regroup {sz n c c1 : Nat} {a : Option Addr} {ys : List Value} {h : Hp} (hr : rdS 1 h (.slice a (n * sz) c1) (n * sz) ys) (hc : n ≤ c) (hs : 0 < sz) : rdS sz h (.slice a n c) n ys := by
 rcases hr with ⟨h1, h2, -⟩ | ⟨b, off, cap, l, T, fr, hv, hb, h1, h2, h3⟩
 ·have : n = 0 := by
   rcases Nat.eq_zero_or_pos n with h0 | h0
   ·exact h0
   ·have := Nat.mul_pos h0 hs; omega
  subst this
  exact .inl ⟨rfl, h2, a, c, rfl⟩
 ·simp only [Value.slice.injEq] at hv
  obtain ⟨rfl, -, -⟩ := hv
  exact .inr ⟨b, off, c, l, T, fr, rfl, hb, by rw [← h1, Nat.mul_one], by rw [Nat.mul_one] at h2; exact h2, hc⟩
abbrev Reads (enc : TypeId × Value → H) (P : Program) (W : World) (fuel : Nat) (t : TypeId) (cs : List Value) (x : DataW H × List MemPlace) : Prop := DataW.trod enc P W 0 (fun _ => true) true fuel t cs = some x
theorem dec_int {t : TypeId} {fuel : Nat} {cs : List Value} {x : DataW H × List MemPlace} (ht : P.underlying t = some (.int .i64)) (h : Reads enc P W fuel t cs x) : ∃ n : Int, cs = [vint n] ∧ -9223372036854775808 ≤ n ∧ n ≤ 9223372036854775807 := by
 obtain ⟨n, rfl, -, hwf⟩ := DataW.trod_int ht h
 exact ⟨n, rfl, bounds_i64 hwf⟩
theorem dec_bool {t : TypeId} {fuel : Nat} {cs : List Value} {x : DataW H × List MemPlace} (ht : P.underlying t = some .bool) (h : Reads enc P W fuel t cs x) : ∃ b : Bool, cs = [.bool b] := by
 obtain ⟨b, rfl, -⟩ := DataW.trod_bool ht h
 exact ⟨b, rfl⟩
end
open Go Go.ChangeShapes Go.WideShapes Go.ChangeAt Go.RowKit
theorem bulk_pos {H : Type} (d : DataW H) : 1 ≤ Rows.uptoBulk d := by
 cases d with
 | lit l => cases l <;> simp [Rows.uptoBulk]
 | _ => simp [Rows.uptoBulk]
theorem bulk_part {H : Type} {d : DataW H} : ∀ {l : List (DataW H)}, d ∈ l → Rows.uptoBulk d ≤ Rows.uptoBulkAll l
 | x :: l, h => by
  unfold Rows.uptoBulkAll
  rcases List.mem_cons.1 h with rfl | h
  ·omega
  ·have := bulk_part h; omega
theorem bulk_count {H : Type} : ∀ l : List (DataW H), l.length ≤ Rows.uptoBulkAll l
 | [] => by simp
 | x :: l => by
  have h1 := bulk_pos x
  have h2 := bulk_count l
  unfold Rows.uptoBulkAll
  rw [List.length_cons]; omega
theorem bulk_sum {H : Type} : ∀ l : List (DataW H), (l.map Rows.uptoBulk).sum ≤ Rows.uptoBulkAll l
 | [] => by simp
 | x :: l => by
  have h2 := bulk_sum l
  unfold Rows.uptoBulkAll
  rw [List.map_cons, List.sum_cons]; omega
theorem bulk_small {H : Type} {l : List (DataW H)} (h : Rows.uptoSmall H l = true) {d : DataW H} (hd : d ∈ l) : Rows.uptoBulk d ≤ 1048576 :=
 Nat.le_trans (bulk_part hd) (of_decide_eq_true h)
instance : Inhabited Value := ⟨.bool false⟩
section
variable {H : Type} {enc : TypeId × Value → H} {P : Program} {W : World} {N : Nat}
theorem dec_int' {t : TypeId} {fuel : Nat} {cs : List Value} {x : DataW H × List MemPlace} (ht : P.underlying t = some (.int .i64)) (h : Reads enc P W fuel t cs x) : ∃ n : Int, cs = [vint n] ∧ (-9223372036854775808 ≤ n ∧ n ≤ 9223372036854775807) := by
 obtain ⟨n, h1, h2⟩ := dec_int ht h; exact ⟨n, h1, h2⟩
theorem slice_cell {t e : TypeId} {fuel : Nat} {v : Value} {x : DataW H × List MemPlace} (ht : P.underlying t = some (.slice e)) (h : Reads enc P W fuel t [v] x) : isCell v = true := by
 rcases Go.Deep.open_slice ht h with ⟨hv, -⟩ | ⟨a, len, cap, m, n, Dd, Pl, hv, -⟩
 ·rw [List.cons.injEq] at hv; rw [hv.1]; rfl
 ·rw [List.cons.injEq] at hv; rw [hv.1]; rfl
theorem dec_sliceV {Z : Type} [Inhabited Z] (toC : Z → List Value) (Q : Z → Prop) {t e : TypeId} {sz : Nat} {fuel : Nat} {cs : List Value} {x : DataW H × List MemPlace} (ht : P.underlying t = some (.slice e)) (hc : P.cellsOf e = sz) (hs : 0 < sz)
  (hdec : ∀ (n : Nat) (cs : List Value) (y : DataW H × List MemPlace), Reads enc P W n e cs y → Rows.uptoBulk y.1 ≤ N → ∃ z, cs = toC z ∧ Q z) (h : Reads enc P W fuel t cs x) (hb : Rows.uptoBulk x.1 ≤ N + 1) :
  ∃ z : Value × List Z, cs = [z.1] ∧ (∀ h : Hp, Old W h → rdS sz h z.1 z.2.length (z.2.flatMap toC)) ∧ z.2.length ≤ N ∧ ∀ y ∈ z.2, Q y := by
 subst hc
 rcases Go.Deep.open_slice ht h with ⟨rfl, rfl⟩ | ⟨a, len, cap, m, n, Dd, Pl, rfl, -, hl, hm, hmm, rfl, hx⟩
 ·exact ⟨(_, []), rfl, fun h _ => .inl ⟨rfl, rfl, none, 0, rfl⟩, by simp, by simp⟩
 ·simp only [if_true] at hmm
  subst hmm
  have hbl : len ≤ N := by
   have := bulk_count ((List.range len).map Dd)
   simp only [Rows.uptoBulk] at hb
   rw [List.length_map, List.length_range] at this
   omega
  have hbe : ∀ i, i < len → Rows.uptoBulk (Dd i) ≤ N := fun i hi => by
   have := bulk_part (d := Dd i) (l := (List.range len).map Dd) (List.mem_map_of_mem (by simpa using hi))
   simp only [Rows.uptoBulk] at hb
   omega
  obtain ⟨Zf, hZ⟩ := Go.Deep.choose_lt (α := Z) (p := fun i z => W.cells? 0 (a.add (i * P.cellsOf e)) (P.cellsOf e) = some (toC z) ∧ Q z) (n := len) (fun i hi => by
   obtain ⟨cs', h1, h2⟩ := hx i (by omega)
   obtain ⟨z, rfl, h3⟩ := hdec _ _ _ h2 (hbe i hi)
   exact ⟨z, h1, h3⟩)
  have hlenf : ∀ i, i < len → (toC (Zf i)).length = P.cellsOf e := fun i hi => (World.cells?_some (hZ i hi).1).2.1
  have hflat := flat_at (fun i => toC (Zf i)) len hlenf
  refine ⟨(_, (List.range len).map Zf), rfl, ?_, ?_, ?_⟩
  ·intro h hold
   dsimp only
   rw [List.length_map, List.length_range]
   refine rdS_regroup (c1 := len * P.cellsOf e) ?_ hl hs
   have e1 : ((List.range len).map Zf).flatMap toC = (List.range (len * P.cellsOf e)).map (fun j => ((List.range len).flatMap fun i => toC (Zf i)).getD j (.bool false)) := by
    rw [List.flatMap_map]
    apply List.ext_getElem?
    intro j
    rcases Nat.lt_or_ge j (len * P.cellsOf e) with hj | hj
    ·rw [List.getElem?_map, List.getElem?_range hj]
     have := (hflat j hj).2
     have hjl : j < ((List.range len).flatMap fun i => toC (Zf i)).length := by omega
     simp only [Option.map_some, List.getD_eq_getElem?_getD, List.getElem?_eq_getElem hjl, Option.getD_some]
    ·have : ((List.range len).flatMap fun i => toC (Zf i)).length = len * P.cellsOf e := by
      rcases Nat.eq_zero_or_pos (len * P.cellsOf e) with h0 | h0
      ·have : len = 0 := by
        rcases Nat.eq_zero_or_pos len with h1 | h1
        ·exact h1
        ·have := Nat.mul_pos h1 hs; omega
       subst this; simp
      ·exact (hflat 0 h0).2
     rw [List.getElem?_eq_none (by omega), List.getElem?_eq_none (by simpa using hj)]
   rw [e1]
   refine old_rd (W := W) (fun j hj => ?_) (Nat.le_refl _) h hold
   have hi : j / P.cellsOf e < len := Nat.div_lt_of_lt_mul (by rw [Nat.mul_comm]; exact hj)
   have hcell := (World.cells?_some (hZ (j / P.cellsOf e) hi).1).2.2 (j % P.cellsOf e) (Nat.mod_lt _ hs)
   rw [Addr.add_add, Nat.mul_comm, Nat.div_add_mod] at hcell
   rw [hcell]
   obtain ⟨f1, f2⟩ := hflat j hj
   rw [List.getD_eq_getElem?_getD, f1]
   have : j % P.cellsOf e < (toC (Zf (j / P.cellsOf e))).length := by rw [hlenf _ hi]; exact Nat.mod_lt _ hs
   simp [this]
  ·dsimp only; rw [List.length_map, List.length_range]; exact hbl
  ·intro z hz
   obtain ⟨i, hi, rfl⟩ := List.mem_map.1 hz
   exact (hZ i (by simpa using hi)).2
theorem dec_sliceQV {Z : Type} [Inhabited Z] (toC : Z → List Value) (Q : Nat → Z → Prop) {t e : TypeId} {sz : Nat} {fuel : Nat} {cs : List Value} {x : DataW H × List MemPlace} (ht : P.underlying t = some (.slice e)) (hc : P.cellsOf e = sz) (hs : 0 < sz)
  (hdec : ∀ (n : Nat) (cs : List Value) (y : DataW H × List MemPlace), Reads enc P W n e cs y → ∃ z, cs = toC z ∧ Q (Rows.uptoBulk y.1) z) (h : Reads enc P W fuel t cs x) (hb : Rows.uptoBulk x.1 ≤ N + 1) :
  ∃ (z : Value × List Z) (ws : List Nat), cs = [z.1] ∧ (∀ h : Hp, Old W h → rdS sz h z.1 z.2.length (z.2.flatMap toC)) ∧ z.2.length ≤ N ∧ ws.length = z.2.length ∧ ws.sum ≤ N ∧ (∀ w ∈ ws, 1 ≤ w) ∧ ∀ i (h1 : i < z.2.length) (h2 : i < ws.length), Q ws[i] z.2[i] := by
 subst hc
 rcases Go.Deep.open_slice ht h with ⟨rfl, rfl⟩ | ⟨a, len, cap, m, n, Dd, Pl, rfl, -, hl, hm, hmm, rfl, hx⟩
 ·exact ⟨(_, []), [], rfl, fun h _ => .inl ⟨rfl, rfl, none, 0, rfl⟩, by simp, rfl, by simp, (fun _ h => by cases h), (fun i h1 _ => by simp at h1)⟩
 ·simp only [if_true] at hmm
  subst hmm
  have hbl : len ≤ N := by
   have := bulk_count ((List.range len).map Dd)
   simp only [Rows.uptoBulk] at hb
   rw [List.length_map, List.length_range] at this
   omega
  have hall : ((List.range len).map fun i => Rows.uptoBulk (Dd i)).sum ≤ N := by
   have := bulk_sum ((List.range len).map Dd)
   rw [List.map_map] at this
   simp only [Rows.uptoBulk] at hb
   have e : ((List.range len).map fun i => Rows.uptoBulk (Dd i)) = (List.range len).map (Rows.uptoBulk ∘ Dd) := rfl
   rw [e]; omega
  obtain ⟨Zf, hZ⟩ := Go.Deep.choose_lt (α := Z) (p := fun i z => W.cells? 0 (a.add (i * P.cellsOf e)) (P.cellsOf e) = some (toC z) ∧ Q (Rows.uptoBulk (Dd i)) z) (n := len) (fun i hi => by
   obtain ⟨cs', h1, h2⟩ := hx i (by omega)
   obtain ⟨z, rfl, h3⟩ := hdec _ _ _ h2
   exact ⟨z, h1, h3⟩)
  have hlenf : ∀ i, i < len → (toC (Zf i)).length = P.cellsOf e := fun i hi => (World.cells?_some (hZ i hi).1).2.1
  have hflat := flat_at (fun i => toC (Zf i)) len hlenf
  refine ⟨(_, (List.range len).map Zf), (List.range len).map fun i => Rows.uptoBulk (Dd i), rfl, ?_, ?_, by simp, hall, ?_, ?_⟩
  ·intro h hold
   dsimp only
   rw [List.length_map, List.length_range]
   refine rdS_regroup (c1 := len * P.cellsOf e) ?_ hl hs
   have e1 : ((List.range len).map Zf).flatMap toC = (List.range (len * P.cellsOf e)).map (fun j => ((List.range len).flatMap fun i => toC (Zf i)).getD j (.bool false)) := by
    rw [List.flatMap_map]
    apply List.ext_getElem?
    intro j
    rcases Nat.lt_or_ge j (len * P.cellsOf e) with hj | hj
    ·rw [List.getElem?_map, List.getElem?_range hj]
     have := (hflat j hj).2
     have hjl : j < ((List.range len).flatMap fun i => toC (Zf i)).length := by omega
     simp only [Option.map_some, List.getD_eq_getElem?_getD, List.getElem?_eq_getElem hjl, Option.getD_some]
    ·have : ((List.range len).flatMap fun i => toC (Zf i)).length = len * P.cellsOf e := by
      rcases Nat.eq_zero_or_pos (len * P.cellsOf e) with h0 | h0
      ·have : len = 0 := by
        rcases Nat.eq_zero_or_pos len with h1 | h1
        ·exact h1
        ·have := Nat.mul_pos h1 hs; omega
       subst this; simp
      ·exact (hflat 0 h0).2
     rw [List.getElem?_eq_none (by omega), List.getElem?_eq_none (by simpa using hj)]
   rw [e1]
   refine old_rd (W := W) (fun j hj => ?_) (Nat.le_refl _) h hold
   have hi : j / P.cellsOf e < len := Nat.div_lt_of_lt_mul (by rw [Nat.mul_comm]; exact hj)
   have hcell := (World.cells?_some (hZ (j / P.cellsOf e) hi).1).2.2 (j % P.cellsOf e) (Nat.mod_lt _ hs)
   rw [Addr.add_add, Nat.mul_comm, Nat.div_add_mod] at hcell
   rw [hcell]
   obtain ⟨f1, f2⟩ := hflat j hj
   rw [List.getD_eq_getElem?_getD, f1]
   have : j % P.cellsOf e < (toC (Zf (j / P.cellsOf e))).length := by rw [hlenf _ hi]; exact Nat.mod_lt _ hs
   simp [this]
  ·dsimp only; rw [List.length_map, List.length_range]; exact hbl
  ·intro w hw
   obtain ⟨i, -, rfl⟩ := List.mem_map.1 hw
   exact bulk_pos _
  ·intro i h1 h2
   simp only [List.getElem_map, List.getElem_range]
   exact (hZ i (by simpa using h1)).2
/-! ### With weights: what is read weighs no more than its bulk -/
theorem dec_strW {t : TypeId} {fuel : Nat} {cs : List Value} {x : DataW H × List MemPlace} (ht : P.underlying t = some .string) (h : Reads enc P W fuel t cs x) : ∃ s : List UInt8, cs = [vstr s] ∧ s.length + 1 ≤ Rows.uptoBulk x.1 := by
 obtain ⟨s, rfl, rfl, -⟩ := DataW.trod_string ht h
 exact ⟨s.data.toList, by rw [string_vstr], by simp [Rows.uptoBulk]⟩
theorem dec_intW {t : TypeId} {fuel : Nat} {cs : List Value} {x : DataW H × List MemPlace} (ht : P.underlying t = some (.int .i64)) (h : Reads enc P W fuel t cs x) : ∃ n : Int, cs = [vint n] ∧ (-9223372036854775808 ≤ n ∧ n ≤ 9223372036854775807) ∧ 1 ≤ Rows.uptoBulk x.1 := by
 obtain ⟨n, h1, h2⟩ := dec_int' ht h; exact ⟨n, h1, h2, bulk_pos _⟩
theorem slice_shape {t e : TypeId} {fuel : Nat} {v : Value} {x : DataW H × List MemPlace} (ht : P.underlying t = some (.slice e)) (h : Reads enc P W fuel t [v] x) : ∃ a n c, v = .slice a n c := by
 rcases Go.Deep.open_slice ht h with ⟨hv, -⟩ | ⟨a, len, cap, m, n, Dd, Pl, hv, -⟩
 ·rw [List.cons.injEq] at hv; rw [hv.1]; exact ⟨_, _, _, rfl⟩
 ·rw [List.cons.injEq] at hv; rw [hv.1]; exact ⟨_, _, _, rfl⟩
theorem sum_le {Z : Type} {m : Z → Nat} : ∀ {l : List Z} {ws : List Nat}, ws.length = l.length → (∀ i (h1 : i < l.length) (h2 : i < ws.length), m l[i] ≤ ws[i]) → (l.map m).sum ≤ ws.sum
 | [], _, _, _ => by simp
 | z :: l, [], h, _ => by simp at h
 | z :: l, w :: ws, h, hq => by
  have h0 := hq 0 (by simp) (by simp)
  have h1 := sum_le (l := l) (ws := ws) (m := m) (by simpa using h) (fun i h1 h2 => hq (i + 1) (by simpa using h1) (by simpa using h2))
  rw [List.map_cons, List.sum_cons, List.sum_cons]
  have h0' : m z ≤ w := h0
  omega
theorem dec_sliceW {Z : Type} [Inhabited Z] (toC : Z → List Value) (Q : Z → Prop) (m : Z → Nat) {t e : TypeId} {sz : Nat} {fuel : Nat} {cs : List Value} {x : DataW H × List MemPlace} (ht : P.underlying t = some (.slice e)) (hc : P.cellsOf e = sz) (hs : 0 < sz)
  (hdec : ∀ (n : Nat) (cs : List Value) (y : DataW H × List MemPlace), Reads enc P W n e cs y → ∃ z, cs = toC z ∧ Q z ∧ m z ≤ Rows.uptoBulk y.1) (h : Reads enc P W fuel t cs x) :
  ∃ z : Value × List Z, cs = [z.1] ∧ (∀ h : Hp, Old W h → rdS sz h z.1 z.2.length (z.2.flatMap toC)) ∧ (∀ y ∈ z.2, Q y) ∧ z.2.length + 1 ≤ Rows.uptoBulk x.1 ∧ 1 + (z.2.map m).sum ≤ Rows.uptoBulk x.1 := by
 have hp := bulk_pos x.1
 obtain ⟨z, ws, h1, h2, h3, h4, h5, -, h7⟩ := dec_sliceQV (N := Rows.uptoBulk x.1 - 1) toC (fun B z => Q z ∧ m z ≤ B) ht hc hs hdec h (by omega)
 refine ⟨z, h1, h2, fun y hy => ?_, by omega, ?_⟩
 ·obtain ⟨i, hi, rfl⟩ := List.mem_iff_getElem.1 hy
  exact (h7 i hi (by omega)).1
 ·have := sum_le (m := m) h4 (fun i g1 g2 => (h7 i g1 g2).2)
  omega
theorem rd_shape {sz n : Nat} {v : Value} {ys : List Value} (hr : ∀ h : Hp, Old W h → rdS sz h v n ys) : ∃ a c, v = .slice a n c := by
 have h := hr (fun b => if b < W.heap.size then W.heap[b]? else none) (fun b hb => if_pos hb)
 rcases h with ⟨rfl, -, a, c, rfl⟩ | ⟨b, off, cap, l, T, fr, rfl, -⟩
 ·exact ⟨_, _, rfl⟩
 ·exact ⟨_, _, rfl⟩
end
open Go Go.ChangeShapes Go.WideShapes Go.ChangeAt Go.RowKit
def mAc (a : Ac) : Nat := 3 + a.2.length
theorem sum_mem {α : Type} {m : α → Nat} : ∀ {l : List α} {x : α}, x ∈ l → m x ≤ (l.map m).sum
 | y :: l, x, h => by
  rw [List.map_cons, List.sum_cons]
  rcases List.mem_cons.1 h with rfl | h
  ·omega
  ·have := sum_mem (m := m) h; omega
theorem sum_three {α : Type} {m : α → Nat} (hm : ∀ x, 3 ≤ m x) : ∀ l : List α, 3 * l.length ≤ (l.map m).sum
 | [] => by simp
 | y :: l => by have := sum_three hm l; have := hm y; rw [List.map_cons, List.sum_cons, List.length_cons]; omega
theorem fm_weigh {α : Type} {f : α → Bs} {m : α → Nat} : ∀ {l : List α}, (∀ x ∈ l, (f x).length ≤ 20 * m x) → (l.flatMap f).length ≤ 20 * (l.map m).sum
 | [], _ => by simp
 | y :: l, h => by
  have h1 := h y (List.mem_cons_self ..)
  have h2 := fm_weigh (l := l) (m := m) (f := f) (fun x hx => h x (List.mem_cons_of_mem _ hx))
  rw [List.flatMap_cons, List.length_append, List.map_cons, List.sum_cons]; omega
theorem aclW_of {l : List Ac} (h : ∀ a ∈ l, I64 a.1) (hm : (l.map mAc).sum ≤ 1048576) : AclW l := by
 have hl := sum_three (m := mAc) (fun a => by unfold mAc; omega) l
 have hu : U64 = 18446744073709551616 := rfl
 have hi : ∀ a ∈ l, a.2.length ≤ 1048576 := fun a ha => by
  have h1 := sum_mem (m := mAc) ha
  have h2 : mAc a = 3 + a.2.length := rfl
  omega
 refine ⟨by omega, ?_, fun a ha => ⟨⟨h a ha, by have := hi a ha; omega⟩, hi a ha⟩⟩
 have h3 := fm_weigh (f := acB) (m := mAc) (l := l) (fun a ha => by
  have h1 := numB_len8 (h a ha)
  have h2 := sev_len10 (u := a.2.length) (by have := hi a ha; omega)
  unfold acB txtB cntB mAc
  rw [List.length_append, List.length_append]; omega)
 have h4 := sev_len10 (u := l.length) (by omega)
 unfold aclB cntB
 rw [List.length_append]; omega
def mPt (y : Pt) : Nat := 9 + y.path.length + y.data.length + (y.acl.map mAc).sum
def mEn (e : En) : Nat := mPt e.x + (e.subs.map mPt).sum
structure PtG (p : HP) (y : Pt) : Prop where
 own : I64 y.own
 num : I64 y.num
 err : I64 y.err
 acl : ∀ h : Hp, p h → rdS 2 h y.aclV y.acl.length (y.acl.flatMap acC)
 ac : isCell y.aclV = true
 sc : isCell y.subsV = true
 each : ∀ a ∈ y.acl, I64 a.1
structure EnG (p : HP) (e : En) : Prop where
 zx : I64 e.zx
 xid : I64 e.xid
 x : PtG p e.x
 subs : ∀ h : Hp, p h → rdS 8 h e.x.subsV e.subs.length (e.subs.flatMap ptC)
 each : ∀ y ∈ e.subs, PtG p y
theorem PtG.A {p : HP} {y : Pt} (h : PtG p y) (hm : mPt y ≤ 1048576) : PtA p y := by
 unfold mPt at hm
 exact ⟨h.acl, (aclW_of h.each (by omega)).few, by omega, h.sc, h.ac⟩
theorem PtG.N {p : HP} {y : Pt} (h : PtG p y) (hm : mPt y ≤ 1048576) : PtN y := by
 unfold mPt at hm
 exact ⟨h.own, h.num, by omega, aclW_of h.each (by omega)⟩
theorem subs_few (l : List Pt) : 3 * l.length ≤ (l.map mPt).sum := sum_three (fun y => by unfold mPt; omega) l
theorem EnG.T {p : HP} {e : En} (h : EnG p e) (hm : mEn e ≤ 1048576) : TxA p e.x e.subs := by
 unfold mEn at hm
 have := subs_few e.subs
 exact ⟨h.x.A (by omega), h.subs, by omega, fun y hy => (h.each y hy).A (by have := sum_mem (m := mPt) hy; omega)⟩
theorem EnG.N {p : HP} {e : En} (h : EnG p e) (hm : mEn e ≤ 1048576) : EnN e := by
 unfold mEn at hm
 exact ⟨h.zx, h.x.N (by omega), fun y hy => (h.each y hy).N (by have := sum_mem (m := mPt) hy; omega)⟩
instance : Inhabited Pt := ⟨ptS 0 [] [] 0⟩
instance : Inhabited En := ⟨⟨0, 0, 0, ptS 0 [] [] 0, []⟩⟩
instance : Inhabited Rq := ⟨⟨0, 0, [], [], nilV, [], 0, 0, false, nilV, nilV⟩⟩
theorem wtL_le : ∀ l : List En, 3 * wtL l ≤ (l.map mEn).sum
 | [] => by simp [wtL]
 | e :: l => by
  have h1 := wtL_le l
  have h2 := subs_few e.subs
  have h3 : mEn e = mPt e.x + (e.subs.map mPt).sum := rfl
  have h4 : 9 ≤ mPt e.x := by unfold mPt; omega
  unfold wtL at h1 ⊢
  rw [List.map_cons, List.sum_cons, List.map_cons, List.sum_cons]
  omega
def mRq (r : Rq) : Nat := 10 + r.path.length + r.data.length + (r.acl.map mAc).sum
structure RqG (p : HP) (r : Rq) : Prop where
 kind : I64 r.kind
 xid : I64 r.xid
 flags : I64 r.flags
 ver : I64 r.ver
 acl : ∀ h : Hp, p h → rdS 2 h r.aclV r.acl.length (r.acl.flatMap acC)
 ash : ∃ a n c, r.aclV = .slice a n c
 each : ∀ a ∈ r.acl, I64 a.1
 sub : ∃ a n c, r.subsV = .slice a n c
 arm : ∃ a n c, r.armV = .slice a n c
structure RqD (p : HP) (r : Rq) (l : List Rq) : Prop where
 own : RqG p r ∧ mRq r ≤ 1048576
 rd : ∀ h : Hp, p h → rdS 10 h r.subsV l.length (l.flatMap rqC)
 each : ∀ x ∈ l, RqG p x ∧ mRq x ≤ 1048576
theorem RqG.w {p : HP} {r : Rq} (h : RqG p r) (hm : mRq r ≤ 1048576) {s : Int} {iv : Value} {ids : List Bs} (hs : I64 s) (hi : Ids p iv ids) (hT : TabP p) : WiA p ⟨s, ids⟩ iv r := by
 unfold mRq at hm
 have h3 := sum_three (m := mAc) (fun a => by unfold mAc; omega) r.acl
 refine ⟨⟨h.kind, h.xid, h.flags, h.ver, by omega, by omega, h.acl, by omega, fun a ha => ⟨h.each a ha, ?_⟩, h.sub, h.arm⟩, hs, hi.1, hi.2.1, hi.2.2, h.ash, hT⟩
 have h1 := sum_mem (m := mAc) ha
 have h2 : mAc a = 3 + a.2.length := rfl
 omega
theorem RqD.wi {p : HP} {r : Rq} {l : List Rq} (h : RqD p r l) {s : Int} {iv : Value} {ids : List Bs} (hs : I64 s) (hi : Ids p iv ids) (hT : TabP p) : WiD p ⟨s, ids⟩ iv r l := by
 have ha : ∀ x : Rq, RqG p x → mRq x ≤ 1048576 → AclW x.acl := fun x hx hm => aclW_of hx.each (by unfold mRq at hm; omega)
 exact ⟨h.own.1.w h.own.2 hs hi hT, ha _ h.own.1 h.own.2, h.rd, fun x hx => (h.each x hx).1.w (h.each x hx).2 hs hi hT, fun x hx => ha _ (h.each x hx).1 (h.each x hx).2⟩
theorem fm_strs (l : List Bs) : (l.flatMap fun s => [vstr s]) = strs l := by
 induction l with
 | nil => rfl
 | cons z l ih => rw [List.flatMap_cons, ih]; rfl
theorem tab_of {W : World} (h : Lib.TabIs Tryz.prog W "internal/strconv.uint64pow10" .u64 Lib.pow10Tab) {g : Nat} (hg : Tryz.prog.globalNamed "internal/strconv.uint64pow10" = some g) : TabP (Old W) := by
 intro hp w hold hle
 unfold Lib.TabIs World.var? at h ⊢
 rw [hg] at h ⊢
 simp only [Option.bind_some] at h ⊢
 cases e : W.heap[g]? with
 | none => rw [e] at h; cases h
 | some o =>
  have hlt : g < W.heap.size := (Array.getElem?_eq_some_iff.1 e).1
  have h2 : w.heap[g]? = some o := hle g o (by rw [hold g hlt, e])
  rw [h2]
  rw [e] at h
  exact h
theorem decAc {H : Type} {enc : TypeId × Value → H} {W : World} (n : Nat) (cs : List Value) (y : DataW H × List MemPlace) (h : Reads enc Tryz.prog W n 85 cs y) : ∃ a : Ac, cs = acC a ∧ I64 a.1 ∧ mAc a ≤ Rows.uptoBulk y.1 := by
 obtain ⟨xs, m, -, rfl, hlen, hxs, hf⟩ := DataW.trod_struct Tryz.underlying85 h
 rw [show Tryz.prog.cellsOf 85 = 2 by kernel_rfl] at hlen
 obtain ⟨a0, a1, rfl⟩ : ∃ a0 a1, cs = [a0, a1] := by
  match cs, hlen with
  | [a0, a1], _ => exact ⟨a0, a1, rfl⟩
 obtain ⟨y0, y1, rfl⟩ : ∃ y0 y1, xs = [y0, y1] := by
  match xs, hxs with
  | [y0, y1], _ => exact ⟨y0, y1, rfl⟩
 try simp only [Rows.uptoBulk, Rows.uptoBulkAll, List.map_cons, List.map_nil]
 have g0 : Reads enc Tryz.prog W m 3 (([a0, a1] : List Value).drop 0 |>.take (Tryz.prog.cellsOf 3)) y0 := hf 0 _ rfl
 rw [show Tryz.prog.cellsOf 3 = 1 by kernel_rfl] at g0
 have p0 := bulk_pos y0.1
 obtain ⟨z0, e0, q0, r0⟩ := dec_intW Tryz.underlying3 g0
 try simp at e0
 have g1 : Reads enc Tryz.prog W m 9 (([a0, a1] : List Value).drop 1 |>.take (Tryz.prog.cellsOf 9)) y1 := hf 1 _ rfl
 rw [show Tryz.prog.cellsOf 9 = 1 by kernel_rfl] at g1
 have p1 := bulk_pos y1.1
 obtain ⟨z1, e1, r1⟩ := dec_strW Tryz.underlying9 g1
 try simp at e1
 subst e0
 subst e1
 exact ⟨(z0, z1), rfl, q0, by unfold mAc; dsimp only; omega⟩
theorem decPt {H : Type} {enc : TypeId × Value → H} {W : World} (n : Nat) (cs : List Value) (y : DataW H × List MemPlace) (h : Reads enc Tryz.prog W n 43 cs y) : ∃ y0 : Pt, cs = ptC y0 ∧ PtG (Old W) y0 ∧ mPt y0 ≤ Rows.uptoBulk y.1 := by
 obtain ⟨xs, m, -, rfl, hlen, hxs, hf⟩ := DataW.trod_struct Tryz.underlying43 h
 rw [show Tryz.prog.cellsOf 43 = 8 by kernel_rfl] at hlen
 obtain ⟨a0, a1, a2, a3, a4, a5, a6, a7, rfl⟩ : ∃ a0 a1 a2 a3 a4 a5 a6 a7, cs = [a0, a1, a2, a3, a4, a5, a6, a7] := by
  match cs, hlen with
  | [a0, a1, a2, a3, a4, a5, a6, a7], _ => exact ⟨a0, a1, a2, a3, a4, a5, a6, a7, rfl⟩
 obtain ⟨y0, y1, y2, y3, y4, y5, y6, y7, rfl⟩ : ∃ y0 y1 y2 y3 y4 y5 y6 y7, xs = [y0, y1, y2, y3, y4, y5, y6, y7] := by
  match xs, hxs with
  | [y0, y1, y2, y3, y4, y5, y6, y7], _ => exact ⟨y0, y1, y2, y3, y4, y5, y6, y7, rfl⟩
 try simp only [Rows.uptoBulk, Rows.uptoBulkAll, List.map_cons, List.map_nil]
 have g0 : Reads enc Tryz.prog W m 3 (([a0, a1, a2, a3, a4, a5, a6, a7] : List Value).drop 0 |>.take (Tryz.prog.cellsOf 3)) y0 := hf 0 _ rfl
 rw [show Tryz.prog.cellsOf 3 = 1 by kernel_rfl] at g0
 have p0 := bulk_pos y0.1
 obtain ⟨z0, e0, q0, r0⟩ := dec_intW Tryz.underlying3 g0
 try simp at e0
 have g1 : Reads enc Tryz.prog W m 9 (([a0, a1, a2, a3, a4, a5, a6, a7] : List Value).drop 1 |>.take (Tryz.prog.cellsOf 9)) y1 := hf 1 _ rfl
 rw [show Tryz.prog.cellsOf 9 = 1 by kernel_rfl] at g1
 have p1 := bulk_pos y1.1
 obtain ⟨z1, e1, r1⟩ := dec_strW Tryz.underlying9 g1
 try simp at e1
 have g2 : Reads enc Tryz.prog W m 9 (([a0, a1, a2, a3, a4, a5, a6, a7] : List Value).drop 2 |>.take (Tryz.prog.cellsOf 9)) y2 := hf 2 _ rfl
 rw [show Tryz.prog.cellsOf 9 = 1 by kernel_rfl] at g2
 have p2 := bulk_pos y2.1
 obtain ⟨z2, e2, r2⟩ := dec_strW Tryz.underlying9 g2
 try simp at e2
 have g3 : Reads enc Tryz.prog W m 24 (([a0, a1, a2, a3, a4, a5, a6, a7] : List Value).drop 3 |>.take (Tryz.prog.cellsOf 24)) y3 := hf 3 _ rfl
 rw [show Tryz.prog.cellsOf 24 = 1 by kernel_rfl] at g3
 have p3 := bulk_pos y3.1
 obtain ⟨⟨v3, l3⟩, e3, k3, q3, c3, r3⟩ := dec_sliceW acC (fun a => I64 a.1) mAc Tryz.underlying24 (show Tryz.prog.cellsOf 85 = 2 by kernel_rfl) (by decide) (fun n cs y h => decAc n cs y h) g3
 dsimp only at e3 k3 q3 c3 r3
 have ck3 : isCell v3 = true := by obtain ⟨sa, sc, hs⟩ := rd_shape k3; rw [hs]; rfl
 try simp at e3
 have g4 : Reads enc Tryz.prog W m 3 (([a0, a1, a2, a3, a4, a5, a6, a7] : List Value).drop 4 |>.take (Tryz.prog.cellsOf 3)) y4 := hf 4 _ rfl
 rw [show Tryz.prog.cellsOf 3 = 1 by kernel_rfl] at g4
 have p4 := bulk_pos y4.1
 obtain ⟨z4, e4, q4, r4⟩ := dec_intW Tryz.underlying3 g4
 try simp at e4
 have g5 : Reads enc Tryz.prog W m 3 (([a0, a1, a2, a3, a4, a5, a6, a7] : List Value).drop 5 |>.take (Tryz.prog.cellsOf 3)) y5 := hf 5 _ rfl
 rw [show Tryz.prog.cellsOf 3 = 1 by kernel_rfl] at g5
 have p5 := bulk_pos y5.1
 obtain ⟨z5, e5, q5, r5⟩ := dec_intW Tryz.underlying3 g5
 try simp at e5
 have g6 : Reads enc Tryz.prog W m 40 (([a0, a1, a2, a3, a4, a5, a6, a7] : List Value).drop 6 |>.take (Tryz.prog.cellsOf 40)) y6 := hf 6 _ rfl
 rw [show Tryz.prog.cellsOf 40 = 1 by kernel_rfl] at g6
 have p6 := bulk_pos y6.1
 obtain ⟨z6, e6, q6, r6⟩ := dec_intW Tryz.underlying40 g6
 try simp at e6
 have g7 : Reads enc Tryz.prog W m 41 (([a0, a1, a2, a3, a4, a5, a6, a7] : List Value).drop 7 |>.take (Tryz.prog.cellsOf 41)) y7 := hf 7 _ rfl
 rw [show Tryz.prog.cellsOf 41 = 1 by kernel_rfl] at g7
 have p7 := bulk_pos y7.1
 obtain ⟨z7, e7, s7⟩ : ∃ z : Value, a7 = z ∧ isCell z = true := ⟨_, rfl, slice_cell Tryz.underlying41 g7⟩
 try simp at e7
 subst e0
 subst e1
 subst e2
 subst e3
 subst e4
 subst e5
 subst e6
 subst e7
 exact ⟨⟨z0, z1, z2, a3, l3, z4, z5, z6, a7⟩, rfl, ⟨q4, q5, q6, k3, ck3, s7, q3⟩, by unfold mPt; dsimp only; omega⟩
theorem decPtD {H : Type} {enc : TypeId × Value → H} {W : World} (n : Nat) (cs : List Value) (y : DataW H × List MemPlace) (h : Reads enc Tryz.prog W n 43 cs y) : ∃ (y0 : Pt) (l : List Pt), cs = ptC y0 ∧ PtG (Old W) y0 ∧ (∀ h : Hp, Old W h → rdS 8 h y0.subsV l.length (l.flatMap ptC)) ∧ (∀ q ∈ l, PtG (Old W) q) ∧ mPt y0 + (l.map mPt).sum ≤ Rows.uptoBulk y.1 := by
 obtain ⟨xs, m, -, rfl, hlen, hxs, hf⟩ := DataW.trod_struct Tryz.underlying43 h
 rw [show Tryz.prog.cellsOf 43 = 8 by kernel_rfl] at hlen
 obtain ⟨a0, a1, a2, a3, a4, a5, a6, a7, rfl⟩ : ∃ a0 a1 a2 a3 a4 a5 a6 a7, cs = [a0, a1, a2, a3, a4, a5, a6, a7] := by
  match cs, hlen with
  | [a0, a1, a2, a3, a4, a5, a6, a7], _ => exact ⟨a0, a1, a2, a3, a4, a5, a6, a7, rfl⟩
 obtain ⟨y0, y1, y2, y3, y4, y5, y6, y7, rfl⟩ : ∃ y0 y1 y2 y3 y4 y5 y6 y7, xs = [y0, y1, y2, y3, y4, y5, y6, y7] := by
  match xs, hxs with
  | [y0, y1, y2, y3, y4, y5, y6, y7], _ => exact ⟨y0, y1, y2, y3, y4, y5, y6, y7, rfl⟩
 try simp only [Rows.uptoBulk, Rows.uptoBulkAll, List.map_cons, List.map_nil]
 have g0 : Reads enc Tryz.prog W m 3 (([a0, a1, a2, a3, a4, a5, a6, a7] : List Value).drop 0 |>.take (Tryz.prog.cellsOf 3)) y0 := hf 0 _ rfl
 rw [show Tryz.prog.cellsOf 3 = 1 by kernel_rfl] at g0
 have p0 := bulk_pos y0.1
 obtain ⟨z0, e0, q0, r0⟩ := dec_intW Tryz.underlying3 g0
 try simp at e0
 have g1 : Reads enc Tryz.prog W m 9 (([a0, a1, a2, a3, a4, a5, a6, a7] : List Value).drop 1 |>.take (Tryz.prog.cellsOf 9)) y1 := hf 1 _ rfl
 rw [show Tryz.prog.cellsOf 9 = 1 by kernel_rfl] at g1
 have p1 := bulk_pos y1.1
 obtain ⟨z1, e1, r1⟩ := dec_strW Tryz.underlying9 g1
 try simp at e1
 have g2 : Reads enc Tryz.prog W m 9 (([a0, a1, a2, a3, a4, a5, a6, a7] : List Value).drop 2 |>.take (Tryz.prog.cellsOf 9)) y2 := hf 2 _ rfl
 rw [show Tryz.prog.cellsOf 9 = 1 by kernel_rfl] at g2
 have p2 := bulk_pos y2.1
 obtain ⟨z2, e2, r2⟩ := dec_strW Tryz.underlying9 g2
 try simp at e2
 have g3 : Reads enc Tryz.prog W m 24 (([a0, a1, a2, a3, a4, a5, a6, a7] : List Value).drop 3 |>.take (Tryz.prog.cellsOf 24)) y3 := hf 3 _ rfl
 rw [show Tryz.prog.cellsOf 24 = 1 by kernel_rfl] at g3
 have p3 := bulk_pos y3.1
 obtain ⟨⟨v3, l3⟩, e3, k3, q3, c3, r3⟩ := dec_sliceW acC (fun a => I64 a.1) mAc Tryz.underlying24 (show Tryz.prog.cellsOf 85 = 2 by kernel_rfl) (by decide) (fun n cs y h => decAc n cs y h) g3
 dsimp only at e3 k3 q3 c3 r3
 have ck3 : isCell v3 = true := by obtain ⟨sa, sc, hs⟩ := rd_shape k3; rw [hs]; rfl
 try simp at e3
 have g4 : Reads enc Tryz.prog W m 3 (([a0, a1, a2, a3, a4, a5, a6, a7] : List Value).drop 4 |>.take (Tryz.prog.cellsOf 3)) y4 := hf 4 _ rfl
 rw [show Tryz.prog.cellsOf 3 = 1 by kernel_rfl] at g4
 have p4 := bulk_pos y4.1
 obtain ⟨z4, e4, q4, r4⟩ := dec_intW Tryz.underlying3 g4
 try simp at e4
 have g5 : Reads enc Tryz.prog W m 3 (([a0, a1, a2, a3, a4, a5, a6, a7] : List Value).drop 5 |>.take (Tryz.prog.cellsOf 3)) y5 := hf 5 _ rfl
 rw [show Tryz.prog.cellsOf 3 = 1 by kernel_rfl] at g5
 have p5 := bulk_pos y5.1
 obtain ⟨z5, e5, q5, r5⟩ := dec_intW Tryz.underlying3 g5
 try simp at e5
 have g6 : Reads enc Tryz.prog W m 40 (([a0, a1, a2, a3, a4, a5, a6, a7] : List Value).drop 6 |>.take (Tryz.prog.cellsOf 40)) y6 := hf 6 _ rfl
 rw [show Tryz.prog.cellsOf 40 = 1 by kernel_rfl] at g6
 have p6 := bulk_pos y6.1
 obtain ⟨z6, e6, q6, r6⟩ := dec_intW Tryz.underlying40 g6
 try simp at e6
 have g7 : Reads enc Tryz.prog W m 41 (([a0, a1, a2, a3, a4, a5, a6, a7] : List Value).drop 7 |>.take (Tryz.prog.cellsOf 41)) y7 := hf 7 _ rfl
 rw [show Tryz.prog.cellsOf 41 = 1 by kernel_rfl] at g7
 have p7 := bulk_pos y7.1
 obtain ⟨⟨v7, l7⟩, e7, k7, q7, c7, r7⟩ := dec_sliceW ptC (fun q => PtG (Old W) q) mPt Tryz.underlying41 (show Tryz.prog.cellsOf 43 = 8 by kernel_rfl) (by decide) (fun n cs y h => decPt n cs y h) g7
 dsimp only at e7 k7 q7 c7 r7
 have ck7 : isCell v7 = true := by obtain ⟨sa, sc, hs⟩ := rd_shape k7; rw [hs]; rfl
 try simp at e7
 subst e0
 subst e1
 subst e2
 subst e3
 subst e4
 subst e5
 subst e6
 subst e7
 exact ⟨⟨z0, z1, z2, a3, l3, z4, z5, z6, a7⟩, l7, rfl, ⟨q4, q5, q6, k3, ck3, ck7, q3⟩, k7, q7, by unfold mPt; dsimp only; unfold mPt at r7; omega⟩
theorem decEn {H : Type} {enc : TypeId × Value → H} {W : World} (n : Nat) (cs : List Value) (y : DataW H × List MemPlace) (h : Reads enc Tryz.prog W n 54 cs y) : ∃ e : En, cs = enC e ∧ EnG (Old W) e ∧ mEn e ≤ Rows.uptoBulk y.1 := by
 obtain ⟨xs, m, -, rfl, hlen, hxs, hf⟩ := DataW.trod_struct Tryz.underlying54 h
 rw [show Tryz.prog.cellsOf 54 = 11 by kernel_rfl] at hlen
 obtain ⟨a0, a1, a2, a3, a4, a5, a6, a7, a8, a9, a10, rfl⟩ : ∃ a0 a1 a2 a3 a4 a5 a6 a7 a8 a9 a10, cs = [a0, a1, a2, a3, a4, a5, a6, a7, a8, a9, a10] := by
  match cs, hlen with
  | [a0, a1, a2, a3, a4, a5, a6, a7, a8, a9, a10], _ => exact ⟨a0, a1, a2, a3, a4, a5, a6, a7, a8, a9, a10, rfl⟩
 obtain ⟨y0, y1, y2, y3, rfl⟩ : ∃ y0 y1 y2 y3, xs = [y0, y1, y2, y3] := by
  match xs, hxs with
  | [y0, y1, y2, y3], _ => exact ⟨y0, y1, y2, y3, rfl⟩
 try simp only [Rows.uptoBulk, Rows.uptoBulkAll, List.map_cons, List.map_nil]
 have g0 : Reads enc Tryz.prog W m 3 (([a0, a1, a2, a3, a4, a5, a6, a7, a8, a9, a10] : List Value).drop 0 |>.take (Tryz.prog.cellsOf 3)) y0 := hf 0 _ rfl
 rw [show Tryz.prog.cellsOf 3 = 1 by kernel_rfl] at g0
 have p0 := bulk_pos y0.1
 obtain ⟨z0, e0, q0, r0⟩ := dec_intW Tryz.underlying3 g0
 try simp at e0
 have g1 : Reads enc Tryz.prog W m 3 (([a0, a1, a2, a3, a4, a5, a6, a7, a8, a9, a10] : List Value).drop 1 |>.take (Tryz.prog.cellsOf 3)) y1 := hf 1 _ rfl
 rw [show Tryz.prog.cellsOf 3 = 1 by kernel_rfl] at g1
 have p1 := bulk_pos y1.1
 obtain ⟨z1, e1, q1, r1⟩ := dec_intW Tryz.underlying3 g1
 try simp at e1
 have g2 : Reads enc Tryz.prog W m 3 (([a0, a1, a2, a3, a4, a5, a6, a7, a8, a9, a10] : List Value).drop 2 |>.take (Tryz.prog.cellsOf 3)) y2 := hf 2 _ rfl
 rw [show Tryz.prog.cellsOf 3 = 1 by kernel_rfl] at g2
 have p2 := bulk_pos y2.1
 obtain ⟨z2, e2, q2, r2⟩ := dec_intW Tryz.underlying3 g2
 try simp at e2
 have g3 : Reads enc Tryz.prog W m 43 (([a0, a1, a2, a3, a4, a5, a6, a7, a8, a9, a10] : List Value).drop 3 |>.take (Tryz.prog.cellsOf 43)) y3 := hf 3 _ rfl
 rw [show Tryz.prog.cellsOf 43 = 8 by kernel_rfl] at g3
 have p3 := bulk_pos y3.1
 obtain ⟨z3, l3, e3, q3, k3, s3, r3⟩ := decPtD _ _ _ g3
 try simp [ptC, enC] at e3
 subst e0
 subst e1
 subst e2
 obtain ⟨rfl, rfl, rfl, rfl, rfl, rfl, rfl, rfl⟩ := e3
 exact ⟨⟨z0, z1, z2, z3, l3⟩, rfl, ⟨q0, q2, q3, k3, s3⟩, by unfold mEn; dsimp only; omega⟩
theorem decRq {H : Type} {enc : TypeId × Value → H} {W : World} (n : Nat) (cs : List Value) (y : DataW H × List MemPlace) (h : Reads enc Tryz.prog W n 28 cs y) : ∃ r0 : Rq, cs = rqC r0 ∧ RqG (Old W) r0 ∧ mRq r0 ≤ Rows.uptoBulk y.1 := by
 obtain ⟨xs, m, -, rfl, hlen, hxs, hf⟩ := DataW.trod_struct Tryz.underlying28 h
 rw [show Tryz.prog.cellsOf 28 = 10 by kernel_rfl] at hlen
 obtain ⟨a0, a1, a2, a3, a4, a5, a6, a7, a8, a9, rfl⟩ : ∃ a0 a1 a2 a3 a4 a5 a6 a7 a8 a9, cs = [a0, a1, a2, a3, a4, a5, a6, a7, a8, a9] := by
  match cs, hlen with
  | [a0, a1, a2, a3, a4, a5, a6, a7, a8, a9], _ => exact ⟨a0, a1, a2, a3, a4, a5, a6, a7, a8, a9, rfl⟩
 obtain ⟨y0, y1, y2, y3, y4, y5, y6, y7, y8, y9, rfl⟩ : ∃ y0 y1 y2 y3 y4 y5 y6 y7 y8 y9, xs = [y0, y1, y2, y3, y4, y5, y6, y7, y8, y9] := by
  match xs, hxs with
  | [y0, y1, y2, y3, y4, y5, y6, y7, y8, y9], _ => exact ⟨y0, y1, y2, y3, y4, y5, y6, y7, y8, y9, rfl⟩
 try simp only [Rows.uptoBulk, Rows.uptoBulkAll, List.map_cons, List.map_nil]
 have g0 : Reads enc Tryz.prog W m 3 (([a0, a1, a2, a3, a4, a5, a6, a7, a8, a9] : List Value).drop 0 |>.take (Tryz.prog.cellsOf 3)) y0 := hf 0 _ rfl
 rw [show Tryz.prog.cellsOf 3 = 1 by kernel_rfl] at g0
 have p0 := bulk_pos y0.1
 obtain ⟨z0, e0, q0, r0⟩ := dec_intW Tryz.underlying3 g0
 try simp at e0
 have g1 : Reads enc Tryz.prog W m 3 (([a0, a1, a2, a3, a4, a5, a6, a7, a8, a9] : List Value).drop 1 |>.take (Tryz.prog.cellsOf 3)) y1 := hf 1 _ rfl
 rw [show Tryz.prog.cellsOf 3 = 1 by kernel_rfl] at g1
 have p1 := bulk_pos y1.1
 obtain ⟨z1, e1, q1, r1⟩ := dec_intW Tryz.underlying3 g1
 try simp at e1
 have g2 : Reads enc Tryz.prog W m 9 (([a0, a1, a2, a3, a4, a5, a6, a7, a8, a9] : List Value).drop 2 |>.take (Tryz.prog.cellsOf 9)) y2 := hf 2 _ rfl
 rw [show Tryz.prog.cellsOf 9 = 1 by kernel_rfl] at g2
 have p2 := bulk_pos y2.1
 obtain ⟨z2, e2, r2⟩ := dec_strW Tryz.underlying9 g2
 try simp at e2
 have g3 : Reads enc Tryz.prog W m 9 (([a0, a1, a2, a3, a4, a5, a6, a7, a8, a9] : List Value).drop 3 |>.take (Tryz.prog.cellsOf 9)) y3 := hf 3 _ rfl
 rw [show Tryz.prog.cellsOf 9 = 1 by kernel_rfl] at g3
 have p3 := bulk_pos y3.1
 obtain ⟨z3, e3, r3⟩ := dec_strW Tryz.underlying9 g3
 try simp at e3
 have g4 : Reads enc Tryz.prog W m 24 (([a0, a1, a2, a3, a4, a5, a6, a7, a8, a9] : List Value).drop 4 |>.take (Tryz.prog.cellsOf 24)) y4 := hf 4 _ rfl
 rw [show Tryz.prog.cellsOf 24 = 1 by kernel_rfl] at g4
 have p4 := bulk_pos y4.1
 obtain ⟨⟨v4, l4⟩, e4, k4, q4, c4, r4⟩ := dec_sliceW acC (fun a => I64 a.1) mAc Tryz.underlying24 (show Tryz.prog.cellsOf 85 = 2 by kernel_rfl) (by decide) (fun n cs y h => decAc n cs y h) g4
 dsimp only at e4 k4 q4 c4 r4
 have ck4 : isCell v4 = true := by obtain ⟨sa, sc, hs⟩ := rd_shape k4; rw [hs]; rfl
 have sh4 : ∃ a n c, v4 = .slice a n c := by obtain ⟨sa, sc, hs⟩ := rd_shape k4; exact ⟨_, _, _, hs⟩
 try simp at e4
 have g5 : Reads enc Tryz.prog W m 3 (([a0, a1, a2, a3, a4, a5, a6, a7, a8, a9] : List Value).drop 5 |>.take (Tryz.prog.cellsOf 3)) y5 := hf 5 _ rfl
 rw [show Tryz.prog.cellsOf 3 = 1 by kernel_rfl] at g5
 have p5 := bulk_pos y5.1
 obtain ⟨z5, e5, q5, r5⟩ := dec_intW Tryz.underlying3 g5
 try simp at e5
 have g6 : Reads enc Tryz.prog W m 3 (([a0, a1, a2, a3, a4, a5, a6, a7, a8, a9] : List Value).drop 6 |>.take (Tryz.prog.cellsOf 3)) y6 := hf 6 _ rfl
 rw [show Tryz.prog.cellsOf 3 = 1 by kernel_rfl] at g6
 have p6 := bulk_pos y6.1
 obtain ⟨z6, e6, q6, r6⟩ := dec_intW Tryz.underlying3 g6
 try simp at e6
 have g7 : Reads enc Tryz.prog W m 4 (([a0, a1, a2, a3, a4, a5, a6, a7, a8, a9] : List Value).drop 7 |>.take (Tryz.prog.cellsOf 4)) y7 := hf 7 _ rfl
 rw [show Tryz.prog.cellsOf 4 = 1 by kernel_rfl] at g7
 have p7 := bulk_pos y7.1
 obtain ⟨z7, e7⟩ := dec_bool Tryz.underlying4 g7
 try simp at e7
 have g8 : Reads enc Tryz.prog W m 25 (([a0, a1, a2, a3, a4, a5, a6, a7, a8, a9] : List Value).drop 8 |>.take (Tryz.prog.cellsOf 25)) y8 := hf 8 _ rfl
 rw [show Tryz.prog.cellsOf 25 = 1 by kernel_rfl] at g8
 have p8 := bulk_pos y8.1
 obtain ⟨z8, e8, s8⟩ : ∃ z : Value, a8 = z ∧ ∃ a n c, z = .slice a n c := ⟨_, rfl, slice_shape Tryz.underlying25 g8⟩
 have ck8 : isCell z8 = true := by obtain ⟨sa, sn, sc, hs⟩ := s8; rw [hs]; rfl
 try simp at e8
 have g9 : Reads enc Tryz.prog W m 26 (([a0, a1, a2, a3, a4, a5, a6, a7, a8, a9] : List Value).drop 9 |>.take (Tryz.prog.cellsOf 26)) y9 := hf 9 _ rfl
 rw [show Tryz.prog.cellsOf 26 = 1 by kernel_rfl] at g9
 have p9 := bulk_pos y9.1
 obtain ⟨z9, e9, s9⟩ : ∃ z : Value, a9 = z ∧ ∃ a n c, z = .slice a n c := ⟨_, rfl, slice_shape Tryz.underlying26 g9⟩
 have ck9 : isCell z9 = true := by obtain ⟨sa, sn, sc, hs⟩ := s9; rw [hs]; rfl
 try simp at e9
 subst e0
 subst e1
 subst e2
 subst e3
 subst e4
 subst e5
 subst e6
 subst e7
 subst e8
 subst e9
 exact ⟨⟨z0, z1, z2, z3, a4, l4, z5, z6, z7, a8, a9⟩, rfl, ⟨q0, q1, q5, q6, k4, sh4, q4, s8, s9⟩, by unfold mRq; dsimp only; omega⟩
theorem dec_ents12 {H : Type} {enc : TypeId × Value → H} {W : World} {fuel : Nat} {cs : List Value} {x : DataW H × List MemPlace} (h : Reads enc Tryz.prog W fuel 22 cs x) (hb : Rows.uptoBulk x.1 ≤ 1048576) : ∃ (v : Value) (l : List En), cs = [v] ∧ EntsA (Old W) v l ∧ (∀ e ∈ l, EnN e) ∧ wtL l ≤ 500000 := by
 obtain ⟨⟨v, l⟩, h1, h2, h3, h4, h5⟩ := dec_sliceW enC (fun e => EnG (Old W) e) mEn Tryz.underlying22 (show Tryz.prog.cellsOf 54 = 11 by kernel_rfl) (by decide) (fun n cs y h => decEn n cs y h) h
 dsimp only at h1 h2 h3 h4 h5
 have hw := wtL_le l
 have hm : ∀ e ∈ l, mEn e ≤ 1048576 := fun e he => by
  have h6 := sum_mem (m := mEn) he
  omega
 exact ⟨v, l, h1, ⟨h2, by omega, fun e he => (h3 e he).T (hm e he), fun e he => (h3 e he).x.own.2, by omega⟩, fun e he => (h3 e he).N (hm e he), by omega⟩
theorem dec_ids12 {H : Type} {enc : TypeId × Value → H} {W : World} {fuel : Nat} {cs : List Value} {x : DataW H × List MemPlace} (h : Reads enc Tryz.prog W fuel 23 cs x) (hb : Rows.uptoBulk x.1 ≤ 1048576) : ∃ (v : Value) (l : List Bs), cs = [v] ∧ Ids (Old W) v l ∧ l.length ≤ Rows.uptoBulk x.1 := by
 obtain ⟨⟨v, l⟩, h1, h2, h3, h4, h5⟩ := dec_sliceW (fun s : Bs => [vstr s]) (fun _ => True) (fun s => s.length + 1) Tryz.underlying23 (show Tryz.prog.cellsOf 9 = 1 by kernel_rfl) (by decide) (fun n cs y h => by obtain ⟨s, e, hs⟩ := dec_strW Tryz.underlying9 h; exact ⟨s, e, trivial, hs⟩) h
 dsimp only at h1 h2 h3 h4 h5
 refine ⟨v, l, h1, ⟨fun h hp => by rw [← fm_strs]; exact h2 h hp, by omega, ?_⟩, by omega⟩
 rw [h1] at h
 exact slice_shape Tryz.underlying23 h
open Go Go.ChangeShapes Go.WideShapes Go.ChangeAt Go.RowKit
instance : Inhabited Am := ⟨⟨0, [], 0, 0, 0⟩⟩
def mAm (a : Am) : Nat := 5 + a.path.length
structure AmG (a : Am) : Prop where
 kind : I64 a.kind
 cz : I64 a.cz
 mz : I64 a.mz
 pz : I64 a.pz
theorem decAm {H : Type} {enc : TypeId × Value → H} {W : World} (n : Nat) (cs : List Value) (y : DataW H × List MemPlace) (h : Reads enc Tryz.prog W n 175 cs y) : ∃ a : Am, cs = amC a ∧ AmG a ∧ mAm a ≤ Rows.uptoBulk y.1 := by
 obtain ⟨xs, m, -, rfl, hlen, hxs, hf⟩ := DataW.trod_struct Tryz.underlying175 h
 rw [show Tryz.prog.cellsOf 175 = 5 by kernel_rfl] at hlen
 obtain ⟨a0, a1, a2, a3, a4, rfl⟩ : ∃ a0 a1 a2 a3 a4, cs = [a0, a1, a2, a3, a4] := by
  match cs, hlen with
  | [a0, a1, a2, a3, a4], _ => exact ⟨a0, a1, a2, a3, a4, rfl⟩
 obtain ⟨y0, y1, y2, y3, y4, rfl⟩ : ∃ y0 y1 y2 y3 y4, xs = [y0, y1, y2, y3, y4] := by
  match xs, hxs with
  | [y0, y1, y2, y3, y4], _ => exact ⟨y0, y1, y2, y3, y4, rfl⟩
 try simp only [Rows.uptoBulk, Rows.uptoBulkAll, List.map_cons, List.map_nil]
 have g0 : Reads enc Tryz.prog W m 3 (([a0, a1, a2, a3, a4] : List Value).drop 0 |>.take (Tryz.prog.cellsOf 3)) y0 := hf 0 _ rfl
 rw [show Tryz.prog.cellsOf 3 = 1 by kernel_rfl] at g0
 have p0 := bulk_pos y0.1
 obtain ⟨z0, e0, q0, r0⟩ := dec_intW Tryz.underlying3 g0
 try simp at e0
 have g1 : Reads enc Tryz.prog W m 9 (([a0, a1, a2, a3, a4] : List Value).drop 1 |>.take (Tryz.prog.cellsOf 9)) y1 := hf 1 _ rfl
 rw [show Tryz.prog.cellsOf 9 = 1 by kernel_rfl] at g1
 have p1 := bulk_pos y1.1
 obtain ⟨z1, e1, r1⟩ := dec_strW Tryz.underlying9 g1
 try simp at e1
 have g2 : Reads enc Tryz.prog W m 3 (([a0, a1, a2, a3, a4] : List Value).drop 2 |>.take (Tryz.prog.cellsOf 3)) y2 := hf 2 _ rfl
 rw [show Tryz.prog.cellsOf 3 = 1 by kernel_rfl] at g2
 have p2 := bulk_pos y2.1
 obtain ⟨z2, e2, q2, r2⟩ := dec_intW Tryz.underlying3 g2
 try simp at e2
 have g3 : Reads enc Tryz.prog W m 3 (([a0, a1, a2, a3, a4] : List Value).drop 3 |>.take (Tryz.prog.cellsOf 3)) y3 := hf 3 _ rfl
 rw [show Tryz.prog.cellsOf 3 = 1 by kernel_rfl] at g3
 have p3 := bulk_pos y3.1
 obtain ⟨z3, e3, q3, r3⟩ := dec_intW Tryz.underlying3 g3
 try simp at e3
 have g4 : Reads enc Tryz.prog W m 3 (([a0, a1, a2, a3, a4] : List Value).drop 4 |>.take (Tryz.prog.cellsOf 3)) y4 := hf 4 _ rfl
 rw [show Tryz.prog.cellsOf 3 = 1 by kernel_rfl] at g4
 have p4 := bulk_pos y4.1
 obtain ⟨z4, e4, q4, r4⟩ := dec_intW Tryz.underlying3 g4
 try simp at e4
 subst e0
 subst e1
 subst e2
 subst e3
 subst e4
 exact ⟨⟨z0, z1, z2, z3, z4⟩, rfl, ⟨q0, q2, q3, q4⟩, by unfold mAm; dsimp only; omega⟩
structure ArmL (p : HP) (v : Value) (l : List Am) : Prop where
 rd : ∀ h : Hp, p h → rdS 5 h v l.length (l.flatMap amC)
 few : l.length ≤ 1048576
 each : ∀ a ∈ l, AmI a
theorem decRqA {H : Type} {enc : TypeId × Value → H} {W : World} (n : Nat) (cs : List Value) (y : DataW H × List MemPlace) (h : Reads enc Tryz.prog W n 28 cs y) : ∃ (r0 : Rq) (l : List Rq) (m : List Am), cs = rqC r0 ∧ (Rows.uptoBulk y.1 ≤ 1048576 → RqD (Old W) r0 l ∧ l.length ≤ 1048576 ∧ ArmL (Old W) r0.armV m) := by
 obtain ⟨xs, m, -, rfl, hlen, hxs, hf⟩ := DataW.trod_struct Tryz.underlying28 h
 rw [show Tryz.prog.cellsOf 28 = 10 by kernel_rfl] at hlen
 obtain ⟨a0, a1, a2, a3, a4, a5, a6, a7, a8, a9, rfl⟩ : ∃ a0 a1 a2 a3 a4 a5 a6 a7 a8 a9, cs = [a0, a1, a2, a3, a4, a5, a6, a7, a8, a9] := by
  match cs, hlen with
  | [a0, a1, a2, a3, a4, a5, a6, a7, a8, a9], _ => exact ⟨a0, a1, a2, a3, a4, a5, a6, a7, a8, a9, rfl⟩
 obtain ⟨y0, y1, y2, y3, y4, y5, y6, y7, y8, y9, rfl⟩ : ∃ y0 y1 y2 y3 y4 y5 y6 y7 y8 y9, xs = [y0, y1, y2, y3, y4, y5, y6, y7, y8, y9] := by
  match xs, hxs with
  | [y0, y1, y2, y3, y4, y5, y6, y7, y8, y9], _ => exact ⟨y0, y1, y2, y3, y4, y5, y6, y7, y8, y9, rfl⟩
 try simp only [Rows.uptoBulk, Rows.uptoBulkAll, List.map_cons, List.map_nil]
 have g0 : Reads enc Tryz.prog W m 3 (([a0, a1, a2, a3, a4, a5, a6, a7, a8, a9] : List Value).drop 0 |>.take (Tryz.prog.cellsOf 3)) y0 := hf 0 _ rfl
 rw [show Tryz.prog.cellsOf 3 = 1 by kernel_rfl] at g0
 have p0 := bulk_pos y0.1
 obtain ⟨z0, e0, q0, r0⟩ := dec_intW Tryz.underlying3 g0
 try simp at e0
 have g1 : Reads enc Tryz.prog W m 3 (([a0, a1, a2, a3, a4, a5, a6, a7, a8, a9] : List Value).drop 1 |>.take (Tryz.prog.cellsOf 3)) y1 := hf 1 _ rfl
 rw [show Tryz.prog.cellsOf 3 = 1 by kernel_rfl] at g1
 have p1 := bulk_pos y1.1
 obtain ⟨z1, e1, q1, r1⟩ := dec_intW Tryz.underlying3 g1
 try simp at e1
 have g2 : Reads enc Tryz.prog W m 9 (([a0, a1, a2, a3, a4, a5, a6, a7, a8, a9] : List Value).drop 2 |>.take (Tryz.prog.cellsOf 9)) y2 := hf 2 _ rfl
 rw [show Tryz.prog.cellsOf 9 = 1 by kernel_rfl] at g2
 have p2 := bulk_pos y2.1
 obtain ⟨z2, e2, r2⟩ := dec_strW Tryz.underlying9 g2
 try simp at e2
 have g3 : Reads enc Tryz.prog W m 9 (([a0, a1, a2, a3, a4, a5, a6, a7, a8, a9] : List Value).drop 3 |>.take (Tryz.prog.cellsOf 9)) y3 := hf 3 _ rfl
 rw [show Tryz.prog.cellsOf 9 = 1 by kernel_rfl] at g3
 have p3 := bulk_pos y3.1
 obtain ⟨z3, e3, r3⟩ := dec_strW Tryz.underlying9 g3
 try simp at e3
 have g4 : Reads enc Tryz.prog W m 24 (([a0, a1, a2, a3, a4, a5, a6, a7, a8, a9] : List Value).drop 4 |>.take (Tryz.prog.cellsOf 24)) y4 := hf 4 _ rfl
 rw [show Tryz.prog.cellsOf 24 = 1 by kernel_rfl] at g4
 have p4 := bulk_pos y4.1
 obtain ⟨⟨v4, l4⟩, e4, k4, q4, c4, r4⟩ := dec_sliceW acC (fun a => I64 a.1) mAc Tryz.underlying24 (show Tryz.prog.cellsOf 85 = 2 by kernel_rfl) (by decide) (fun n cs y h => decAc n cs y h) g4
 dsimp only at e4 k4 q4 c4 r4
 have ck4 : isCell v4 = true := by obtain ⟨sa, sc, hs⟩ := rd_shape k4; rw [hs]; rfl
 have sh4 : ∃ a n c, v4 = .slice a n c := by obtain ⟨sa, sc, hs⟩ := rd_shape k4; exact ⟨_, _, _, hs⟩
 try simp at e4
 have g5 : Reads enc Tryz.prog W m 3 (([a0, a1, a2, a3, a4, a5, a6, a7, a8, a9] : List Value).drop 5 |>.take (Tryz.prog.cellsOf 3)) y5 := hf 5 _ rfl
 rw [show Tryz.prog.cellsOf 3 = 1 by kernel_rfl] at g5
 have p5 := bulk_pos y5.1
 obtain ⟨z5, e5, q5, r5⟩ := dec_intW Tryz.underlying3 g5
 try simp at e5
 have g6 : Reads enc Tryz.prog W m 3 (([a0, a1, a2, a3, a4, a5, a6, a7, a8, a9] : List Value).drop 6 |>.take (Tryz.prog.cellsOf 3)) y6 := hf 6 _ rfl
 rw [show Tryz.prog.cellsOf 3 = 1 by kernel_rfl] at g6
 have p6 := bulk_pos y6.1
 obtain ⟨z6, e6, q6, r6⟩ := dec_intW Tryz.underlying3 g6
 try simp at e6
 have g7 : Reads enc Tryz.prog W m 4 (([a0, a1, a2, a3, a4, a5, a6, a7, a8, a9] : List Value).drop 7 |>.take (Tryz.prog.cellsOf 4)) y7 := hf 7 _ rfl
 rw [show Tryz.prog.cellsOf 4 = 1 by kernel_rfl] at g7
 have p7 := bulk_pos y7.1
 obtain ⟨z7, e7⟩ := dec_bool Tryz.underlying4 g7
 try simp at e7
 have g8 : Reads enc Tryz.prog W m 25 (([a0, a1, a2, a3, a4, a5, a6, a7, a8, a9] : List Value).drop 8 |>.take (Tryz.prog.cellsOf 25)) y8 := hf 8 _ rfl
 rw [show Tryz.prog.cellsOf 25 = 1 by kernel_rfl] at g8
 have p8 := bulk_pos y8.1
 obtain ⟨⟨v8, l8⟩, e8, k8, q8, c8, r8⟩ := dec_sliceW rqC (fun r => RqG (Old W) r) mRq Tryz.underlying25 (show Tryz.prog.cellsOf 28 = 10 by kernel_rfl) (by decide) (fun n cs y h => decRq n cs y h) g8
 dsimp only at e8 k8 q8 c8 r8
 have ck8 : isCell v8 = true := by obtain ⟨sa, sc, hs⟩ := rd_shape k8; rw [hs]; rfl
 have sh8 : ∃ a n c, v8 = .slice a n c := by obtain ⟨sa, sc, hs⟩ := rd_shape k8; exact ⟨_, _, _, hs⟩
 try simp at e8
 have g9 : Reads enc Tryz.prog W m 26 (([a0, a1, a2, a3, a4, a5, a6, a7, a8, a9] : List Value).drop 9 |>.take (Tryz.prog.cellsOf 26)) y9 := hf 9 _ rfl
 rw [show Tryz.prog.cellsOf 26 = 1 by kernel_rfl] at g9
 have p9 := bulk_pos y9.1
 obtain ⟨⟨v9, l9⟩, e9, k9, q9, c9, r9⟩ := dec_sliceW amC (fun a => AmG a) mAm Tryz.underlying26 (show Tryz.prog.cellsOf 175 = 5 by kernel_rfl) (by decide) (fun n cs y h => decAm n cs y h) g9
 dsimp only at e9 k9 q9 c9 r9
 have ck9 : isCell v9 = true := by obtain ⟨sa, sc, hs⟩ := rd_shape k9; rw [hs]; rfl
 have sh9 : ∃ a n c, v9 = .slice a n c := by obtain ⟨sa, sc, hs⟩ := rd_shape k9; exact ⟨_, _, _, hs⟩
 try simp at e9
 subst e0
 subst e1
 subst e2
 subst e3
 subst e4
 subst e5
 subst e6
 subst e7
 subst e8
 subst e9
 refine ⟨⟨z0, z1, z2, z3, a4, l4, z5, z6, z7, a8, a9⟩, l8, l9, rfl, fun hb => ⟨⟨⟨⟨q0, q1, q5, q6, k4, sh4, q4, sh8, sh9⟩, by unfold mRq; dsimp only; omega⟩, k8, fun x hx => ⟨q8 x hx, ?_⟩⟩, by omega, k9, by omega, fun a ha => ?_⟩⟩
 ·have h6 := sum_mem (m := mRq) hx
  omega
 ·have h6 := sum_mem (m := mAm) ha
  have h7 := q9 a ha
  have h8 : mAm a = 5 + a.path.length := rfl
  exact ⟨h7.kind, by omega, h7.cz, h7.mz, h7.pz⟩
end Go.Proofs.YtkjlihfalfbmjaaGreatDoor
