/- Own work, some of it printed by program, texts that were built one by one: a part of the proof of prepSound.proved. -/
import Derived.Test.YtkjlihfalfbmjaaGreatDoorCPSoundP2
import Derived.Test.YtkjlihfalfbmjaaGreatDoorCPSoundP3
import Derived.Test.YtkjlihfalfbmjaaGreatDoorCPSoundP0
import Derived.Test.YtkjlihfalfbmjaaGreatDoorRows
import Derived.WalkKit
import Derived.ProofKit
import Derived.OpenShut
import Derived.JoinedCond
import Derived.Carry
import Derived.Deep.Grids
import Derived.Handed
import Derived.Deep.Strs
set_option maxRecDepth 100000
namespace Go.Proofs.YtkjlihfalfbmjaaGreatDoor
open Go
theorem pcloses_spec (t : Nat) (τ : Tr) (u : Who) (iv : Value) (r : Rq) (p : HP) (hA : WiA p u iv r) (N : Nat) (ho : τ.Ok N) (hN : N ≤ 1099511627776) (hN2 : N + N ≤ 1099511627776) : Fn Tryz.prog 46 #[.agg (wiC t u iv r).toArray] [treeR t τ, p] fun v L =>
    ∃ (w : Value) (ys : List Pt), v = .agg (ptC ((closeP τ u.ses).1.ws w)).toArray ∧ ys.map Pt.pl = (closeP τ u.ses).2 ∧ (∃ a c, w = .slice a ys.length c) ∧ (∀ y ∈ ys, isCell y.aclV = true ∧ y.subsV = nilV) ∧ L = [treeR t τ, p, slR 43 8 w ys.length (ys.flatMap ptC), bigR aclR ys] := by
 refine Fn.introM (vs := [.agg (wiC t u iv r).toArray]) Tryz.func46 rfl rfl ?_
 intro F W
 refine .add (p := nilP) nilP_ok ?_
 have hlr : (ownedZ τ u.ses).reverse.length = (ownedZ τ u.ses).length := List.length_reverse
 refine .sr (.oq (.box rfl) ?_)
 rintro v L' ⟨b1, rfl, rfl⟩
 refine .oq (.allocA ze_43) ?_
 rintro v L' ⟨bx, rfl, rfl⟩
 refine .nil (.ptCast (b := b1) (l' := wiC t u iv r) (by repeat' constructor) (by exact rfl) (.then_n (.sr (.u (.fieldAddr rfl fo_99_0) (.u (.ld rfl ag_30) (.oq (.c Tryz.func32 [_] (trclone_spec t τ N ho hN)) ?_))))))
 rintro v L' ⟨c, rfl, rfl⟩
 refine .oq (.alloc ze_30) ?_
 rintro v L' ⟨b3, rfl, rfl⟩
 refine .st rfl rfl rfl sz_30 ?_
 refine .nt (.sr (.u (.fieldAddr rfl fo_99_1) (.u (.ld rfl ag_3) (.q (.build (us := [(0, _), (4, _)]) fl_43 ze_43 rfl rfl (by simp [isCell])) rfl (.oq (.allocA ze_43) ?_)))))
 rintro v L' ⟨b4, rfl, rfl⟩
 refine .oq (.storeA rfl rfl ?c19 sz_43 ?c22 ?c20 (nfz0 _ _)) ?_
 case c19 => (first | (simp [isCell]; done) | (simp [isCell, setAll, Value.cells]; done))
 case c22 => (first | (simp; done) | (simp [setAll, spl, Value.cells]; done))
 case c20 => (first | (simp; done) | (simp [setAll, spl, Value.cells]; done))
 rintro v L' rfl
 refine .nil (.ptCast (b := b4) (l' := clsC u.ses (nilV)) (by repeat' constructor) (by exact rfl) (.then_n (.seq (.sr (.u (.ld rfl ag_30) (.u (.fieldAddr rfl fo_99_1) (.u (.ld rfl ag_3) (.oq (.c Tryz.func37 [_, _] (trowned_spec c τ u.ses N ho hN)) ?_))))))))
 rintro v L' ⟨⟨ao, co, rfl⟩, rfl⟩
 refine .oq (.c Tryz.func101 [_] (back_spec _ _ _)) ?_
 rintro v L' ⟨bb, rfl, rfl⟩
 refine .nt (.block (.add (slR_nil 43 8) (.fold (p := clsJ (ptc b3 [vptr c] 30) c b4 τ u.ses (ownedZ τ u.ses).reverse 0) (q := [ptc b3 [vptr c] 30, treeR c τ, ptc b4 (clsC u.ses nilV) 43, slR 43 8 nilV 0 []]) (by repeat' constructor) (fun h hp => ⟨nilV, ⟨none, 0, rfl⟩, hp⟩) (.rangeFunc (fun i => (vint (((ownedZ τ u.ses).length : Int) - 1 - (i : Nat)), vstr ((ownedZ τ u.ses).reverse.getD i []))) (fun i => clsJ (ptc b3 [vptr c] 30) c b4 τ u.ses (ownedZ τ u.ses).reverse i) (fun i E => (6, vstr ((ownedZ τ u.ses).reverse.getD i [])) :: (22, vstr ((ownedZ τ u.ses).reverse.getD i [])) :: (21, vint (((ownedZ τ u.ses).length : Int) - 1 - (i : Nat))) :: E) (pre := [ptc bb [.slice ao (ownedZ τ u.ses).length co] 23, slR 9 1 (.slice ao (ownedZ τ u.ses).length co) (ownedZ τ u.ses).length (strs (ownedZ τ u.ses))]) (N := (ownedZ τ u.ses).length) rfl (back_iter _ _ bb _ (fun _ hp => slR_rd hp) (by have := owned_len τ u.ses; have := ho.few; omega)) rfl rfl (by repeat' constructor) (fun lr i F2 W2 X hi hX => ?_) (fun lr i F2 W2 hi => ?_) (fun D => ?_)))))
 ·refine GR.region (by rintro ⟨_, _, h⟩; exact h) rfl (.a rfl (.nil ?_))
  exact .then_n hX
 ·have hi2 : i < (ownedZ τ u.ses).reverse.length := by rw [hlr]; exact hi
  have hget : (ownedZ τ u.ses).reverse.getD i [] = (ownedZ τ u.ses).reverse[i] := by rw [List.getD_eq_getElem?_getD, List.getElem?_eq_getElem hi2]; rfl
  rw [hget]
  have hshort : ((ownedZ τ u.ses).reverse[i]).length ≤ 60 := owned_short ho (List.mem_reverse.1 (List.getElem_mem hi2))
  have hok : (closeT ((ownedZ τ u.ses).reverse.take i) τ).Ok (N + N) := (closeT_ok ((ownedZ τ u.ses).reverse.take i) ho).more (by rw [List.length_take]; have := owned_len τ u.ses; have := ho.few; omega)
  refine .open (q := fun z : Value => [ptc b3 [vptr c] 30, treeR c (closeT ((ownedZ τ u.ses).reverse.take i) τ), ptc b4 (clsC u.ses z) 43, slR 43 8 z i ((closeL ((ownedZ τ u.ses).reverse.take i) τ).flatMap ptC)]) (φ := fun z : Value => ∃ a k, z = .slice a i k) (fun _ hp => hp) ?_
  rintro z ⟨az, cz, rfl⟩
  refine .add (p := nilP) nilP_ok (GR.block (GR.seq (GR.draw (by rintro ⟨_, _, h⟩; exact h) rfl [2, 3, 7, 8] [[0, 1, 2, 3, 4, 5, 6, 7, 8], [9]] mixed (by kernel_rfl) (.go [ptc b3 _ _] (by repeat' constructor) (.k rfl (.ld rfl ag_30) (.k rfl (.move rfl) (.h2 (k := 7) rfl rfl (by kernel_rfl) rfl (.c Tryz.func98 [_] (parent_spec ((ownedZ τ u.ses).reverse[i]) (by omega))) (by repeat' constructor) (.allocA ze_37) (by repeat' constructor) ?_ ?_)))))))
  ·rintro v L' ⟨rfl, rfl⟩
   refine D.h2 (k := 7) rfl rfl (by kernel_rfl) rfl (.c Tryz.func13 [_, _] (trstat_spec c (closeT ((ownedZ τ u.ses).reverse.take i) τ) (parentZ ((ownedZ τ u.ses).reverse[i])) (N + N) hok hN2)) (by repeat' constructor) (.allocA ze_37) (by repeat' constructor) ?_ ?_
   ·rintro v L' ⟨rfl, rfl⟩
    refine D.k rfl (.move rfl) (.k rfl (.extract rfl rfl) (.k rfl (.extract rfl rfl) (.hh rfl (.allocA ze_37) ?_)))
    rintro v L' ⟨b7, rfl, rfl⟩
    refine D.hh rfl (.storeA rfl rfl ?c44 sz_37 ?c47 ?c45 (nfz0 _ _)) ?_
    case c44 => intro v hv; simp only [stC, List.mem_cons, List.not_mem_nil, or_false] at hv; rcases hv with rfl | rfl | rfl | rfl | rfl | rfl | rfl | rfl | rfl <;> rfl
    case c47 => rfl
    case c45 => simp [stC]
    rintro v L' rfl
    refine D.ph (.g0 (.kv rfl (.assign rfl) (.ph (.fin (.ptCast (b := b7) (l' := stC (statD (closeT ((ownedZ τ u.ses).reverse.take i) τ) (parentZ ((ownedZ τ u.ses).reverse[i])))) (by repeat' constructor) (by exact rfl) (.then_n (GR.seq (GR.region (by rintro ⟨_, _, h⟩; exact h) rfl (.m rfl (.u (.fieldAddr rfl fo_37_4) (.u (.ld rfl ag_3) (.u (.addW rfl rfl) (.q (.build (us := [(0, _), (1, _), (5, _)]) fl_43 ze_43 rfl rfl (by simp [isCell])) rfl (.oq (.allocA ze_43) ?_))))))))))))))
    rintro v L' ⟨b9, rfl, rfl⟩
    refine .oq (.storeA rfl rfl ?c56 sz_43 ?c59 ?c57 (nfz0 _ _)) ?_
    case c56 => (first | (simp [isCell]; done) | (simp [isCell, setAll, Value.cells]; done))
    case c59 => (first | (simp; done) | (simp [setAll, spl, Value.cells]; done))
    case c57 => (first | (simp; done) | (simp [setAll, spl, Value.cells]; done))
    rintro v L' rfl
    refine .nil (.ptCast (b := b9) (l' := ptC (delX (closeT ((ownedZ τ u.ses).reverse.take i) τ) (ownedZ τ u.ses).reverse[i])) (by repeat' constructor) (by exact rfl) (.then_n (GR.seq (GR.draw (by rintro ⟨_, _, h⟩; exact h) rfl [2, 5] [[0, 1, 3, 2, 4], [5]] mixed (by kernel_rfl) (.go [ptc b3 _ _, ptc b9 _ _] (by repeat' constructor) (.k rfl (.ld rfl ag_30) (.kv rfl (.ld rfl ag_30) (.k rfl (.to (v' := .agg (ptC (delX (closeT ((ownedZ τ u.ses).reverse.take i) τ) (ownedZ τ u.ses).reverse[i])).toArray) (.loadA rfl ag_43 (by repeat' constructor) (by simp [ptC])) (by rfl)) (.hh rfl (.c Tryz.func64 [_] (trzxid_spec c (closeT ((ownedZ τ u.ses).reverse.take i) τ))) ?_)))))))))
    rintro v L' ⟨rfl, rfl⟩
    refine D.kv rfl (.buildN (pl := [(0, 1), (1, 1), (2, 1), (3, 8)]) (us := [(0, vint (closeT ((ownedZ τ u.ses).reverse.take i) τ).zx), (3, .agg (ptC (delX (closeT ((ownedZ τ u.ses).reverse.take i) τ) (ownedZ τ u.ses).reverse[i])).toArray)]) (cells := [vint (closeT ((ownedZ τ u.ses).reverse.take i) τ).zx, vint 0, vint 0] ++ ptC (delX (closeT ((ownedZ τ u.ses).reverse.take i) τ) (ownedZ τ u.ses).reverse[i])) Tryz.underlying54 (by kernel_rfl) ze_54 rfl (fill_entry _ _ _ _ _ _ _ _ _)) (.ph (.g0 (.hh rfl (.call Tryz.func33 rfl rfl (vs := [_, _]) rfl (trapply_spec c (closeT ((ownedZ τ u.ses).reverse.take i) τ) (closeT ((ownedZ τ u.ses).reverse.take i) τ).zx 0 0 (delX (closeT ((ownedZ τ u.ses).reverse.take i) τ) (ownedZ τ u.ses).reverse[i]) [] nilP (txS_ok _ (by omega)) (N + N) hok (by show N + N + 0 ≤ _; omega))) ?_)))
    rintro v L' ⟨ue, ee, rfl, -, ⟨ae, ce, rfl⟩, rfl⟩; rw [← closeT_step hi2 τ]
    refine D.pf (GR.draw (by rintro ⟨_, _, h⟩; exact h) rfl [4, 5, 7, 9] [[0, 1, 2, 3, 4], [5], [6, 8, 7, 9]] mixed (by kernel_rfl) (.go [ptc b9 _ _, ptc b4 _ _] (by repeat' constructor) (.k rfl (.fieldAddr rfl fo_43_7) (.k rfl (.ld rfl ag_41) (.k rfl (.to (v' := .agg (ptC (delX (closeT ((ownedZ τ u.ses).reverse.take i) τ) (ownedZ τ u.ses).reverse[i])).toArray) (.loadA rfl ag_43 (by repeat' constructor) (by simp [ptC])) (by rfl)) (.k rfl (.slen rfl Tryz.underlying41 rfl) (.hh rfl (.buildSlice (vs := [_]) el_41 ze_43 rfl rfl rfl rfl (by first | (simp [Value.cells]; done) | (intro v hv; simp only [List.mem_cons, List.not_mem_nil, or_false] at hv; (repeat (first | (subst hv; rfl) | (rcases hv with hv | hv; (subst hv; rfl)))))) (by decide)) ?_)))))))
    rintro v L' ⟨b10, rfl, rfl⟩
    refine D.ph (.g0 (.hh rfl (.append1S rfl rfl rfl el_41 ze_43 rfl rfl ?c75 ?c76 (Nat.le_refl _) ?c77 (by decide) (by decide)) ?_))
    case c75 => simp only [List.map_cons, List.map_nil, List.flatten_cons, List.flatten_nil, List.append_nil]; simp only [Value.cells]; intro z hz; simp at hz; rcases hz with rfl | rfl | rfl | rfl | rfl | rfl | rfl | rfl <;> rfl
    case c76 => rfl
    case c77 => have := owned_len τ u.ses; have := ho.few; omega
    rintro v L' ⟨a8, c8, rfl, rfl⟩
    refine D.ph (.g0 (.k rfl (.indexAddr rfl rfl el_41 (by omega)) (.k rfl (.fieldAddr rfl fo_43_7) (.h2 (k := 9) rfl rfl (by kernel_rfl) rfl (.storeRdA (sz := 8) (j := i * 8) (k := 8) (vs := ptC (delX (closeT ((ownedZ τ u.ses).reverse.take i) τ) (ownedZ τ u.ses).reverse[i])) rfl rfl (pt_cells rfl rfl) sz_43 rfl ?ho82 ?hi83) (by repeat' constructor) (.store rfl rfl rfl sz_41 ?c84 (nfz0 _ _)) (by repeat' constructor) ?_ ?_))))
    case ho82 => simp
    case hi83 => omega
    case c84 => simp [clsC]
    ·rintro v L' rfl
     refine D.hh rfl (.store rfl rfl rfl sz_41 ?c88 (nfz0 _ _)) ?_
     case c88 => simp [clsC]
     rintro v L' rfl
     refine D.ph (.fin (.slCast (T := 43) (sz := 8) (m' := i + 1) (xs' := (closeL ((ownedZ τ u.ses).reverse.take (i + 1)) τ).flatMap ptC) (by repeat' constructor) (by exact rfl) (by rw [closeL_step hi2 τ, List.flatMap_append]; exact spl_app (by rw [flat8_len, closeL_len, List.length_take, Nat.min_eq_left (Nat.le_of_lt hi2)]) rfl) (.ptCast (b := b4) (l' := clsC u.ses (.slice (some ⟨a8, 0, none⟩) (i + 1) c8)) (by repeat' constructor) (by exact rfl) (.blk_n (.fold (p := clsJ (ptc b3 [vptr c] 30) c b4 τ u.ses (ownedZ τ u.ses).reverse (i + 1)) (q := [ptc b3 [vptr c] 30, treeR c (closeT ((ownedZ τ u.ses).reverse.take (i + 1)) τ), ptc b4 (clsC u.ses (.slice (some ⟨a8, 0, none⟩) (i + 1) c8)) 43, slR 43 8 (.slice (some ⟨a8, 0, none⟩) (i + 1) c8) (i + 1) ((closeL ((ownedZ τ u.ses).reverse.take (i + 1)) τ).flatMap ptC)]) (by repeat' constructor) (fun h hp => ⟨_, ⟨_, _, rfl⟩, hp⟩) ?_)))))
     exact .rnd (by repeat' constructor) (by repeat' constructor)
    rintro v L' rfl
    refine D.hh rfl (.storeRdA (sz := 8) (j := i * 8) (k := 8) (vs := ptC (delX (closeT ((ownedZ τ u.ses).reverse.take i) τ) (ownedZ τ u.ses).reverse[i])) rfl rfl (pt_cells rfl rfl) sz_43 rfl ?ho91 ?hi92) ?_
    case ho91 => simp
    case hi92 => omega
    rintro v L' rfl
    refine D.ph (.fin (.slCast (T := 43) (sz := 8) (m' := i + 1) (xs' := (closeL ((ownedZ τ u.ses).reverse.take (i + 1)) τ).flatMap ptC) (by repeat' constructor) (by exact rfl) (by rw [closeL_step hi2 τ, List.flatMap_append]; exact spl_app (by rw [flat8_len, closeL_len, List.length_take, Nat.min_eq_left (Nat.le_of_lt hi2)]) rfl) (.ptCast (b := b4) (l' := clsC u.ses (.slice (some ⟨a8, 0, none⟩) (i + 1) c8)) (by repeat' constructor) (by exact rfl) (.blk_n (.fold (p := clsJ (ptc b3 [vptr c] 30) c b4 τ u.ses (ownedZ τ u.ses).reverse (i + 1)) (q := [ptc b3 [vptr c] 30, treeR c (closeT ((ownedZ τ u.ses).reverse.take (i + 1)) τ), ptc b4 (clsC u.ses (.slice (some ⟨a8, 0, none⟩) (i + 1) c8)) 43, slR 43 8 (.slice (some ⟨a8, 0, none⟩) (i + 1) c8) (i + 1) ((closeL ((ownedZ τ u.ses).reverse.take (i + 1)) τ).flatMap ptC)]) (by repeat' constructor) (fun h hp => ⟨_, ⟨_, _, rfl⟩, hp⟩) ?_)))))
    exact .rnd (by repeat' constructor) (by repeat' constructor)
   rintro v L' ⟨b7, rfl, rfl⟩
   refine D.hh rfl (.c Tryz.func13 [_, _] (trstat_spec c (closeT ((ownedZ τ u.ses).reverse.take i) τ) (parentZ ((ownedZ τ u.ses).reverse[i])) (N + N) hok hN2)) ?_
   rintro v L' ⟨rfl, rfl⟩
   refine D.mv rfl rfl (.kv rfl (.extract rfl rfl) (.k rfl (.extract rfl rfl) (.hh rfl (.storeA rfl rfl ?c99 sz_37 ?c102 ?c100 (nfz0 _ _)) ?_)))
   case c99 => intro v hv; simp only [stC, List.mem_cons, List.not_mem_nil, or_false] at hv; rcases hv with rfl | rfl | rfl | rfl | rfl | rfl | rfl | rfl | rfl <;> rfl
   case c102 => rfl
   case c100 => simp [stC]
   rintro v L' rfl
   refine D.ph (.g0 (.kv rfl (.assign rfl) (.ph (.fin (.ptCast (b := b7) (l' := stC (statD (closeT ((ownedZ τ u.ses).reverse.take i) τ) (parentZ ((ownedZ τ u.ses).reverse[i])))) (by repeat' constructor) (by exact rfl) (.then_n (GR.seq (GR.region (by rintro ⟨_, _, h⟩; exact h) rfl (.m rfl (.u (.fieldAddr rfl fo_37_4) (.u (.ld rfl ag_3) (.u (.addW rfl rfl) (.q (.build (us := [(0, _), (1, _), (5, _)]) fl_43 ze_43 rfl rfl (by simp [isCell])) rfl (.oq (.allocA ze_43) ?_))))))))))))))
   rintro v L' ⟨b9, rfl, rfl⟩
   refine .oq (.storeA rfl rfl ?c111 sz_43 ?c114 ?c112 (nfz0 _ _)) ?_
   case c111 => (first | (simp [isCell]; done) | (simp [isCell, setAll, Value.cells]; done))
   case c114 => (first | (simp; done) | (simp [setAll, spl, Value.cells]; done))
   case c112 => (first | (simp; done) | (simp [setAll, spl, Value.cells]; done))
   rintro v L' rfl
   refine .nil (.ptCast (b := b9) (l' := ptC (delX (closeT ((ownedZ τ u.ses).reverse.take i) τ) (ownedZ τ u.ses).reverse[i])) (by repeat' constructor) (by exact rfl) (.then_n (GR.seq (GR.draw (by rintro ⟨_, _, h⟩; exact h) rfl [2, 5] [[0, 1, 3, 2, 4], [5]] mixed (by kernel_rfl) (.go [ptc b3 _ _, ptc b9 _ _] (by repeat' constructor) (.k rfl (.ld rfl ag_30) (.kv rfl (.ld rfl ag_30) (.k rfl (.to (v' := .agg (ptC (delX (closeT ((ownedZ τ u.ses).reverse.take i) τ) (ownedZ τ u.ses).reverse[i])).toArray) (.loadA rfl ag_43 (by repeat' constructor) (by simp [ptC])) (by rfl)) (.hh rfl (.c Tryz.func64 [_] (trzxid_spec c (closeT ((ownedZ τ u.ses).reverse.take i) τ))) ?_)))))))))
   rintro v L' ⟨rfl, rfl⟩
   refine D.kv rfl (.buildN (pl := [(0, 1), (1, 1), (2, 1), (3, 8)]) (us := [(0, vint (closeT ((ownedZ τ u.ses).reverse.take i) τ).zx), (3, .agg (ptC (delX (closeT ((ownedZ τ u.ses).reverse.take i) τ) (ownedZ τ u.ses).reverse[i])).toArray)]) (cells := [vint (closeT ((ownedZ τ u.ses).reverse.take i) τ).zx, vint 0, vint 0] ++ ptC (delX (closeT ((ownedZ τ u.ses).reverse.take i) τ) (ownedZ τ u.ses).reverse[i])) Tryz.underlying54 (by kernel_rfl) ze_54 rfl (fill_entry _ _ _ _ _ _ _ _ _)) (.ph (.g0 (.hh rfl (.call Tryz.func33 rfl rfl (vs := [_, _]) rfl (trapply_spec c (closeT ((ownedZ τ u.ses).reverse.take i) τ) (closeT ((ownedZ τ u.ses).reverse.take i) τ).zx 0 0 (delX (closeT ((ownedZ τ u.ses).reverse.take i) τ) (ownedZ τ u.ses).reverse[i]) [] nilP (txS_ok _ (by omega)) (N + N) hok (by show N + N + 0 ≤ _; omega))) ?_)))
   rintro v L' ⟨ue, ee, rfl, -, ⟨ae, ce, rfl⟩, rfl⟩; rw [← closeT_step hi2 τ]
   refine D.pf (GR.draw (by rintro ⟨_, _, h⟩; exact h) rfl [4, 5, 7, 9] [[0, 1, 2, 3, 4], [5], [6, 8, 7, 9]] mixed (by kernel_rfl) (.go [ptc b9 _ _, ptc b4 _ _] (by repeat' constructor) (.k rfl (.fieldAddr rfl fo_43_7) (.k rfl (.ld rfl ag_41) (.k rfl (.to (v' := .agg (ptC (delX (closeT ((ownedZ τ u.ses).reverse.take i) τ) (ownedZ τ u.ses).reverse[i])).toArray) (.loadA rfl ag_43 (by repeat' constructor) (by simp [ptC])) (by rfl)) (.k rfl (.slen rfl Tryz.underlying41 rfl) (.hh rfl (.buildSlice (vs := [_]) el_41 ze_43 rfl rfl rfl rfl (by first | (simp [Value.cells]; done) | (intro v hv; simp only [List.mem_cons, List.not_mem_nil, or_false] at hv; (repeat (first | (subst hv; rfl) | (rcases hv with hv | hv; (subst hv; rfl)))))) (by decide)) ?_)))))))
   rintro v L' ⟨b10, rfl, rfl⟩
   refine D.ph (.g0 (.hh rfl (.append1S rfl rfl rfl el_41 ze_43 rfl rfl ?c130 ?c131 (Nat.le_refl _) ?c132 (by decide) (by decide)) ?_))
   case c130 => simp only [List.map_cons, List.map_nil, List.flatten_cons, List.flatten_nil, List.append_nil]; simp only [Value.cells]; intro z hz; simp at hz; rcases hz with rfl | rfl | rfl | rfl | rfl | rfl | rfl | rfl <;> rfl
   case c131 => rfl
   case c132 => have := owned_len τ u.ses; have := ho.few; omega
   rintro v L' ⟨a8, c8, rfl, rfl⟩
   refine D.ph (.g0 (.k rfl (.indexAddr rfl rfl el_41 (by omega)) (.k rfl (.fieldAddr rfl fo_43_7) (.h2 (k := 9) rfl rfl (by kernel_rfl) rfl (.storeRdA (sz := 8) (j := i * 8) (k := 8) (vs := ptC (delX (closeT ((ownedZ τ u.ses).reverse.take i) τ) (ownedZ τ u.ses).reverse[i])) rfl rfl (pt_cells rfl rfl) sz_43 rfl ?ho137 ?hi138) (by repeat' constructor) (.store rfl rfl rfl sz_41 ?c139 (nfz0 _ _)) (by repeat' constructor) ?_ ?_))))
   case ho137 => simp
   case hi138 => omega
   case c139 => simp [clsC]
   ·rintro v L' rfl
    refine D.hh rfl (.store rfl rfl rfl sz_41 ?c143 (nfz0 _ _)) ?_
    case c143 => simp [clsC]
    rintro v L' rfl
    refine D.ph (.fin (.slCast (T := 43) (sz := 8) (m' := i + 1) (xs' := (closeL ((ownedZ τ u.ses).reverse.take (i + 1)) τ).flatMap ptC) (by repeat' constructor) (by exact rfl) (by rw [closeL_step hi2 τ, List.flatMap_append]; exact spl_app (by rw [flat8_len, closeL_len, List.length_take, Nat.min_eq_left (Nat.le_of_lt hi2)]) rfl) (.ptCast (b := b4) (l' := clsC u.ses (.slice (some ⟨a8, 0, none⟩) (i + 1) c8)) (by repeat' constructor) (by exact rfl) (.blk_n (.fold (p := clsJ (ptc b3 [vptr c] 30) c b4 τ u.ses (ownedZ τ u.ses).reverse (i + 1)) (q := [ptc b3 [vptr c] 30, treeR c (closeT ((ownedZ τ u.ses).reverse.take (i + 1)) τ), ptc b4 (clsC u.ses (.slice (some ⟨a8, 0, none⟩) (i + 1) c8)) 43, slR 43 8 (.slice (some ⟨a8, 0, none⟩) (i + 1) c8) (i + 1) ((closeL ((ownedZ τ u.ses).reverse.take (i + 1)) τ).flatMap ptC)]) (by repeat' constructor) (fun h hp => ⟨_, ⟨_, _, rfl⟩, hp⟩) ?_)))))
    exact .rnd (by repeat' constructor) (by repeat' constructor)
   rintro v L' rfl
   refine D.hh rfl (.storeRdA (sz := 8) (j := i * 8) (k := 8) (vs := ptC (delX (closeT ((ownedZ τ u.ses).reverse.take i) τ) (ownedZ τ u.ses).reverse[i])) rfl rfl (pt_cells rfl rfl) sz_43 rfl ?ho146 ?hi147) ?_
   case ho146 => simp
   case hi147 => omega
   rintro v L' rfl
   refine D.ph (.fin (.slCast (T := 43) (sz := 8) (m' := i + 1) (xs' := (closeL ((ownedZ τ u.ses).reverse.take (i + 1)) τ).flatMap ptC) (by repeat' constructor) (by exact rfl) (by rw [closeL_step hi2 τ, List.flatMap_append]; exact spl_app (by rw [flat8_len, closeL_len, List.length_take, Nat.min_eq_left (Nat.le_of_lt hi2)]) rfl) (.ptCast (b := b4) (l' := clsC u.ses (.slice (some ⟨a8, 0, none⟩) (i + 1) c8)) (by repeat' constructor) (by exact rfl) (.blk_n (.fold (p := clsJ (ptc b3 [vptr c] 30) c b4 τ u.ses (ownedZ τ u.ses).reverse (i + 1)) (q := [ptc b3 [vptr c] 30, treeR c (closeT ((ownedZ τ u.ses).reverse.take (i + 1)) τ), ptc b4 (clsC u.ses (.slice (some ⟨a8, 0, none⟩) (i + 1) c8)) 43, slR 43 8 (.slice (some ⟨a8, 0, none⟩) (i + 1) c8) (i + 1) ((closeL ((ownedZ τ u.ses).reverse.take (i + 1)) τ).flatMap ptC)]) (by repeat' constructor) (fun h hp => ⟨_, ⟨_, _, rfl⟩, hp⟩) ?_)))))
   exact .rnd (by repeat' constructor) (by repeat' constructor)
  rintro v L' ⟨b7, rfl, rfl⟩
  refine D.hh rfl (.c Tryz.func98 [_] (parent_spec ((ownedZ τ u.ses).reverse[i]) (by omega))) ?_
  rintro v L' ⟨rfl, rfl⟩
  refine D.hh rfl (.c Tryz.func13 [_, _] (trstat_spec c (closeT ((ownedZ τ u.ses).reverse.take i) τ) (parentZ ((ownedZ τ u.ses).reverse[i])) (N + N) hok hN2)) ?_
  rintro v L' ⟨rfl, rfl⟩
  refine D.mv rfl rfl (.kv rfl (.extract rfl rfl) (.k rfl (.extract rfl rfl) (.hh rfl (.storeA rfl rfl ?c156 sz_37 ?c159 ?c157 (nfz0 _ _)) ?_)))
  case c156 => intro v hv; simp only [stC, List.mem_cons, List.not_mem_nil, or_false] at hv; rcases hv with rfl | rfl | rfl | rfl | rfl | rfl | rfl | rfl | rfl <;> rfl
  case c159 => rfl
  case c157 => simp [stC]
  rintro v L' rfl
  refine D.ph (.g0 (.kv rfl (.assign rfl) (.ph (.fin (.ptCast (b := b7) (l' := stC (statD (closeT ((ownedZ τ u.ses).reverse.take i) τ) (parentZ ((ownedZ τ u.ses).reverse[i])))) (by repeat' constructor) (by exact rfl) (.then_n (GR.seq (GR.region (by rintro ⟨_, _, h⟩; exact h) rfl (.m rfl (.u (.fieldAddr rfl fo_37_4) (.u (.ld rfl ag_3) (.u (.addW rfl rfl) (.q (.build (us := [(0, _), (1, _), (5, _)]) fl_43 ze_43 rfl rfl (by simp [isCell])) rfl (.oq (.allocA ze_43) ?_))))))))))))))
  rintro v L' ⟨b9, rfl, rfl⟩
  refine .oq (.storeA rfl rfl ?c168 sz_43 ?c171 ?c169 (nfz0 _ _)) ?_
  case c168 => (first | (simp [isCell]; done) | (simp [isCell, setAll, Value.cells]; done))
  case c171 => (first | (simp; done) | (simp [setAll, spl, Value.cells]; done))
  case c169 => (first | (simp; done) | (simp [setAll, spl, Value.cells]; done))
  rintro v L' rfl
  refine .nil (.ptCast (b := b9) (l' := ptC (delX (closeT ((ownedZ τ u.ses).reverse.take i) τ) (ownedZ τ u.ses).reverse[i])) (by repeat' constructor) (by exact rfl) (.then_n (GR.seq (GR.draw (by rintro ⟨_, _, h⟩; exact h) rfl [2, 5] [[0, 1, 3, 2, 4], [5]] mixed (by kernel_rfl) (.go [ptc b3 _ _, ptc b9 _ _] (by repeat' constructor) (.k rfl (.ld rfl ag_30) (.kv rfl (.ld rfl ag_30) (.k rfl (.to (v' := .agg (ptC (delX (closeT ((ownedZ τ u.ses).reverse.take i) τ) (ownedZ τ u.ses).reverse[i])).toArray) (.loadA rfl ag_43 (by repeat' constructor) (by simp [ptC])) (by rfl)) (.hh rfl (.c Tryz.func64 [_] (trzxid_spec c (closeT ((ownedZ τ u.ses).reverse.take i) τ))) ?_)))))))))
  rintro v L' ⟨rfl, rfl⟩
  refine D.kv rfl (.buildN (pl := [(0, 1), (1, 1), (2, 1), (3, 8)]) (us := [(0, vint (closeT ((ownedZ τ u.ses).reverse.take i) τ).zx), (3, .agg (ptC (delX (closeT ((ownedZ τ u.ses).reverse.take i) τ) (ownedZ τ u.ses).reverse[i])).toArray)]) (cells := [vint (closeT ((ownedZ τ u.ses).reverse.take i) τ).zx, vint 0, vint 0] ++ ptC (delX (closeT ((ownedZ τ u.ses).reverse.take i) τ) (ownedZ τ u.ses).reverse[i])) Tryz.underlying54 (by kernel_rfl) ze_54 rfl (fill_entry _ _ _ _ _ _ _ _ _)) (.ph (.g0 (.hh rfl (.call Tryz.func33 rfl rfl (vs := [_, _]) rfl (trapply_spec c (closeT ((ownedZ τ u.ses).reverse.take i) τ) (closeT ((ownedZ τ u.ses).reverse.take i) τ).zx 0 0 (delX (closeT ((ownedZ τ u.ses).reverse.take i) τ) (ownedZ τ u.ses).reverse[i]) [] nilP (txS_ok _ (by omega)) (N + N) hok (by show N + N + 0 ≤ _; omega))) ?_)))
  rintro v L' ⟨ue, ee, rfl, -, ⟨ae, ce, rfl⟩, rfl⟩; rw [← closeT_step hi2 τ]
  refine D.pf (GR.draw (by rintro ⟨_, _, h⟩; exact h) rfl [4, 5, 7, 9] [[0, 1, 2, 3, 4], [5], [6, 8, 7, 9]] mixed (by kernel_rfl) (.go [ptc b9 _ _, ptc b4 _ _] (by repeat' constructor) (.k rfl (.fieldAddr rfl fo_43_7) (.k rfl (.ld rfl ag_41) (.k rfl (.to (v' := .agg (ptC (delX (closeT ((ownedZ τ u.ses).reverse.take i) τ) (ownedZ τ u.ses).reverse[i])).toArray) (.loadA rfl ag_43 (by repeat' constructor) (by simp [ptC])) (by rfl)) (.k rfl (.slen rfl Tryz.underlying41 rfl) (.hh rfl (.buildSlice (vs := [_]) el_41 ze_43 rfl rfl rfl rfl (by first | (simp [Value.cells]; done) | (intro v hv; simp only [List.mem_cons, List.not_mem_nil, or_false] at hv; (repeat (first | (subst hv; rfl) | (rcases hv with hv | hv; (subst hv; rfl)))))) (by decide)) ?_)))))))
  rintro v L' ⟨b10, rfl, rfl⟩
  refine D.ph (.g0 (.hh rfl (.append1S rfl rfl rfl el_41 ze_43 rfl rfl ?c187 ?c188 (Nat.le_refl _) ?c189 (by decide) (by decide)) ?_))
  case c187 => simp only [List.map_cons, List.map_nil, List.flatten_cons, List.flatten_nil, List.append_nil]; simp only [Value.cells]; intro z hz; simp at hz; rcases hz with rfl | rfl | rfl | rfl | rfl | rfl | rfl | rfl <;> rfl
  case c188 => rfl
  case c189 => have := owned_len τ u.ses; have := ho.few; omega
  rintro v L' ⟨a8, c8, rfl, rfl⟩
  refine D.ph (.g0 (.k rfl (.indexAddr rfl rfl el_41 (by omega)) (.k rfl (.fieldAddr rfl fo_43_7) (.h2 (k := 9) rfl rfl (by kernel_rfl) rfl (.storeRdA (sz := 8) (j := i * 8) (k := 8) (vs := ptC (delX (closeT ((ownedZ τ u.ses).reverse.take i) τ) (ownedZ τ u.ses).reverse[i])) rfl rfl (pt_cells rfl rfl) sz_43 rfl ?ho194 ?hi195) (by repeat' constructor) (.store rfl rfl rfl sz_41 ?c196 (nfz0 _ _)) (by repeat' constructor) ?_ ?_))))
  case ho194 => simp
  case hi195 => omega
  case c196 => simp [clsC]
  ·rintro v L' rfl
   refine D.hh rfl (.store rfl rfl rfl sz_41 ?c200 (nfz0 _ _)) ?_
   case c200 => simp [clsC]
   rintro v L' rfl
   refine D.ph (.fin (.slCast (T := 43) (sz := 8) (m' := i + 1) (xs' := (closeL ((ownedZ τ u.ses).reverse.take (i + 1)) τ).flatMap ptC) (by repeat' constructor) (by exact rfl) (by rw [closeL_step hi2 τ, List.flatMap_append]; exact spl_app (by rw [flat8_len, closeL_len, List.length_take, Nat.min_eq_left (Nat.le_of_lt hi2)]) rfl) (.ptCast (b := b4) (l' := clsC u.ses (.slice (some ⟨a8, 0, none⟩) (i + 1) c8)) (by repeat' constructor) (by exact rfl) (.blk_n (.fold (p := clsJ (ptc b3 [vptr c] 30) c b4 τ u.ses (ownedZ τ u.ses).reverse (i + 1)) (q := [ptc b3 [vptr c] 30, treeR c (closeT ((ownedZ τ u.ses).reverse.take (i + 1)) τ), ptc b4 (clsC u.ses (.slice (some ⟨a8, 0, none⟩) (i + 1) c8)) 43, slR 43 8 (.slice (some ⟨a8, 0, none⟩) (i + 1) c8) (i + 1) ((closeL ((ownedZ τ u.ses).reverse.take (i + 1)) τ).flatMap ptC)]) (by repeat' constructor) (fun h hp => ⟨_, ⟨_, _, rfl⟩, hp⟩) ?_)))))
   exact .rnd (by repeat' constructor) (by repeat' constructor)
  rintro v L' rfl
  refine D.hh rfl (.storeRdA (sz := 8) (j := i * 8) (k := 8) (vs := ptC (delX (closeT ((ownedZ τ u.ses).reverse.take i) τ) (ownedZ τ u.ses).reverse[i])) rfl rfl (pt_cells rfl rfl) sz_43 rfl ?ho203 ?hi204) ?_
  case ho203 => simp
  case hi204 => omega
  rintro v L' rfl
  refine D.ph (.fin (.slCast (T := 43) (sz := 8) (m' := i + 1) (xs' := (closeL ((ownedZ τ u.ses).reverse.take (i + 1)) τ).flatMap ptC) (by repeat' constructor) (by exact rfl) (by rw [closeL_step hi2 τ, List.flatMap_append]; exact spl_app (by rw [flat8_len, closeL_len, List.length_take, Nat.min_eq_left (Nat.le_of_lt hi2)]) rfl) (.ptCast (b := b4) (l' := clsC u.ses (.slice (some ⟨a8, 0, none⟩) (i + 1) c8)) (by repeat' constructor) (by exact rfl) (.blk_n (.fold (p := clsJ (ptc b3 [vptr c] 30) c b4 τ u.ses (ownedZ τ u.ses).reverse (i + 1)) (q := [ptc b3 [vptr c] 30, treeR c (closeT ((ownedZ τ u.ses).reverse.take (i + 1)) τ), ptc b4 (clsC u.ses (.slice (some ⟨a8, 0, none⟩) (i + 1) c8)) 43, slR 43 8 (.slice (some ⟨a8, 0, none⟩) (i + 1) c8) (i + 1) ((closeL ((ownedZ τ u.ses).reverse.take (i + 1)) τ).flatMap ptC)]) (by repeat' constructor) (fun h hp => ⟨_, ⟨_, _, rfl⟩, hp⟩) ?_)))))
  exact .rnd (by repeat' constructor) (by repeat' constructor)
 refine .open (q := fun z : Value => [ptc b3 [vptr c] 30, treeR c (closeT ((ownedZ τ u.ses).reverse.take (ownedZ τ u.ses).length) τ), ptc b4 (clsC u.ses z) 43, slR 43 8 z (ownedZ τ u.ses).length ((closeL ((ownedZ τ u.ses).reverse.take (ownedZ τ u.ses).length) τ).flatMap ptC)]) (φ := fun z : Value => ∃ a k, z = .slice a (ownedZ τ u.ses).length k) (fun _ hp => hp) ?_
 rintro z ⟨az, cz, rfl⟩
 have htk : (ownedZ τ u.ses).reverse.take (ownedZ τ u.ses).length = (ownedZ τ u.ses).reverse := List.take_of_length_le (by omega)
 rw [htk]
 refine .blk_n (.then_n (.sr (.q (.to (v' := .agg (clsC u.ses (.slice az (ownedZ τ u.ses).length cz)).toArray) (.loadA rfl ag_43 (by repeat' constructor) (by simp [clsC])) (by rfl)) rfl (.oq (.storeA rfl rfl ?c207 sz_43 ?c210 ?c208 (nfz0 _ _)) ?_))))
 case c207 => simp [clsC, isCell]
 case c210 => rfl
 case c208 => simp [clsC, ptC]
 rintro v L' rfl
 refine .nil (.ptCast (b := bx) (l' := clsC u.ses (.slice az (ownedZ τ u.ses).length cz)) (by repeat' constructor) (by exact rfl) ?_)
 have hcl : (closeL (ownedZ τ u.ses).reverse τ).length = (ownedZ τ u.ses).length := by rw [closeL_len, hlr]
 refine .slCast (T := 43) (sz := 8) (m' := (closeL (ownedZ τ u.ses).reverse τ).length) (xs' := (closeL (ownedZ τ u.ses).reverse τ).flatMap ptC) (by repeat' constructor) (by omega) rfl (.add (p := bigR aclR (closeL (ownedZ τ u.ses).reverse τ)) (big_none fun y hy => ⟨(closeL_plain _ _ y hy).1, (closeL_plain _ _ y hy).2.1⟩) (.then_n (.ret ?_)))
 exact .doneM1 rfl (by repeat' constructor) (.cellA rfl ag_43 (by repeat' constructor) (by simp [clsC]) rfl) ⟨.slice az (ownedZ τ u.ses).length cz, closeL (ownedZ τ u.ses).reverse τ, rfl, map_pl fun y hy => (closeL_plain _ _ y hy).2.2.2, ⟨az, cz, by rw [hcl]⟩, fun y hy => ⟨by rw [(closeL_plain _ _ y hy).1]; rfl, (closeL_plain _ _ y hy).2.2.1⟩, rfl⟩ (by repeat' constructor) (by repeat' constructor)
theorem ptxnA_spec (t : Nat) (τ : Tr) (u : Who) (iv : Value) (r : Rq) (p : HP) (hA : WiA p u iv r) (N : Nat) (ho : τ.Ok N) (hN : N ≤ 1099511627776) (hw : TrW τ) (hN2 : N + 16 ≤ 1099511627776) (subs : List Rq) (hr : ∀ h : Hp, p h → rdS 10 h r.subsV subs.length (subs.flatMap rqC)) (hS : ∀ x ∈ subs, WiA p u iv x) (hSa : ∀ x ∈ subs, AclW x.acl) (hN3 : N + N ≤ 1099511627776) : Fn Tryz.prog 14 #[vptr t, vint u.ses, iv, .agg (rqC r).toArray] [treeR t τ, p] fun v L =>
    ∃ (y : Pt) (ys : List Pt), v = .agg (ptC y).toArray ∧ y.pl = (txnP τ u r subs).1 ∧ ys.map Pt.pl = (txnP τ u r subs).2 ∧ (isCell y.aclV = true ∧ ∃ a c, y.subsV = .slice a ys.length c) ∧ (∀ z ∈ ys, isCell z.aclV = true ∧ z.subsV = nilV) ∧ L = [treeR t τ, p, aclR y, slR 43 8 y.subsV ys.length (ys.flatMap ptC), bigR aclR ys] := by
 refine Fn.intro Tryz.func14 rfl rfl fun F W => ?_
 have hcl := hA.cells t
 refine .sr (.oq (.box rfl) ?_)
 rintro v L' ⟨b7, rfl, rfl⟩
 refine .oq (.allocA ze_43) ?_
 rintro v L' ⟨b8, rfl, rfl⟩
 refine .nil (.ptCast (b := b7) (l' := rqC r) (by repeat' constructor) (by exact rfl) (.then_n (.seq (.sm rfl (.q (.ptreq rfl rfl Tryz.underlying30) rfl (.nt (.condF rfl (.sk (.sm rfl (.m rfl (.cv Tryz.func44 [_, _] (trsession_spec t τ u.ses) ?_)))))))))))
 refine .m rfl (.u (.extract rfl rfl) (.u (.extract rfl rfl) (.u (.extract rfl rfl) (.a rfl (.a rfl (.an rfl (.sm rfl (.m rfl (.m rfl (.q (.to (v' := .agg (rqC r).toArray) (.loadA rfl ag_28 (by repeat' constructor) (by simp [rqC])) (by rfl)) rfl (.q (.to (v' := .agg (wiC t u iv r).toArray) (.buildN (pl := [(0, 1), (1, 1), (2, 1), (3, 10)]) (us := [(0, vptr t), (1, vint u.ses), (2, iv), (3, .agg (rqC r).toArray)]) (cells := wiC t u iv r) Tryz.underlying99 (by kernel_rfl) ze_99 rfl (fill_wish t u iv hA.shape r)) rfl) rfl (.oq (.allocA ze_99) ?_))))))))))))
 rintro v L' ⟨b1, rfl, rfl⟩
 refine .oq (.storeA rfl rfl ?c21 sz_99 ?c24 ?c22 (nfz0 _ _)) ?_
 case c21 => exact fun v hv => List.all_eq_true.1 hcl v hv
 case c24 => rfl
 case c22 => simp [wiC, rqC]
 rintro v L' rfl
 refine .nil (.ptCast (b := b1) (l' := wiC t u iv r) (by repeat' constructor) (by exact rfl) (.then_n (.seq (.block (.sr (.u (.fieldAddr rfl fo_28_0) (.u (.ld rfl ag_3) (.cv Tryz.func21 [_] (pchanges_spec r.kind) ?_))))))))
 refine .u (.not rfl) (.an rfl (.condB rfl (fun h30 => ?_) (fun h30 => ?_)))
 ·have hT : txnP τ u r subs = (refusal 110 (-1), []) := if_pos (by simpa using h30)
  refine .sr (.cv Tryz.func43 [_, _] (prefusal_spec 110 (-1)) ?_)
  refine .oq (.storeA rfl rfl ?c33 sz_43 ?c36 ?c34 (nfz0 _ _)) ?_
  case c33 => simp [ptC, refusal, isCell]
  case c36 => rfl
  case c34 => simp [ptC]
  rintro v L' rfl
  refine .nil (.ptCast (b := b8) (l' := [vint ((refusal 110 (-1))).kind, vstr ((refusal 110 (-1))).path, vstr ((refusal 110 (-1))).data, nilV, vint ((refusal 110 (-1))).own, vint ((refusal 110 (-1))).num, vint ((refusal 110 (-1))).err, nilV]) (by repeat' constructor) (by exact rfl) (.add (slR_nil 85 2) (.add (slR_nil 43 8) (.add (p := bigR aclR []) (fun h => big_nil h) (.then_n (.ret (.blk_r (.then_r ?_))))))))
  exact .d1 rfl (.cellA rfl ag_43 (by repeat' constructor) (by simp [spl, setAll]) rfl) ⟨refusal 110 (-1), [], rfl, by rw [hT]; rfl, by rw [hT]; rfl, ⟨rfl, none, 0, rfl⟩, (fun _ h => by cases h), rfl⟩
 have hc : changesK r.kind = true := by simpa using h30
 refine .sm rfl (.u (.not rfl) (.an rfl (.condN rfl (fun h36 => ?_) (fun h36 => ?_))))
 ·have hT : txnP τ u r subs = (refusal 67 (-1), []) := by unfold txnP; rw [if_neg (fun g => g hc), if_pos h36]
  refine .sr (.cv Tryz.func43 [_, _] (prefusal_spec 67 (-1)) ?_)
  refine .oq (.storeA rfl rfl ?c41 sz_43 ?c44 ?c42 (nfz0 _ _)) ?_
  case c41 => simp [ptC, refusal, isCell]
  case c44 => rfl
  case c42 => simp [ptC]
  rintro v L' rfl
  refine .nil (.ptCast (b := b8) (l' := [vint ((refusal 67 (-1))).kind, vstr ((refusal 67 (-1))).path, vstr ((refusal 67 (-1))).data, nilV, vint ((refusal 67 (-1))).own, vint ((refusal 67 (-1))).num, vint ((refusal 67 (-1))).err, nilV]) (by repeat' constructor) (by exact rfl) (.add (slR_nil 85 2) (.add (slR_nil 43 8) (.add (p := bigR aclR []) (fun h => big_nil h) (.then_n (.ret (.blk_r (.then_r ?_))))))))
  exact .d1 rfl (.cellA rfl ag_43 (by repeat' constructor) (by simp [spl, setAll]) rfl) ⟨refusal 67 (-1), [], rfl, by rw [hT]; rfl, by rw [hT]; rfl, ⟨rfl, none, 0, rfl⟩, (fun _ h => by cases h), rfl⟩
 refine .sr (.u (.fieldAddr rfl fo_28_0) (.u (.ld rfl ag_3) (.ui rfl rfl rfl (.an rfl (.condD rfl (fun h40 => ?_) (fun h40 => ?_))))))
 ·have hT : txnP τ u r subs = multiP τ u subs := by unfold txnP; rw [if_neg (fun g => g hc), if_neg (fun g => g h36), if_pos h40]
  refine .sr (.q (.to (v' := .agg (wiC t u iv r).toArray) (.loadA rfl ag_99 (by repeat' constructor) (by simp [wiC, rqC])) (by rfl)) rfl (.oq (.c Tryz.func45 [_] (pmulti_spec t τ u iv r p hA N ho hN hw hN2 subs hr hS hSa)) ?_))
  rintro v L' ⟨w, ys, rfl, hys, ⟨aw, cw, rfl⟩, hyk, rfl⟩
  refine .oq (.storeA rfl rfl ?c52 sz_43 ?c55 ?c53 (nfz0 _ _)) ?_
  case c52 => exact ptC_ws (by rw [(multi_acl τ u subs).1]; rfl)
  case c55 => rfl
  case c53 => simp [ptC]
  rintro v L' rfl
  refine .nil (.ptCast (b := b8) (l' := [vint ((multiP τ u subs).1).kind, vstr ((multiP τ u subs).1).path, vstr ((multiP τ u subs).1).data, (multiP τ u subs).1.aclV, vint ((multiP τ u subs).1).own, vint ((multiP τ u subs).1).num, vint ((multiP τ u subs).1).err, .slice aw ys.length cw]) (by repeat' constructor) (by exact rfl) (.add (slR_nil 85 2) (.as (q := aclR ((multiP τ u subs).1.ws (.slice aw ys.length cw))) (p := slR 85 2 nilV 0 []) (by repeat' constructor) (by show _ = slR _ _ (multiP τ u subs).1.aclV (multiP τ u subs).1.acl.length ((multiP τ u subs).1.acl.flatMap acC); rw [(multi_acl τ u subs).1, (multi_acl τ u subs).2]; rfl) (.then_n (.ret (.blk_r (.then_r ?_)))))))
  exact .d1 rfl (.cellA rfl ag_43 (by repeat' constructor) (by simp [spl, setAll]) rfl) ⟨(multiP τ u subs).1.ws (.slice aw ys.length cw), ys, rfl, by rw [hT]; exact multi_pl τ u subs _, by rw [hT]; exact hys, ⟨by show isCell (multiP τ u subs).1.aclV = true; rw [(multi_acl τ u subs).1]; rfl, aw, cw, rfl⟩, hyk, rfl⟩
 refine .sr (.u (.fieldAddr rfl fo_28_0) (.u (.ld rfl ag_3) (.ui rfl rfl rfl (.an rfl (.condD rfl (fun h46 => ?_) (fun h46 => ?_))))))
 ·have hT : txnP τ u r subs = (noopX, []) := by unfold txnP; rw [if_neg (fun g => g hc), if_neg (fun g => g h36), if_neg h40, if_pos h46]
  refine .sr (.q (.build (us := [(0, _)]) fl_43 ze_43 rfl rfl (by simp [isCell])) rfl (.oq (.storeA rfl rfl ?c61 sz_43 ?c64 ?c62 (nfz0 _ _)) ?_))
  case c61 => (first | (simp [isCell]; done) | (simp [isCell, setAll, Value.cells]; done))
  case c64 => (first | (simp; done) | (simp [setAll, spl, Value.cells]; done))
  case c62 => (first | (simp; done) | (simp [setAll, spl, Value.cells]; done))
  rintro v L' rfl
  refine .nil (.ptCast (b := b8) (l' := [vint (noopX).kind, vstr (noopX).path, vstr (noopX).data, nilV, vint (noopX).own, vint (noopX).num, vint (noopX).err, nilV]) (by repeat' constructor) (by exact rfl) (.add (slR_nil 85 2) (.add (slR_nil 43 8) (.add (p := bigR aclR []) (fun h => big_nil h) (.then_n (.ret (.blk_r (.then_r ?_))))))))
  exact .d1 rfl (.cellA rfl ag_43 (by repeat' constructor) (by simp [spl, setAll]) rfl) ⟨noopX, [], rfl, by rw [hT]; rfl, by rw [hT]; rfl, ⟨rfl, none, 0, rfl⟩, (fun _ h => by cases h), rfl⟩
 refine .sr (.u (.fieldAddr rfl fo_28_0) (.u (.ld rfl ag_3) (.ui rfl rfl rfl (.an rfl (.condD rfl (fun h51 => ?_) (fun h51 => ?_))))))
 ·have hT : txnP τ u r subs = closeP τ u.ses := by unfold txnP; rw [if_neg (fun g => g hc), if_neg (fun g => g h36), if_neg h40, if_neg h46, if_pos h51]
  refine .sr (.q (.to (v' := .agg (wiC t u iv r).toArray) (.loadA rfl ag_99 (by repeat' constructor) (by simp [wiC, rqC])) (by rfl)) rfl (.oq (.c Tryz.func46 [_] (pcloses_spec t τ u iv r p hA N ho hN hN3)) ?_))
  rintro v L' ⟨w, ys, rfl, hys, ⟨aw, cw, rfl⟩, hyk, rfl⟩
  refine .oq (.storeA rfl rfl ?c72 sz_43 ?c75 ?c73 (nfz0 _ _)) ?_
  case c72 => exact ptC_ws (by rfl)
  case c75 => rfl
  case c73 => simp [ptC]
  rintro v L' rfl
  refine .nil (.ptCast (b := b8) (l' := [vint ((closeP τ u.ses).1).kind, vstr ((closeP τ u.ses).1).path, vstr ((closeP τ u.ses).1).data, (closeP τ u.ses).1.aclV, vint ((closeP τ u.ses).1).own, vint ((closeP τ u.ses).1).num, vint ((closeP τ u.ses).1).err, .slice aw ys.length cw]) (by repeat' constructor) (by exact rfl) (.add (slR_nil 85 2) (.as (q := aclR ((closeP τ u.ses).1.ws (.slice aw ys.length cw))) (p := slR 85 2 nilV 0 []) (by repeat' constructor) rfl (.then_n (.ret (.blk_r (.then_r ?_)))))))
  exact .d1 rfl (.cellA rfl ag_43 (by repeat' constructor) (by simp [spl, setAll]) rfl) ⟨(closeP τ u.ses).1.ws (.slice aw ys.length cw), ys, rfl, by rw [hT]; rfl, by rw [hT]; exact hys, ⟨rfl, aw, cw, rfl⟩, hyk, rfl⟩
 have hk8 : r.kind ≠ 8 := h51
 refine .skip (.blk_n (.then_n (.sr (.q (.to (v' := .agg (wiC t u iv r).toArray) (.loadA rfl ag_99 (by repeat' constructor) (by simp [wiC, rqC])) (by rfl)) rfl (.oq (.c Tryz.func47 [_] (ppart_spec t τ u iv r p hA N ho hN (cver_i64 hw _))) ?_)))))
 rintro v L' ⟨w, rfl, ⟨aw, cw, rfl⟩, rfl⟩
 refine .m rfl (.u (.extract rfl rfl) (.u (.extract rfl rfl) (.oq (.allocA ze_43) ?_)))
 rintro v L' ⟨b13, rfl, rfl⟩
 refine .oq (.storeA rfl rfl ?c84 sz_43 ?c87 ?c85 (nfz0 _ _)) ?_
 case c84 => exact fun v hv => List.all_eq_true.1 (ptC_cells ⟨none, 0, 0, part_sub τ u r⟩) v hv
 case c87 => rfl
 case c85 => simp [ptC]
 rintro v L' rfl
 refine .a rfl (.nil (.ptCast (b := b13) (l' := [vint ((partP τ u r).1).kind, vstr ((partP τ u r).1).path, vstr ((partP τ u r).1).data, .slice aw (partP τ u r).1.acl.length cw, vint ((partP τ u r).1).own, vint ((partP τ u r).1).num, vint ((partP τ u r).1).err, (partP τ u r).1.subsV]) (by repeat' constructor) (by exact rfl) (.then_n (.seq (.sm rfl (.ui rfl rfl rfl (.nt (.condN rfl (fun h63 => ?_) (fun h63 => ?_)))))))))
 ·have hT : txnP τ u r subs = (refusal (partP τ u r).2 (-1), []) := by unfold txnP; rw [if_neg (fun g => g hc), if_neg (fun g => g h36), if_neg h40, if_neg h46, if_neg hk8, if_pos h63]
  refine .sm rfl (.cv Tryz.func43 [_, _] (prefusal_spec (partP τ u r).2 (-1)) ?_)
  refine .oq (.storeA rfl rfl ?c92 sz_43 ?c95 ?c93 (nfz0 _ _)) ?_
  case c92 => simp [ptC, refusal, isCell]
  case c95 => rfl
  case c93 => simp [ptC]
  rintro v L' rfl
  refine .nil (.ptCast (b := b8) (l' := [vint ((refusal (partP τ u r).2 (-1))).kind, vstr ((refusal (partP τ u r).2 (-1))).path, vstr ((refusal (partP τ u r).2 (-1))).data, nilV, vint ((refusal (partP τ u r).2 (-1))).own, vint ((refusal (partP τ u r).2 (-1))).num, vint ((refusal (partP τ u r).2 (-1))).err, nilV]) (by repeat' constructor) (by exact rfl) (.add (slR_nil 85 2) (.add (slR_nil 43 8) (.add (p := bigR aclR []) (fun h => big_nil h) (.then_n (.rt ?_))))))
  exact .d1 rfl (.cellA rfl ag_43 (by repeat' constructor) (by simp [spl, setAll]) rfl) ⟨refusal (partP τ u r).2 (-1), [], rfl, by rw [hT]; rfl, by rw [hT]; rfl, ⟨rfl, none, 0, rfl⟩, (fun _ h => by cases h), rfl⟩
 have hT : txnP τ u r subs = ((partP τ u r).1, []) := by unfold txnP; rw [if_neg (fun g => g hc), if_neg (fun g => g h36), if_neg h40, if_neg h46, if_neg hk8, if_neg (fun g => g h63)]
 refine .sk (.sr (.q (.to (v' := .agg ([vint ((partP τ u r).1).kind, vstr ((partP τ u r).1).path, vstr ((partP τ u r).1).data, .slice aw (partP τ u r).1.acl.length cw, vint ((partP τ u r).1).own, vint ((partP τ u r).1).num, vint ((partP τ u r).1).err, nilV]).toArray) (.loadA rfl ag_43 (by repeat' constructor) (by simp)) (by rw [← part_sub τ u r]; rfl)) rfl (.oq (.storeA rfl rfl ?c98 sz_43 ?c101 ?c99 (nfz0 _ _)) ?_)))
 case c98 => simp [isCell]
 case c101 => (first | (simp; done) | (simp [setAll, spl, Value.cells]; done))
 case c99 => (first | (simp; done) | (simp [setAll, spl, Value.cells]; done))
 rintro v L' rfl
 refine .nil (.ptCast (b := b8) (l' := [vint ((partP τ u r).1).kind, vstr ((partP τ u r).1).path, vstr ((partP τ u r).1).data, .slice aw (partP τ u r).1.acl.length cw, vint ((partP τ u r).1).own, vint ((partP τ u r).1).num, vint ((partP τ u r).1).err, nilV]) (by repeat' constructor) (by exact rfl) (.add (slR_nil 43 8) (.add (p := bigR aclR []) (fun h => big_nil h) (.then_n (.ret ?_)))))
 exact .d1 rfl (.cellA rfl ag_43 (by repeat' constructor) (by simp [spl, setAll]) rfl) ⟨(withA (partP τ u r).1 (.slice aw (partP τ u r).1.acl.length cw)).ws nilV, [], rfl, by rw [hT]; exact part_pl τ u r (.slice aw (partP τ u r).1.acl.length cw), by rw [hT]; rfl, ⟨rfl, none, 0, rfl⟩, (fun _ h => by cases h), rfl⟩
/-! ### What Txn answers -/
structure Good (y : Pt) : Prop where
 r : PtR y
 n : PtN y
theorem Good.of {y z : Pt} (e : y.pl = z.pl) (h : Good z) : Good y := by
 refine ⟨PtR.of e h.r, ?_⟩
 have hk : PtN z.pl := ⟨h.n.own, h.n.num, h.n.data, h.n.acl⟩
 rw [← e] at hk
 exact ⟨hk.own, hk.num, hk.data, hk.acl⟩
theorem refusal_G {e n : Int} (he : I64 e) (hn : I64 n) : Good (refusal e n) := ⟨refusal_R he hn, I64.zero, hn, by show 0 ≤ _; decide, acl_nil_w⟩
theorem part_G {τ : Tr} {u : Who} {r : Rq} {p : HP} {iv : Value} (h : WiA p u iv r) (ha : AclW r.acl) : Good (partP τ u r).1 := ⟨part_R h ha, part_n τ u h.ses (by have := h.rq.data; omega) ha⟩
theorem multiL_N {p : HP} {u : Who} {iv : Value} : ∀ {l : List Rq} {τ : Tr}, (∀ r ∈ l, WiA p u iv r ∧ AclW r.acl) → ∀ y ∈ (multiL u l τ).2.1, PtN y
 | [], _, _, _, h => by cases h
 | r :: l, τ, h, y, hy => by
  rw [multi_cons] at hy
  split at hy
  ·cases hy
  ·rcases List.mem_cons.1 hy with rfl | hy
   ·exact (part_G (h r List.mem_cons_self).1 (h r List.mem_cons_self).2).n
   ·exact multiL_N (fun x hx => h x (List.mem_cons_of_mem _ hx)) y hy
theorem multi_N {p : HP} {u : Who} {iv : Value} {l : List Rq} {τ : Tr} (h : ∀ r ∈ l, WiA p u iv r ∧ AclW r.acl) : PtN (multiP τ u l).1 ∧ ∀ y ∈ (multiP τ u l).2, PtN y := by
 have hm : I64 (-1) := ⟨by decide, by decide⟩
 unfold multiP
 split
 ·exact ⟨(refusal_G ⟨by decide, by decide⟩ hm).n, fun _ g => by cases g⟩
 ·rename_i hl
  split
  ·rename_i i e he
   have hie : i < 8 ∧ 0 ≤ e ∧ e ≤ 110 := by
    have := multi_stop_i he
    omega
   exact ⟨(refusal_G ⟨by omega, by omega⟩ ⟨by omega, by omega⟩).n, fun _ g => by cases g⟩
  ·exact ⟨⟨I64.zero, I64.zero, Nat.zero_le _, acl_nil_w⟩, multiL_N h⟩
theorem del_N {τ : Tr} {p : Bs} : PtN (delX τ p) := ⟨I64.zero, wrap_i64 _, Nat.zero_le _, acl_nil_w⟩
theorem closeL_N : ∀ {l : List Bs} {τ : Tr}, ∀ y ∈ closeL l τ, PtN y ∧ y.kind = 2
 | [], _, _, h => by cases h
 | p :: l, τ, y, hy => by
  rcases List.mem_cons.1 (show y ∈ delX τ p :: closeL l _ from hy) with rfl | hy
  ·exact ⟨del_N, rfl⟩
  ·exact closeL_N y hy
structure TxnG (N : Nat) (y : Pt) (l : List Pt) : Prop where
 x : Good y
 each : ∀ z ∈ l, Good z
 len : l.length ≤ 8 ∨ (y.kind = 6 ∧ l.length ≤ N ∧ ∀ z ∈ l, z.kind = 2)
theorem txn_G {τ : Tr} {N : Nat} (ho : τ.Ok N) {u : Who} {r : Rq} {p : HP} {iv : Value} {subs : List Rq} (hd : WiD p u iv r subs) : TxnG N (txnP τ u r subs).1 (txnP τ u r subs).2 := by
 have hm : I64 (-1) := ⟨by decide, by decide⟩
 have few : ∀ {x : Pt}, Good x → TxnG N x [] := fun h => ⟨h, (fun _ g => by cases g), .inl (Nat.zero_le _)⟩
 unfold txnP
 split
 ·exact few (refusal_G ⟨by decide, by decide⟩ hm)
 split
 ·exact few (refusal_G ⟨by decide, by decide⟩ hm)
 split
 ·have h1 := multi_R (τ := τ) (u := u) (l := subs) (fun x hx => ⟨hd.each x hx, hd.acls x hx⟩)
  have h2 := multi_N (τ := τ) (u := u) (l := subs) (fun x hx => ⟨hd.each x hx, hd.acls x hx⟩)
  exact ⟨⟨h1.1, h2.1⟩, fun z hz => ⟨h1.2.1 z hz, h2.2 z hz⟩, .inl h1.2.2⟩
 split
 ·exact few ⟨⟨⟨I64.zero, I64.zero, I64.zero, I64.zero, by show 0 < U64; decide, by show 0 < U64; decide, by show 0 < U64; decide, fun a ha => by cases ha⟩, acl_nil_w.long, Nat.zero_le _, Nat.zero_le _, Nat.zero_le _⟩, I64.zero, I64.zero, Nat.zero_le _, acl_nil_w⟩
 split
 ·have hcl : (closeL (ownedZ τ u.ses).reverse τ).length = (ownedZ τ u.ses).length := by rw [closeL_len, List.length_reverse]
  have hfew := owned_len τ u.ses
  have hon := ho.few
  have hL := closeL_R (l := (ownedZ τ u.ses).reverse) (τ := τ) (fun q hq => owned_short ho (List.mem_reverse.1 hq))
  refine ⟨⟨⟨⟨⟨by show (-9223372036854775808 : Int) ≤ 6; decide, by show (6 : Int) ≤ 9223372036854775807; decide⟩, hd.w.ses, I64.zero, I64.zero, by show 0 < U64; decide, by show 0 < U64; decide, by show 0 < U64; decide, fun a ha => by cases ha⟩, acl_nil_w.long, Nat.zero_le _, Nat.zero_le _, Nat.zero_le _⟩, hd.w.ses, I64.zero, Nat.zero_le _, acl_nil_w⟩, fun z hz => ⟨(hL z hz).1, (closeL_N z hz).1⟩, .inr ⟨rfl, ?_, fun z hz => (closeL_N z hz).2⟩⟩
  show (closeL (ownedZ τ u.ses).reverse τ).length ≤ N
  omega
 split
 ·have := part_code τ u r
  exact few (refusal_G ⟨by omega, by omega⟩ hm)
 ·exact few (part_G hd.w hd.a)
theorem TxnG.of {N : Nat} {x y : Pt} {l ys : List Pt} (h : TxnG N x l) (hy : y.pl = x) (hys : ys.map Pt.pl = l) : TxnG N y ys := by
 subst hy; subst hys
 refine ⟨Good.of (z := y.pl) rfl h.x, fun z hz => Good.of (z := z.pl) rfl (h.each _ (List.mem_map_of_mem hz)), ?_⟩
 rcases h.len with h1 | ⟨h1, h2, h3⟩
 ·exact .inl (by rwa [List.length_map] at h1)
 ·exact .inr ⟨h1, by rwa [List.length_map] at h2, fun z hz => h3 z.pl (List.mem_map_of_mem (f := Pt.pl) hz)⟩
theorem TxnG.few {N : Nat} {x : Pt} {l : List Pt} (h : TxnG N x l) (hN : N ≤ 1048576) : l.length ≤ 1048576 := by
 rcases h.len with h1 | ⟨-, h2, -⟩ <;> omega
theorem TxnG.tx {N : Nat} {y : Pt} {ys : List Pt} (h : TxnG N y ys) (hN : N ≤ 1048576) (z s i : Int) (hc : isCell y.aclV = true ∧ ∃ a c, y.subsV = .slice a ys.length c) (hcs : ∀ z ∈ ys, isCell z.aclV = true ∧ z.subsV = nilV) : TxA (entR ⟨z, s, i, y, ys⟩) y ys := by
 refine ⟨⟨fun _ hp => ent_acl hp, h.x.r.many, h.x.r.path, ?_, hc.1⟩, fun _ hp => ent_subs hp, h.few hN, fun w hw => ⟨fun _ hp => ent_each hp hw, (h.each w hw).r.many, (h.each w hw).r.path, by rw [(hcs w hw).2]; rfl, (hcs w hw).1⟩⟩
 obtain ⟨a, c, e⟩ := hc.2
 rw [e]; rfl
theorem TxnG.n {N : Nat} {y : Pt} {ys : List Pt} (h : TxnG N y ys) {z s i : Int} (hz : I64 z) : EnN ⟨z, s, i, y, ys⟩ := ⟨hz, h.x.n, fun w hw => (h.each w hw).n⟩
theorem TxnG.w {N : Nat} {y : Pt} {ys : List Pt} (h : TxnG N y ys) {τ : Tr} (hw : TrW τ) {z : Int} (hz : I64 z) : TrW (applyZ τ z y ys).1 := hw.app (h.n (s := 0) (i := 0) hz)
theorem parts_plm (τ : Tr) (zx : Int) (l : List Pt) : partsZ τ zx (l.map Pt.pl) = partsZ τ zx l := by
 unfold partsZ
 rw [List.foldl_map]; rfl
theorem filter_plm (l : List Pt) : (l.map Pt.pl).filter isDel = (l.filter isDel).map Pt.pl := by
 rw [List.filter_map]; rfl
theorem apply_plm (τ : Tr) (zx : Int) (y : Pt) (ys : List Pt) : applyZ τ zx y.pl (ys.map Pt.pl) = applyZ τ zx y ys := by
 unfold applyZ
 dsimp only
 rw [filter_plm, parts_plm, parts_plm]; rfl
/-! ### Wishes of a list -/
structure Wh where
 ses : Int
 opn : Bool
 idv : Value
 ids : List Bs
 r : Rq
 subs : List Rq
def whC (w : Wh) : List Value := [vint w.ses, .bool w.opn, w.idv] ++ rqC w.r
structure WhA (p : HP) (w : Wh) : Prop where
 ses : I64 w.ses
 d : ∀ s, I64 s → WiD p ⟨s, w.ids⟩ w.idv w.r w.subs
structure WhsA (p : HP) (v : Value) (l : List Wh) : Prop where
 cells : ∀ h : Hp, p h → rdS 13 h v l.length (l.flatMap whC)
 len : l.length ≤ 1048576
 each : ∀ w ∈ l, WhA p w
def sesK (c : Int) : Int := 1 + pickZ c 5
theorem sesK_rng (c : Int) : 1 ≤ sesK c ∧ sesK c ≤ 5 := by
 have := pickZ_range c (n := 5) (by decide)
 unfold sesK; omega
theorem sesK_i (c : Int) : I64 (sesK c) := by
 have := sesK_rng c
 exact ⟨by omega, by omega⟩
def openP (s : Int) : Pt := ⟨5, [], [], nilV, [], s, 10, 0, nilV⟩
theorem openP_G {s : Int} (hs : I64 s) : Good (openP s) := ⟨⟨⟨⟨by show (-9223372036854775808 : Int) ≤ 5; decide, by show (5 : Int) ≤ 9223372036854775807; decide⟩, hs, ⟨by show (-9223372036854775808 : Int) ≤ 10; decide, by show (10 : Int) ≤ 9223372036854775807; decide⟩, I64.zero, by show 0 < U64; decide, by show 0 < U64; decide, by show 0 < U64; decide, fun a ha => by cases ha⟩, acl_nil_w.long, Nat.zero_le _, Nat.zero_le _, Nat.zero_le _⟩, hs, ⟨by show (-9223372036854775808 : Int) ≤ 10; decide, by show (10 : Int) ≤ 9223372036854775807; decide⟩, Nat.zero_le _, acl_nil_w⟩
theorem openP_T {s : Int} (hs : I64 s) (N : Nat) : TxnG N (openP s) [] := ⟨openP_G hs, (fun _ g => by cases g), .inl (Nat.zero_le _)⟩
def ansW (τ : Tr) (w : Wh) : Pt × List Pt := if w.opn = true then (openP (sesK w.ses), []) else txnP τ ⟨sesK w.ses, w.ids⟩ w.r w.subs
theorem ans_G {τ : Tr} {N : Nat} (ho : τ.Ok N) {p : HP} {w : Wh} (h : WhA p w) : TxnG N (ansW τ w).1 (ansW τ w).2 := by
 unfold ansW
 split
 ·exact openP_T (sesK_i _) N
 ·exact txn_G ho (h.d _ (sesK_i _))
def xidW (w : Wh) : Int := if w.opn = true then 0 else w.r.xid
/-! ### A part alone -/
theorem fill_e013 (a b : Int) (s0 s1 s2 s3 s4 s5 s6 s7 : Value) : Instr.fill (fun i => [(0, 1), (1, 1), (2, 1), (3, 8)].toArray[i]?) (([.int .i64 0, .int .i64 0, .int .i64 0, .int .i64 0, .string (bs []), .string (bs []), .slice none 0 0, .int .i64 0, .int .i64 0, .int .i64 0, .slice none 0 0] : List Value).toArray) [(0, vint a), (1, vint b), (3, .agg ([s0, s1, s2, s3, s4, s5, s6, s7] : List Value).toArray)] = some (([vint a, vint b, vint 0] ++ [s0, s1, s2, s3, s4, s5, s6, s7] : List Value).toArray) := by kernel_rfl
theorem fill_e0123 (a b c : Int) (s0 s1 s2 s3 s4 s5 s6 s7 : Value) : Instr.fill (fun i => [(0, 1), (1, 1), (2, 1), (3, 8)].toArray[i]?) (([.int .i64 0, .int .i64 0, .int .i64 0, .int .i64 0, .string (bs []), .string (bs []), .slice none 0 0, .int .i64 0, .int .i64 0, .int .i64 0, .slice none 0 0] : List Value).toArray) [(0, vint a), (1, vint b), (2, vint c), (3, .agg ([s0, s1, s2, s3, s4, s5, s6, s7] : List Value).toArray)] = some (([vint a, vint b, vint c] ++ [s0, s1, s2, s3, s4, s5, s6, s7] : List Value).toArray) := by kernel_rfl
theorem en_cells {a b c : Int} {y : Pt} {l : List Pt} (h1 : isCell y.aclV = true) (h2 : isCell y.subsV = true) : ∀ v ∈ enC ⟨a, b, c, y, l⟩, isCell v = true := by
 intro v hv
 simp only [enC, ptC, List.cons_append, List.nil_append, List.mem_cons, List.not_mem_nil, or_false] at hv
 rcases hv with rfl | rfl | rfl | rfl | rfl | rfl | rfl | rfl | rfl | rfl | rfl <;> first | rfl | assumption
theorem entry12_spec (t : Nat) (τ : Tr) (w : Wh) (zx : Int) (p : HP) (hW : WhA p w) (N : Nat) (ho : τ.Ok N) (hN : N ≤ 524288) (hw : TrW τ) : Fn Tryz.prog 28 #[vptr t, .agg (whC w).toArray, vint zx] [treeR t τ, p] fun v L =>
    ∃ (y : Pt) (ys : List Pt), v = .agg (enC ⟨zx, sesK w.ses, xidW w, y, ys⟩).toArray ∧ y.pl = (ansW τ w).1 ∧ ys.map Pt.pl = (ansW τ w).2 ∧ (isCell y.aclV = true ∧ ∃ a c, y.subsV = .slice a ys.length c) ∧ (∀ z ∈ ys, isCell z.aclV = true ∧ z.subsV = nilV) ∧ L = [treeR t τ, p, entR ⟨zx, sesK w.ses, xidW w, y, ys⟩] := by
 refine Fn.intro Tryz.func28 rfl rfl fun F W => ?_
 have hs := sesK_i w.ses
 have hsr := sesK_rng w.ses
 have hpk := pickZ_range w.ses (n := 5) (by decide)
 have hD := hW.d _ hs
 refine .sr (.oq (.box rfl) ?_)
 rintro v L' ⟨b4, rfl, rfl⟩
 refine .oq (.allocA ze_54) ?_
 rintro v L' ⟨b6, rfl, rfl⟩
 refine .nil (.ptCast (b := b4) (l' := whC w) (by repeat' constructor) (by exact rfl) (.then_n (.sr (.u (.fieldAddr rfl fo_67_0) (.u (.ld rfl ag_3) (.cv Tryz.func12 [_, _] (pick12_spec w.ses 5 hW.ses (by decide)) ?_))))))
 refine .q (.to (v' := vint (sesK w.ses)) (.add rfl rfl (by omega)) rfl) rfl (.an rfl (.seq (.sr (.u (.fieldAddr rfl fo_67_1) (.u (.ld rfl ag_4) (.nt (.condB rfl (fun h13 => ?_) (fun h13 => ?_))))))))
 ·have e1 : ansW τ w = (openP (sesK w.ses), []) := if_pos h13
  have e2 : xidW w = 0 := if_pos h13
  refine .sm rfl (.m rfl (.m rfl (.q (.to (v' := .agg (ptC (openP (sesK w.ses))).toArray) (.build (us := [(0, _), (4, _), (5, _)]) fl_43 ze_43 rfl rfl (by simp [isCell])) rfl) rfl (.q (.to (v' := .agg (enC (⟨zx, sesK w.ses, 0, openP (sesK w.ses), []⟩ : En)).toArray) (.buildN (pl := [(0, 1), (1, 1), (2, 1), (3, 8)]) (us := [(0, vint (⟨zx, sesK w.ses, 0, openP (sesK w.ses), []⟩ : En).zx), (1, vint (⟨zx, sesK w.ses, 0, openP (sesK w.ses), []⟩ : En).ses), (3, .agg (ptC (⟨zx, sesK w.ses, 0, openP (sesK w.ses), []⟩ : En).x).toArray)]) (cells := enC (⟨zx, sesK w.ses, 0, openP (sesK w.ses), []⟩ : En)) Tryz.underlying54 (by kernel_rfl) ze_54 rfl (fill_e013 _ _ _ _ _ _ _ _ _ _)) rfl) rfl (.oq (.storeA rfl rfl ?c15 sz_54 ?c18 ?c16 (nfz0 _ _)) ?_)))))
  case c15 => exact en_cells rfl rfl
  case c18 => rfl
  case c16 => simp [enC, ptC]
  rintro v L' rfl
  refine .nil (.ptCast (b := b6) (l' := enC (⟨zx, sesK w.ses, 0, openP (sesK w.ses), []⟩ : En)) (by repeat' constructor) (by exact rfl) (.add (slR_nil 85 2) (.add (slR_nil 43 8) (.add (p := bigR aclR []) (fun h => big_nil h) (.fold (p := entR (⟨zx, sesK w.ses, 0, openP (sesK w.ses), []⟩ : En)) (q := [aclR (openP (sesK w.ses)), slR 43 8 (openP (sesK w.ses)).subsV ([] : List Pt).length (([] : List Pt).flatMap ptC), bigR aclR ([] : List Pt)]) (by repeat' constructor) (fun _ h => h) (.then_n (.rt ?_)))))))
  exact .d1 rfl (.cellA rfl ag_54 (by repeat' constructor) (by simp [spl, setAll, enC, ptC]) rfl) ⟨openP (sesK w.ses), [], by rw [e2]; rfl, by rw [e1]; rfl, by rw [e1]; rfl, ⟨rfl, none, 0, rfl⟩, (fun _ h => by cases h), by rw [e2]⟩
 have h13n : ¬ w.opn = true := by rw [h13]; decide
 have e1 : ansW τ w = txnP τ (⟨sesK w.ses, w.ids⟩ : Who) w.r w.subs := if_neg h13n
 have e2 : xidW w = w.r.xid := if_neg h13n
 refine .sk (.seq (.draw [11, 13] [[0, 1, 2, 3, 4, 5, 6, 7, 8, 9, 10, 11], [12, 13]] mixed (by kernel_rfl) (.go [ptc b4 _ _] (by repeat' constructor) (.k rfl (.move rfl) (.k rfl (.move rfl) (.k rfl (.fieldAddr rfl fo_67_3) (.k rfl (.fieldAddr rfl fo_28_1) (.k rfl (.ld rfl ag_3) (.mv rfl rfl (.mv rfl rfl (.kv rfl (.fieldAddr rfl fo_67_2) (.kv rfl (.ld rfl ag_23) (.kv rfl (.fieldAddr rfl fo_67_3) (.kv rfl (.to (v' := .agg (rqC w.r).toArray) (.loadA rfl ag_28 (by repeat' constructor) (by simp [whC, rqC])) (by rfl)) (.hh rfl (.c Tryz.func14 [_, _, _, _] (ptxnA_spec t τ (⟨sesK w.ses, w.ids⟩ : Who) w.idv w.r p hD.w N ho (by omega) hw (by omega) w.subs hD.rd hD.each hD.acls (by omega))) ?_)))))))))))))))
 rintro v L' ⟨y, ys, rfl, hy, hys, ⟨hc, a1, c1, hsub⟩, hyk, rfl⟩
 refine D.ph (.g0 (.kv rfl (.to (v' := .agg (enC (⟨zx, sesK w.ses, w.r.xid, y, ys⟩ : En)).toArray) (.buildN (pl := [(0, 1), (1, 1), (2, 1), (3, 8)]) (us := [(0, vint (⟨zx, sesK w.ses, w.r.xid, y, ys⟩ : En).zx), (1, vint (⟨zx, sesK w.ses, w.r.xid, y, ys⟩ : En).ses), (2, vint (⟨zx, sesK w.ses, w.r.xid, y, ys⟩ : En).xid), (3, .agg (ptC (⟨zx, sesK w.ses, w.r.xid, y, ys⟩ : En).x).toArray)]) (cells := enC (⟨zx, sesK w.ses, w.r.xid, y, ys⟩ : En)) Tryz.underlying54 (by kernel_rfl) ze_54 rfl (fill_e0123 _ _ _ _ _ _ _ _ _ _ _)) rfl) (.hh rfl (.storeA rfl rfl ?c32 sz_54 ?c35 ?c33 (nfz0 _ _)) ?_)))
 case c32 => exact en_cells hc (by rw [hsub]; rfl)
 case c35 => rfl
 case c33 => simp [enC, ptC]
 rintro v L' rfl
 refine D.ph (.fin (.ptCast (b := b6) (l' := enC (⟨zx, sesK w.ses, w.r.xid, y, ys⟩ : En)) (by repeat' constructor) (by exact rfl) (.fold (p := entR (⟨zx, sesK w.ses, w.r.xid, y, ys⟩ : En)) (q := [aclR y, slR 43 8 y.subsV ys.length (ys.flatMap ptC), bigR aclR ys]) (by repeat' constructor) (fun _ h => h) (.then_n (.ret ?_)))))
 exact .d1 rfl (.cellA rfl ag_54 (by repeat' constructor) (by simp [spl, setAll, enC, ptC]) rfl) ⟨y, ys, by rw [e2]; rfl, by rw [e1]; exact hy, by rw [e1]; exact hys, ⟨hc, a1, c1, hsub⟩, hyk, by rw [e2]⟩
/-! ### Numbered names -/
theorem digits_c : ∀ (u : Nat), ∀ c ∈ Lib.decDigits u, c ≠ (47 : UInt8) := by
 intro u
 induction u using Nat.strongRecOn with
 | ind u ih =>
  intro c hc
  rw [Lib.decDigits] at hc
  have key : ∀ k, k < 10 → UInt8.ofNat (48 + k) ≠ (47 : UInt8) := by decide
  split at hc
  ·rename_i h
   rw [List.mem_singleton] at hc
   subst hc; exact key u h
  ·rcases List.mem_append.1 hc with hc | hc
   ·exact ih (u / 10) (by omega) c hc
   ·rw [List.mem_singleton] at hc
    subst hc; exact key _ (by omega)
theorem num_tail (p : Bs) (n : Int) : ∃ d : Bs, numbered p n = p ++ d ∧ (47 : UInt8) ∉ d ∧ d ≠ [] := by
 refine ⟨_, rfl, fun hm => ?_, fun h => ?_⟩
 ·have hm := List.mem_of_mem_drop hm
  rcases List.mem_append.1 hm with hm | hm
  ·exact absurd (List.eq_of_mem_replicate hm) (by decide)
  ·unfold Lib.itoa at hm
   rw [if_neg (by omega)] at hm
   exact digits_c _ _ hm rfl
 ·have := congrArg List.length h
  simp only [List.length_drop, List.length_append, List.length_replicate, List.length_nil] at this
  omega
theorem lidxTo_pre (a b : Bs) : ∀ n, n ≤ a.length → lidxTo (a ++ b) n = lidxTo a n := by
 intro n
 induction n with
 | zero => intro _; rfl
 | succ n ih =>
  intro h
  unfold lidxTo
  rw [ih (by omega)]
  have : (a ++ b).getD n 0 = a.getD n 0 := by
   rw [List.getD_eq_getElem?_getD, List.getD_eq_getElem?_getD, List.getElem?_append_left (by omega)]
  rw [this]
theorem lidx_app {a b : Bs} (h : (47 : UInt8) ∉ b) : lidxZ (a ++ b) = lidxZ a := by
 have key : ∀ k, k ≤ b.length → lidxTo (a ++ b) (a.length + k) = lidxTo (a ++ b) a.length := by
  intro k
  induction k with
  | zero => intro _; rfl
  | succ k ih =>
   intro hk
   show lidxTo (a ++ b) (a.length + k + 1) = _
   rw [lidxTo]
   have : ¬ (a ++ b).getD (a.length + k) 0 = 47 := by
    rw [List.getD_eq_getElem?_getD, List.getElem?_append_right (by omega), show a.length + k - a.length = k by omega, List.getElem?_eq_getElem (by omega)]
    intro e
    exact h (e ▸ List.getElem_mem _)
   rw [if_neg this, ih (by omega)]
 unfold lidxZ
 rw [List.length_append, key _ (Nat.le_refl _), lidxTo_pre a b _ (Nat.le_refl _)]
theorem num_parent {p : Bs} (hp : p ≠ [47]) (n : Int) : parentZ (numbered p n) = parentZ p := by
 obtain ⟨d, e, hd, hne⟩ := num_tail p n
 rw [e]
 have hr := lidx_range p
 by_cases h0 : lidxZ p < 0
 ·unfold parentZ
  rw [lidx_app hd, if_pos (.inl h0), if_pos (.inl h0)]
 ·have h1 : p ++ d ≠ [47] := fun g => by
   have h2 := congrArg List.length g
   have h3 : 0 < d.length := List.length_pos_iff.2 hne
   simp only [List.length_append, List.length_singleton] at h2
   have h4 : p = [] := List.eq_nil_of_length_eq_zero (by omega)
   subst h4
   simp at hr; omega
  have e1 : parentZ (p ++ d) = if lidxZ p = 0 then [47] else (p ++ d).take (lidxZ p).toNat := by
   unfold parentZ
   rw [lidx_app hd, if_neg (fun g => g.elim h0 h1)]
  have e2 : parentZ p = if lidxZ p = 0 then [47] else p.take (lidxZ p).toNat := by
   unfold parentZ
   rw [if_neg (fun g => g.elim h0 hp)]
  rw [e1, e2]
  split
  ·rfl
  ·rw [List.take_append_of_le_length (by omega)]
/-! ### What wishes keep -/
structure WI (τ : Tr) : Prop where
 ok : τ.Ok 64
 root : ∃ n, alook τ.nodes [47] = some n ∧ n.st.own = 0
 closed : ∀ q, thereT τ q → q ≠ [47] → thereT τ (parentZ q)
 data : ∀ q n, alook τ.nodes q = some n → n.data.length ≤ 100
 bare : ∀ q n, alook τ.nodes q = some n → n.st.own ≠ 0 → ∀ c, thereT τ c → c ≠ [47] → parentZ c ≠ q
 few : ∀ s, (ownedZ τ s).length ≤ 32
 ids : ∀ i s, alook τ.sess i = some s → 1 ≤ i ∧ i ≤ 5
theorem WI.able {τ : Tr} (h : WI τ) {q : Bs} (ht : thereT τ q) (hq : q ≠ [47]) : ableZ q := by
 obtain ⟨n, hn⟩ := there_some.1 ht
 exact (h.ok.able _ (al_mem hn)).resolve_left hq
theorem WI.rootT {τ : Tr} (h : WI τ) : thereT τ [47] := by
 obtain ⟨n, hn, -⟩ := h.root
 exact there_some.2 ⟨n, hn⟩
theorem WI.zx {τ : Tr} (h : WI τ) (z : Int) : WI (zxT τ z) := ⟨h.ok.zx z, h.root, h.closed, h.data, h.bare, h.few, h.ids⟩
theorem WI.new : WI newT := by
 have key : ∀ q n, alook newT.nodes q = some n → q = [47] ∧ n = ⟨[], [(31, wldZ)], st0⟩ := by
  intro q n h
  have := al_mem h
  simp only [newT, List.mem_singleton, Prod.mk.injEq] at this
  exact this
 refine ⟨newT_ok.more (by decide), ⟨_, rfl, rfl⟩, fun q hq hne => ?_, fun q n h => ?_, fun q n h hn => ?_, fun s => ?_, fun i s h => by cases h⟩
 ·obtain ⟨n, hn⟩ := there_some.1 hq
  exact absurd (key q n hn).1 hne
 ·obtain ⟨-, rfl⟩ := key q n h; decide
 ·obtain ⟨-, rfl⟩ := key q n h; exact absurd rfl hn
 ·have := owned_len newT s
  have h2 : newT.nodes.length = 1 := rfl
  omega
/-! ### How many are whose -/
def ownP (s : Int) (y : PN) : Bool := !decide (s = 0) && decide (y.2.st.own = s)
theorem owned_cnt (τ : Tr) (s : Int) : (ownedZ τ s).length = (τ.nodes.filter (ownP s)).length := by
 unfold ownedZ
 rw [List.length_map]; rfl
theorem cnt_sset (s : Int) (p : Bs) (n : Nd) : ∀ l : List PN, ((sset l p n).filter (ownP s)).length ≤ (l.filter (ownP s)).length + (if s ≠ 0 ∧ n.st.own = s then 1 else 0) := by
 have one : ∀ l : List PN, ((p, n) :: l).filter (ownP s) |>.length |> (· ≤ (l.filter (ownP s)).length + (if s ≠ 0 ∧ n.st.own = s then 1 else 0)) := by
  intro l
  show (((p, n) :: l).filter (ownP s)).length ≤ _
  by_cases g : s ≠ 0 ∧ n.st.own = s
  ·rw [if_pos g]
   rw [List.filter_cons]
   split <;> simp
  ·rw [if_neg g, List.filter_cons, if_neg (by simp only [ownP, Bool.and_eq_true, Bool.not_eq_true', decide_eq_false_iff_not, decide_eq_true_eq]; exact g)]
   omega
 intro l
 induction l with
 | nil => exact one []
 | cons y l ih =>
  have h1 := one l
  have hc : (l.filter (ownP s)).length ≤ ((y :: l).filter (ownP s)).length := by
   rw [List.filter_cons]; split <;> simp
  unfold sset
  split
  ·exact Nat.le_trans h1 (by omega)
  split
  ·exact one (y :: l)
  ·rw [List.filter_cons, List.filter_cons]
   split
   ·rw [List.length_cons, List.length_cons]; omega
   ·exact ih
theorem cnt_amod (s : Int) (p : Bs) {f : Nd → Nd} (hf : ∀ n, (f n).st.own = n.st.own) (l : List PN) : ((amod l p f).filter (ownP s)).length = (l.filter (ownP s)).length := by
 unfold amod
 rw [List.filter_map, List.length_map]
 congr 1
 apply List.filter_congr
 intro y _
 show ownP s (if y.1 = p then (y.1, f y.2) else y) = ownP s y
 split
 ·unfold ownP
  rw [hf]
 ·rfl
theorem cnt_cut (s : Int) (g : PN → Bool) (l : List PN) : ((l.filter g).filter (ownP s)).length ≤ (l.filter (ownP s)).length := (List.filter_sublist.filter (ownP s)).length_le
theorem part_cnt (τ : Tr) (y : Pt) (zx s : Int) : (ownedZ (partZ τ y zx).1 s).length ≤ (ownedZ τ s).length + (if y.kind = 1 ∧ s ≠ 0 ∧ y.own = s then 1 else 0) := by
 rw [owned_cnt, owned_cnt, part_fst]
 split
 ·rename_i h1
  split
  ·show ((amod (sset τ.nodes y.path (newN y zx)) (parentZ y.path) (kidN y.num zx)).filter (ownP s)).length ≤ _
   rw [cnt_amod (f := kidN y.num zx) s _ (fun n => rfl)]
   refine Nat.le_trans (cnt_sset s _ _ _) ?_
   have e : (newN y zx).st.own = y.own := rfl
   rw [e]
   by_cases g : s ≠ 0 ∧ y.own = s
   ·rw [if_pos g, if_pos ⟨h1, g⟩]; exact Nat.le_refl _
   ·rw [if_neg g]; omega
  ·omega
 split
 ·split
  ·show ((amod (cutT τ y.path).nodes (parentZ y.path) (kidN y.num zx)).filter (ownP s)).length ≤ _
   rw [cnt_amod (f := kidN y.num zx) s _ (fun n => rfl)]
   exact Nat.le_trans (cnt_cut s _ _) (by omega)
  ·omega
 split
 ·show ((amod τ.nodes y.path (setN y.data y.num zx)).filter (ownP s)).length ≤ _
  rw [cnt_amod (f := setN y.data y.num zx) s _ (fun n => rfl)]; omega
 split
 ·show ((amod τ.nodes y.path (aclN y.acl y.num)).filter (ownP s)).length ≤ _
  rw [cnt_amod (f := aclN y.acl y.num) s _ (fun n => rfl)]; omega
 ·omega
/-! ### A part -/
structure PartW (τ : Tr) (y : Pt) : Prop where
 kind : 0 ≤ y.kind ∧ y.kind ≤ 4
 finds : y.kind = 0 ∨ findsZ τ y = true
 data : y.data.length ≤ 100
 acl : y.acl.length ≤ 1048576
 room : y.kind = 1 → τ.nodes.length < 64 ∧ (y.own ≠ 0 → (ownedZ τ y.own).length < 32) ∧ ∀ n, alook τ.nodes (parentZ y.path) = some n → n.st.own = 0
structure Left (τ : Tr) (y : Pt) (zx : Int) (υ : Tr) : Prop where
 nodes : ∀ q n, alook υ.nodes q = some n → ∃ n0, (alook τ.nodes q = some n0 ∨ (n0 = newN y zx ∧ q = y.path ∧ y.kind = 1)) ∧ (n = n0 ∨ n = kidN y.num zx n0 ∨ n = setN y.data y.num zx n0 ∨ n = aclN y.acl y.num n0)
 root : thereT υ [47]
 closed : ∀ q, thereT υ q → q ≠ [47] → thereT υ (parentZ q)
 there : ∀ q, thereT υ q → thereT τ q ∨ (q = y.path ∧ y.kind = 1)
 len : υ.nodes.length ≤ τ.nodes.length + (if y.kind = 1 then 1 else 0)
theorem WI.left {τ : Tr} (h : WI τ) {y : Pt} {zx : Int} (hs : findsZ τ y = true) : Left τ y zx (partZ τ y zx).1 := by
 unfold findsZ at hs
 split at hs
 ·rename_i h1
  obtain ⟨ha, hnt, hu⟩ := of_decide_eq_true hs
  have hth : ∀ r, thereT (partZ τ y zx).1 r ↔ r = y.path ∨ thereT τ r := by
   intro r
   unfold thereT
   rw [create_at h1 ha hu]
   by_cases e2 : r = y.path
   ·rw [if_pos e2]; split <;> simp [e2]
   ·rw [if_neg e2]; split <;> simp [e2]
  refine ⟨fun q n hq => ?_, (hth _).2 (.inr h.rootT), fun q hq hne => ?_, fun q hq => ?_, ?_⟩
  ·rw [create_at h1 ha hu] at hq
   by_cases e1 : q = parentZ y.path
   ·rw [if_pos e1] at hq
    obtain ⟨n0, g, rfl⟩ := map_some hq
    by_cases e2 : q = y.path
    ·rw [if_pos e2] at g; cases g
     exact ⟨_, .inr ⟨rfl, e2, h1⟩, .inr (.inl rfl)⟩
    ·rw [if_neg e2] at g
     exact ⟨_, .inl g, .inr (.inl rfl)⟩
   ·rw [if_neg e1] at hq
    by_cases e2 : q = y.path
    ·rw [if_pos e2] at hq; cases hq
     exact ⟨_, .inr ⟨rfl, e2, h1⟩, .inl rfl⟩
    ·rw [if_neg e2] at hq
     exact ⟨_, .inl hq, .inl rfl⟩
  ·rw [hth] at hq ⊢
   right
   rcases hq with rfl | hq
   ·exact hu
   ·exact h.closed q hq hne
  ·rcases (hth q).1 hq with e | e
   ·exact .inr ⟨e, h1⟩
   ·exact .inl e
  ·rw [if_pos h1]
   unfold partZ createZ
   rw [if_pos h1]
   split
   ·show (amod (sset _ _ _) _ _).length ≤ _
    rw [amod_len]
    exact (sset_len τ.nodes y.path (newN y zx)).1
   ·show τ.nodes.length ≤ _
    omega
 ·rename_i h1
  split at hs
  ·rename_i h2
   obtain ⟨hr, ht, hk⟩ := of_decide_eq_true hs
   have ha := h.able ht hr
   have hth : ∀ r, thereT (partZ τ y zx).1 r ↔ thereT τ r ∧ hitT r y.path = false := by
    intro r
    unfold thereT
    rw [erase_at h2 ha]
    cases e : hitT r y.path <;> split <;> simp
   refine ⟨fun q n hq => ?_, ?_, fun q hq hne => ?_, fun q hq => .inl ((hth q).1 hq).1, ?_⟩
   ·rw [erase_at h2 ha] at hq
    by_cases e1 : q = parentZ y.path
    ·rw [if_pos e1] at hq
     obtain ⟨n0, g, rfl⟩ := map_some hq
     split at g
     ·cases g
     ·exact ⟨_, .inl g, .inr (.inl rfl)⟩
    ·rw [if_neg e1] at hq
     split at hq
     ·cases hq
     ·exact ⟨_, .inl hq, .inl rfl⟩
   ·rw [hth]
    refine ⟨h.rootT, ?_⟩
    cases e : hitT [47] y.path with
    | false => rfl
    | true =>
     obtain ⟨r, e2⟩ := hit_pre e
     have := congrArg List.length e2
     simp at this
     cases hy : y.path with
     | nil => exact absurd (h.able ht hr) (by rw [hy]; decide)
     | cons c r2 =>
      rw [hy] at e2
      simp at e2
      exact absurd (by rw [hy, ← e2.1, e2.2.1]) hr
   ·rw [hth] at hq ⊢
    refine ⟨h.closed q hq.1 hne, ?_⟩
    cases e : hitT (parentZ q) y.path with
    | false => rfl
    | true => rw [hit_parent (h.able hq.1 hne) hr e] at hq; exact absurd hq.2 (by decide)
   ·unfold partZ eraseZ
    rw [if_neg h1, if_pos h2, if_pos ha, if_neg h1]
    show (amod (cutT τ y.path).nodes _ _).length ≤ _
    rw [amod_len]
    exact cut_len τ y.path
  ·rename_i h2
   split at hs
   ·rename_i h3
    have ht := of_decide_eq_true hs
    have hth : ∀ r, thereT (partZ τ y zx).1 r ↔ thereT τ r := by
     intro r
     unfold thereT
     rcases h3 with h3 | h4
     ·rw [set_at h3 ht]; split <;> simp
     ·rw [acl_at h4 ht]; split <;> simp
    refine ⟨fun q n hq => ?_, (hth _).2 h.rootT, fun q hq hne => (hth _).2 (h.closed q ((hth q).1 hq) hne), fun q hq => .inl ((hth q).1 hq), ?_⟩
    ·rcases h3 with h3 | h4
     ·rw [set_at h3 ht] at hq
      split at hq
      ·obtain ⟨n0, g, rfl⟩ := map_some hq
       exact ⟨_, .inl g, .inr (.inr (.inl rfl))⟩
      ·exact ⟨_, .inl hq, .inl rfl⟩
     ·rw [acl_at h4 ht] at hq
      split at hq
      ·obtain ⟨n0, g, rfl⟩ := map_some hq
       exact ⟨_, .inl g, .inr (.inr (.inr rfl))⟩
      ·exact ⟨_, .inl hq, .inl rfl⟩
    ·unfold partZ
     rw [if_neg h1, if_neg h2, if_neg h1]
     split
     ·show (amod _ _ _).length ≤ _
      rw [amod_len]; omega
     ·split
      ·show (amod _ _ _).length ≤ _
       rw [amod_len]; omega
      ·show τ.nodes.length ≤ _
       omega
   ·cases hs
theorem WI.part {τ : Tr} (h : WI τ) {y : Pt} (zx : Int) (hp : PartW τ y) : WI (partZ τ y zx).1 := by
 rcases hp.finds with h0 | hs
 ·rw [part_zero h0]; exact h
 have hL := h.left (zx := zx) hs
 have hok := h.ok.part y zx hp.acl
 have hses := part_sess τ y zx
 have hne : y.kind = 1 → y.path ≠ [47] := fun h1 => by
  unfold findsZ at hs
  rw [if_pos h1] at hs
  exact (of_decide_eq_true hs).1.1
 have hown : ∀ q n, alook (partZ τ y zx).1.nodes q = some n → (∃ n0, alook τ.nodes q = some n0 ∧ n0.st.own = n.st.own ∧ (n.data = n0.data ∨ n.data = y.data)) ∨ (q = y.path ∧ y.kind = 1 ∧ n.st.own = y.own ∧ n.data = y.data) := fun q n hq => by
  obtain ⟨n0, g, e⟩ := hL.nodes q n hq
  have e2 : n.st.own = n0.st.own ∧ (n.data = n0.data ∨ n.data = y.data) := by rcases e with rfl | rfl | rfl | rfl <;> first | exact ⟨rfl, .inl rfl⟩ | exact ⟨rfl, .inr rfl⟩
  rcases g with g | ⟨rfl, g, g'⟩
  ·exact .inl ⟨n0, g, e2.1.symm, e2.2⟩
  ·exact .inr ⟨g, g', e2.1, e2.2.elim id id⟩
 refine ⟨⟨hok.sorted, hok.ssorted, ?_, hok.able, hok.ids, hok.acls, by rw [hses]; exact h.ok.sfew⟩, ?_, hL.closed, fun q n hq => ?_, fun q n hq hn c hc hcr hpc => ?_, fun s => ?_, by rw [hses]; exact h.ids⟩
 ·have h1 := hL.len
  have h2 := h.ok.few
  split at h1
  ·rename_i h3
   have := (hp.room h3).1
   omega
  ·omega
 ·obtain ⟨n, hn⟩ := there_some.1 hL.root
  refine ⟨n, hn, ?_⟩
  obtain ⟨r, hr, hr0⟩ := h.root
  rcases hown _ _ hn with ⟨n0, g, e, -⟩ | ⟨g, g', -⟩
  ·rw [hr] at g; cases g; exact e.symm.trans hr0
  ·exact absurd g.symm (hne g')
 ·rcases hown q n hq with ⟨n0, g, -, e | e⟩ | ⟨-, -, -, e⟩
  ·rw [e]; exact h.data q n0 g
  ·rw [e]; exact hp.data
  ·rw [e]; exact hp.data
 ·
  rcases hown q n hq with ⟨n0, g, e, -⟩ | ⟨g, g', -, -⟩
  ·rcases hL.there c hc with hc0 | ⟨rfl, h1⟩
   ·exact h.bare q n0 g (by rw [e]; exact hn) c hc0 hcr hpc
   ·have := (hp.room h1).2.2 n0 (by rw [hpc]; exact g)
    exact hn (e.symm.trans this)
  ·
   subst g
   unfold findsZ at hs
   rw [if_pos g'] at hs
   obtain ⟨ha, hnt, hu⟩ := of_decide_eq_true hs
   rcases hL.there c hc with hc0 | ⟨rfl, -⟩
   ·exact hnt (hpc ▸ h.closed c hc0 hcr)
   ·rw [hpc] at hu; exact hnt hu
 ·have h1 := part_cnt τ y zx s
  have h2 := h.few s
  split at h1
  ·rename_i g
   obtain ⟨g1, g2, rfl⟩ := g
   have := (hp.room g1).2.1 g2
   omega
  ·omega
theorem when_no {b : Prop} [Decidable b] {e : Int} (h : whenZ b e = 0) (he : e ≠ 0) : ¬ b := fun g => by
 have h2 : (if b then e else 0) = 0 := h
 rw [if_pos g] at h2
 exact he h2
theorem colon_len : ∀ {s : Bs}, (58 : UInt8) ∈ s → s.length = (colon1 s).length + 1 + (colon2 s).length
 | [], h => by cases h
 | c :: s, h => by
  unfold colon1 colon2
  by_cases e : c = 58
  ·rw [if_pos e, if_pos e]; simp only [List.length_cons, List.length_nil]; omega
  ·rw [if_neg e, if_neg e]
   have := colon_len (s := s) ((List.mem_cons.1 h).resolve_left (fun g => e g.symm))
   simp only [List.length_cons]; omega
theorem id_len {s : Bs} (h : isIDZ s = true) : s.length ≤ 29 := by
 unfold isIDZ at h
 rw [Bool.or_eq_true] at h
 rcases h with h | h
 ·rw [of_decide_eq_true h]; decide
 ·simp only [Bool.and_eq_true, decide_eq_true_eq] at h
  obtain ⟨⟨⟨h1, h2⟩, h3⟩, -⟩ := h
  have h4 := colon_len h1
  unfold userZ at h2
  simp only [Bool.and_eq_true, decide_eq_true_eq] at h2
  have h5 := h2.1.2
  omega
theorem right_all {l : List Ac} (h : rightZ l = true) : l.length ≤ 4 ∧ ∀ a ∈ l, (1 ≤ a.1 ∧ a.1 ≤ 31) ∧ a.2.length ≤ 29 := by
 unfold rightZ at h
 simp only [Bool.and_eq_true, decide_eq_true_eq, Bool.not_eq_true'] at h
 obtain ⟨⟨-, h1⟩, h2⟩ := h
 refine ⟨h1, fun a ha => ?_⟩
 have h3 := List.any_eq_false.1 h2 a ha
 unfold badAc at h3
 simp only [Bool.or_eq_true, decide_eq_true_eq, Bool.not_eq_true', not_or, Bool.not_eq_false] at h3
 exact ⟨by omega, id_len h3.2⟩
theorem num_ten {n : Int} (h : I64 n) : (numB n).length ≤ 10 := numB_ten h
theorem txt_short {s : Bs} (h : s.length < 128) : (txtB s).length = s.length + 1 := by
 unfold txtB cntB
 rw [List.length_append, sevZ, if_pos h]; simp; omega
theorem ac_short {a : Ac} (h : (1 ≤ a.1 ∧ a.1 ≤ 31) ∧ a.2.length ≤ 29) : (acB a).length ≤ 40 := by
 unfold acB
 have h1 := num_ten (n := a.1) ⟨by omega, by omega⟩
 rw [List.length_append, txt_short (by omega)]; omega
theorem acl_short {l : List Ac} (h : l.length ≤ 4) (h2 : ∀ a ∈ l, (1 ≤ a.1 ∧ a.1 ≤ 31) ∧ a.2.length ≤ 29) : (aclB l).length ≤ 161 := by
 unfold aclB cntB
 have h3 := fm_most8 (f := acB) (c := 40) (l := l) (fun a ha => ac_short (h2 a ha))
 rw [List.length_append, sevZ, if_pos (by omega)]
 simp only [List.length_singleton]
 have : l.length * 40 ≤ 160 := by omega
 omega
structure PartB (y : Pt) : Prop where
 kind : I64 y.kind
 own : I64 y.own
 num : I64 y.num
 err : I64 y.err
 path : y.path.length ≤ 60
 data : y.data.length ≤ 100
 acl : y.acl.length ≤ 4 ∧ ∀ a ∈ y.acl, (1 ≤ a.1 ∧ a.1 ≤ 31) ∧ a.2.length ≤ 29
theorem PartB.len {y : Pt} (h : PartB y) : (ptB y).length ≤ 42 + y.path.length + y.data.length + (aclB y.acl).length := by
 have h1 := num_ten h.kind
 have h2 := num_ten h.own
 have h3 := num_ten h.num
 have h4 := num_ten h.err
 have h5 := txt_short (s := y.path) (by have := h.path; omega)
 have h6 := txt_short (s := y.data) (by have := h.data; omega)
 unfold ptB
 simp only [List.flatMap_cons, List.flatMap_nil, List.length_append, List.length_nil]
 omega
theorem PartB.some {y : Pt} (h : PartB y) : (ptB y).length ≤ 363 := by
 have := h.len
 have := h.path
 have := h.data
 have := acl_short h.acl.1 h.acl.2
 omega
theorem path_60 {p : Bs} (h : checkZ p = 0) : p.length ≤ 60 := by
 by_cases e : p = [47]
 ·rw [e]; decide
 ·exact able_len (.inr ⟨e, h⟩)
theorem no_empty {τ : Tr} (h : WI τ) : ¬ thereT τ [] := fun g => by
 have := h.able g (by decide)
 exact absurd this (by decide)
theorem stat_own {τ : Tr} {p : Bs} {n : Nd} (h : alook τ.nodes p = some n) : (statD τ p).own = n.st.own ∧ (statD τ p).kids = ((kidsZ τ p).length : Int) := by
 unfold statD statZ
 rw [h]; exact ⟨rfl, rfl⟩
theorem wrapI_64 (n : Int) : I64 (wrapI n) := wrap_i64 n
theorem part_WB {τ : Tr} (h : WI τ) {u : Who} (hu : 1 ≤ u.ses ∧ u.ses ≤ 5) {r : Rq} (h0 : (partP τ u r).2 = 0) : PartW τ (partP τ u r).1 ∧ PartB (partP τ u r).1 := by
 have I0 := I64.zero
 have noop : PartW τ noopX ∧ PartB noopX := ⟨⟨⟨Int.le_refl _, by decide⟩, .inl rfl, Nat.zero_le _, Nat.zero_le _, fun g => absurd g (by decide)⟩, ⟨I0, I0, I0, I0, Nat.zero_le _, Nat.zero_le _, Nat.zero_le _, fun a ha => by cases ha⟩⟩
 unfold partP at h0 ⊢
 by_cases k1 : r.kind = 1
 ·rw [if_pos k1] at h0 ⊢
  have all := first_zero _ h0
  dsimp only at all ⊢
  simp only [createE, List.mem_cons, forall_eq_or_imp, List.not_mem_nil, false_implies, implies_true, and_true] at all
  obtain ⟨a1, a2, a3, a4, a5, a6, a7, a8, a9, a10⟩ := all
  have b2 := when_no a2 (by decide)
  have b3 := right_all (Decidable.not_not.1 (when_no a3 (by decide)))
  have b4 := Decidable.not_not.1 (when_no a4 (by decide))
  have b5 := when_no a5 (by decide)
  have b7 := Decidable.not_not.1 (when_no a7 (by decide))
  have b8 := when_no a8 (by decide)
  have b9 := when_no a9 (by decide)
  have b10 := when_no a10 (by decide)
  have hne : fullZ τ r ≠ [47] := fun e => b8 (by rw [e]; exact h.rootT)
  have hpr : r.path ≠ [47] := fun e => by
   rw [e] at b4
   exact no_empty h b4
  have hpar : parentZ (fullZ τ r) = parentZ r.path := by
   unfold fullZ
   split
   ·exact num_parent hpr _
   ·rfl
  have hown : I64 (createX τ u r).own := by
   show I64 (if andI r.flags 1 ≠ 0 then u.ses else 0)
   split
   ·exact ⟨by omega, by omega⟩
   ·exact I0
  refine ⟨⟨⟨by show (0 : Int) ≤ 1; decide, by show (1 : Int) ≤ 4; decide⟩, .inr ?_, by show r.data.length ≤ 100; omega, by show r.acl.length ≤ _; omega, fun _ => ⟨?_, fun ho => ?_, fun n hn => ?_⟩⟩, ⟨⟨by show (-9223372036854775808 : Int) ≤ 1; decide, by show (1 : Int) ≤ 9223372036854775807; decide⟩, hown, wrapI_64 _, I0, path_60 b7, by show r.data.length ≤ 100; omega, b3⟩⟩
  ·unfold findsZ
   rw [if_pos (show (createX τ u r).kind = 1 from rfl)]
   exact decide_eq_true ⟨⟨hne, b7⟩, b8, by show thereT τ (parentZ (fullZ τ r)); rw [hpar]; exact b4⟩
  ·have : (pathsZ τ).length = τ.nodes.length := by unfold pathsZ; rw [List.length_map]
   omega
  ·have ho : (if andI r.flags 1 ≠ 0 then u.ses else 0) ≠ 0 := ho
   by_cases hf : andI r.flags 1 ≠ 0
   ·show (ownedZ τ (if andI r.flags 1 ≠ 0 then u.ses else 0)).length < 32
    rw [if_pos hf]
    exact Nat.lt_of_not_le fun g => b10 ⟨hf, g⟩
   ·rw [if_neg hf] at ho; exact absurd rfl ho
  ·have hn : alook τ.nodes (parentZ (fullZ τ r)) = some n := hn
   rw [hpar] at hn
   have := (stat_own hn).1
   unfold upS at b5
   omega
 rw [if_neg k1] at h0 ⊢
 by_cases k2 : r.kind = 2
 ·rw [if_pos k2] at h0 ⊢
  have all := first_zero _ h0
  dsimp only at all ⊢
  simp only [eraseE, List.mem_cons, forall_eq_or_imp, List.not_mem_nil, false_implies, implies_true, and_true] at all
  obtain ⟨a1, a2, a3, a4, a5, a6⟩ := all
  have b2 := when_no a2 (by decide)
  have b3 := Decidable.not_not.1 (when_no a3 (by decide))
  have b6 := when_no a6 (by decide)
  refine ⟨⟨⟨by show (0 : Int) ≤ 2; decide, by show (2 : Int) ≤ 4; decide⟩, .inr ?_, Nat.zero_le _, Nat.zero_le _, fun g => absurd g (by show ¬ (2 : Int) = 1; decide)⟩, ⟨⟨by show (-9223372036854775808 : Int) ≤ 2; decide, by show (2 : Int) ≤ 9223372036854775807; decide⟩, I0, wrapI_64 _, I0, path_60 a1, Nat.zero_le _, Nat.zero_le _, fun a ha => by cases ha⟩⟩
  obtain ⟨n, hn⟩ := there_some.1 b3
  have := (stat_own hn).2
  unfold findsZ
  rw [if_neg (by show ¬ (2 : Int) = 1; decide), if_pos (show (eraseX τ r).kind = 2 from rfl)]
  exact decide_eq_true ⟨b2, b3, by show (kidsZ τ r.path).length = 0; omega⟩
 rw [if_neg k2] at h0 ⊢
 by_cases k3 : r.kind = 3 ∨ r.kind = 4 ∨ r.kind = 5
 ·rw [if_pos k3] at h0 ⊢
  have all := first_zero _ h0
  dsimp only at all ⊢
  simp only [nodeE, List.mem_cons, forall_eq_or_imp, List.not_mem_nil, false_implies, implies_true, and_true] at all
  obtain ⟨a1, a2, a3, a4, a5⟩ := all
  have b3 := Decidable.not_not.1 (when_no a3 (by decide))
  unfold nodeX
  split
  ·rename_i e
   have b2 : ¬ r.data.length > 100 := by
    unfold wrongE at a2
    rw [if_pos e] at a2
    exact when_no a2 (by decide)
   refine ⟨⟨⟨by show (0 : Int) ≤ 3; decide, by show (3 : Int) ≤ 4; decide⟩, .inr ?_, by show r.data.length ≤ 100; omega, Nat.zero_le _, fun g => absurd g (by show ¬ (3 : Int) = 1; decide)⟩, ⟨⟨by show (-9223372036854775808 : Int) ≤ 3; decide, by show (3 : Int) ≤ 9223372036854775807; decide⟩, I0, wrapI_64 _, I0, path_60 a1, by show r.data.length ≤ 100; omega, Nat.zero_le _, fun a ha => by cases ha⟩⟩
   unfold findsZ
   rw [if_neg (by show ¬ (3 : Int) = 1; decide), if_neg (by show ¬ (3 : Int) = 2; decide), if_pos (.inl rfl)]
   exact decide_eq_true b3
  ·split
   ·rename_i e' e
    have b2 : rightZ r.acl = true := by
     unfold wrongE at a2
     rw [if_neg e', if_pos e] at a2
     exact Decidable.not_not.1 (when_no a2 (by decide))
    have b3' := right_all b2
    refine ⟨⟨⟨by show (0 : Int) ≤ 4; decide, by show (4 : Int) ≤ 4; decide⟩, .inr ?_, Nat.zero_le _, by show r.acl.length ≤ _; omega, fun g => absurd g (by show ¬ (4 : Int) = 1; decide)⟩, ⟨⟨by show (-9223372036854775808 : Int) ≤ 4; decide, by show (4 : Int) ≤ 9223372036854775807; decide⟩, I0, wrapI_64 _, I0, path_60 a1, Nat.zero_le _, b3'⟩⟩
    unfold findsZ
    rw [if_neg (by show ¬ (4 : Int) = 1; decide), if_neg (by show ¬ (4 : Int) = 2; decide), if_pos (.inr rfl)]
    exact decide_eq_true b3
   ·exact noop
 ·rw [if_neg k3] at h0
  exact absurd h0 (by show ¬ (110 : Int) = 0; decide)
/-! ### A multi -/
def realP (y : Pt) : Bool := !decide (y.kind = 0)
theorem soundL_real (zx : Int) (cl : Bool) : ∀ (l : List Pt) (τ : Tr), soundL τ zx cl (l.filter realP) = true ↔ ∀ i (hi : i < l.length), l[i].kind ≠ 0 → findsZ (partsZ τ zx (l.take i)).1 l[i] = true ∧ (cl = true → l[i].kind = 2)
 | [], τ => ⟨(fun _ i hi => by simp at hi), fun _ => rfl⟩
 | x :: l, τ => by
  have ih := soundL_real zx cl l (partZ τ x zx).1
  have e : ∀ i, (partsZ τ zx ((x :: l).take (i + 1))).1 = (partsZ (partZ τ x zx).1 zx (l.take i)).1 := fun i => by
   rw [List.take_succ_cons]
   unfold partsZ
   rw [List.foldl_cons]
   have H : ∀ (l : List Pt) (r r' : Tr × List Ev), r.1 = r'.1 → (l.foldl (fun r x => ((partZ r.1 x zx).1, r.2 ++ (partZ r.1 x zx).2)) r).1 = (l.foldl (fun r x => ((partZ r.1 x zx).1, r.2 ++ (partZ r.1 x zx).2)) r').1 := by
    intro l
    induction l with
    | nil => intro r r' h; exact h
    | cons y l ih => intro r r' h; rw [List.foldl_cons, List.foldl_cons]; exact ih _ _ (by dsimp only; rw [h])
   exact H _ _ _ rfl
  constructor
  ·intro h i hi hk
   rw [List.filter_cons] at h
   cases i with
   | zero =>
    have hx : realP x = true := by simpa [realP] using hk
    rw [if_pos hx, soundL, Bool.and_eq_true, Bool.and_eq_true] at h
    refine ⟨h.1.1, fun hc => ?_⟩
    have := h.1.2
    rw [hc] at this
    simpa using this
   | succ i =>
    have h2 : soundL (partZ τ x zx).1 zx cl (l.filter realP) = true := by
     split at h
     ·rw [soundL, Bool.and_eq_true] at h; exact h.2
     ·rename_i g
      have h0 : x.kind = 0 := by simpa [realP] using g
      rw [part_zero h0]; exact h
    rw [e i]
    exact ih.1 h2 i (by simpa using hi) hk
  ·intro h
   have h2 := ih.2 fun i hi hk => by
    have := h (i + 1) (by simpa using hi) hk
    rw [e i] at this
    exact this
   rw [List.filter_cons]
   split
   ·rename_i g
    have h3 := h 0 (by simp) (by simpa [realP] using g)
    rw [soundL, h2, Bool.and_true, Bool.and_eq_true]
    refine ⟨h3.1, ?_⟩
    cases cl with
    | false => rfl
    | true => simpa using h3.2 rfl
   ·rename_i g
    have h0 : x.kind = 0 := by simpa [realP] using g
    rw [part_zero h0] at h2; exact h2
theorem foldp_fst (zx : Int) : ∀ (l : List Pt) (r r' : Tr × List Ev), r.1 = r'.1 → (l.foldl (fun r x => ((partZ r.1 x zx).1, r.2 ++ (partZ r.1 x zx).2)) r).1 = (l.foldl (fun r x => ((partZ r.1 x zx).1, r.2 ++ (partZ r.1 x zx).2)) r').1
 | [], _, _, h => h
 | y :: l, r, r', h => by rw [List.foldl_cons, List.foldl_cons]; exact foldp_fst zx l _ _ (by dsimp only; rw [h])
theorem parts_cons1 (τ : Tr) (zx : Int) (x : Pt) (l : List Pt) : (partsZ τ zx (x :: l)).1 = (partsZ (partZ τ x zx).1 zx l).1 := by
 unfold partsZ
 rw [List.foldl_cons]
 exact foldp_fst zx l _ _ rfl
theorem multiL_snd {u : Who} (hu : 1 ≤ u.ses ∧ u.ses ≤ 5) (zx : Int) : ∀ {l : List Rq} {σ υ : Tr}, zT σ = zT υ → WI υ → (multiL u l σ).2.2 = none → soundL υ zx false ((multiL u l σ).2.1.filter realP) = true ∧ WI (partsZ υ zx (multiL u l σ).2.1).1 ∧ ∀ x ∈ (multiL u l σ).2.1, PartB x
 | [], σ, υ, _, hW, _ => ⟨rfl, hW, fun _ h => by cases h⟩
 | r :: l, σ, υ, hz, hW, hn => by
  rw [multi_cons] at hn ⊢
  have e : partP σ u r = partP υ u r := by rw [← zT_part σ, hz, zT_part]
  split at hn
  ·cases hn
  ·rename_i g
   rw [if_neg g]
   dsimp only at hn ⊢
   have h0 : (partP υ u r).2 = 0 := by rw [← e]; exact Decidable.not_not.1 g
   obtain ⟨hP, hB⟩ := part_WB hW hu h0
   have hn2 := Option.map_eq_none_iff.1 hn
   have hz2 : zT (applyZ σ σ.zx (partP σ u r).1 []).1 = zT (partZ υ (partP σ u r).1 zx).1 := by
    rw [apply_part (part_plain σ u r)]
    exact zT_part1 (by rw [zT_zx]; exact hz) _ _ _
   have hW2 : WI (partZ υ (partP σ u r).1 zx).1 := by rw [e]; exact hW.part zx hP
   obtain ⟨i1, i2, i3⟩ := multiL_snd hu zx (l := l) hz2 hW2 hn2
   refine ⟨?_, by rw [parts_cons1]; exact i2, fun x hx => ?_⟩
   ·rw [List.filter_cons]
    split
    ·rename_i hr
     have hk : (partP σ u r).1.kind ≠ 0 := by simpa [realP] using hr
     have hf : findsZ υ (partP σ u r).1 = true := by rw [e] at hk ⊢; exact hP.finds.resolve_left hk
     rw [soundL, hf, i1]; rfl
    ·rename_i hr
     have hk : (partP σ u r).1.kind = 0 := by simpa [realP] using hr
     rw [part_zero hk] at i1; exact i1
   ·rcases List.mem_cons.1 hx with rfl | hx
    ·rw [e]; exact hB
    ·exact i3 x hx
/-! ### A session's end -/
theorem closeL_paths : ∀ (l : List Bs) (τ : Tr), (closeL l τ).map (·.path) = l
 | [], _ => rfl
 | p :: l, τ => by
  show (delX τ p).path :: (closeL l _).map (·.path) = p :: l
  rw [closeL_paths l]; rfl
theorem closeL_B : ∀ {l : List Bs} {τ : Tr}, (∀ p ∈ l, p.length ≤ 60) → ∀ y ∈ closeL l τ, PartB y ∧ y.data = [] ∧ y.acl = []
 | [], _, _, _, h => by cases h
 | p :: l, τ, h, y, hy => by
  rcases List.mem_cons.1 (show y ∈ delX τ p :: closeL l _ from hy) with rfl | hy
  ·exact ⟨⟨⟨by show (-9223372036854775808 : Int) ≤ 2; decide, by show (2 : Int) ≤ 9223372036854775807; decide⟩, I64.zero, wrapI_64 _, I64.zero, h p List.mem_cons_self, Nat.zero_le _, Nat.zero_le _, fun a ha => by cases ha⟩, rfl, rfl⟩
  ·exact closeL_B (fun x hx => h x (List.mem_cons_of_mem _ hx)) y hy
structure Dels (τ : Tr) (s : Int) (l : List Pt) : Prop where
 paths : l.map (·.path) = (ownedZ τ s).reverse
 kinds : ∀ y ∈ l, y.kind = 2
 acl : ∀ y ∈ l, y.acl = [] ∧ y.data = []
theorem WI.owned {τ : Tr} (h : WI τ) {s : Int} {q : Bs} (hq : q ∈ ownedZ τ s) : ableZ q ∧ thereT τ q ∧ q ≠ [47] ∧ (s ≠ 0 ∧ ∃ n, alook τ.nodes q = some n ∧ n.st.own = s) := by
 have h1 := (owned_mem (h.ok.sorted.nodup linB)).1 hq
 obtain ⟨h0, n, h2, h3⟩ := h1
 have ht : thereT τ q := there_some.2 ⟨n, h2⟩
 have hne : q ≠ [47] := fun e => by
  subst e
  obtain ⟨r, g1, g2⟩ := h.root
  rw [h2] at g1; cases g1
  exact h0 (h3.symm.trans g2)
 exact ⟨h.able ht hne, ht, hne, h0, n, h2, h3⟩
theorem Dels.at {τ : Tr} {s : Int} {l : List Pt} (h : Dels τ s l) {i : Nat} (hi : i < l.length) : l[i].path ∈ ownedZ τ s := by
 have : l[i].path ∈ l.map (·.path) := List.mem_map_of_mem (List.getElem_mem hi)
 rw [h.paths] at this
 simpa using this
theorem Dels.lt {τ : Tr} {s : Int} {l : List Pt} (h : Dels τ s l) {N : Nat} (ho : τ.Ok N) {i j : Nat} (hi : i < l.length) (hj : j < i) : l[i].path < l[j].path := by
 have hs := owned_sorted ho s
 have hp : (l.map (·.path)).Pairwise (fun a b => b < a) := by rw [h.paths]; exact List.pairwise_reverse.2 hs
 have := List.pairwise_iff_getElem.1 hp j i (by rw [List.length_map]; omega) (by rw [List.length_map]; exact hi) hj
 simpa using this
theorem Dels.able {τ : Tr} (hW : WI τ) {s : Int} {l : List Pt} (h : Dels τ s l) : ∀ y ∈ l, y.kind = 2 ∧ ableZ y.path := fun y hy => by
 obtain ⟨i, hi, rfl⟩ := List.mem_iff_getElem.1 hy
 exact ⟨h.kinds _ hy, (hW.owned (h.at hi)).1⟩
theorem Dels.finds {τ : Tr} (hW : WI τ) {s : Int} {l : List Pt} (h : Dels τ s l) (zx : Int) {i : Nat} (hi : i < l.length) : findsZ (partsZ τ zx (l.take i)).1 l[i] = true := by
 obtain ⟨ha, ht, hne, h0, n, hn, ho⟩ := hW.owned (h.at hi)
 have hk := h.kinds _ (List.getElem_mem hi)
 have hab : ∀ y ∈ l.take i, y.kind = 2 ∧ ableZ y.path := fun y hy => h.able hW y (List.mem_of_mem_take hy)
 have hth : thereT (partsZ τ zx (l.take i)).1 l[i].path := by
  rw [dels_there _ hab]
  refine ⟨ht, fun y hy => ?_⟩
  obtain ⟨j, hj, rfl⟩ := List.mem_iff_getElem.1 hy
  have hj2 : j < i := by rw [List.length_take] at hj; omega
  rw [List.getElem_take]
  cases e : hitT l[i].path l[j].path with
  | false => rfl
  | true => exact absurd (h.lt hW.ok hi hj2) (hit_le e)
 have hkid : (kidsZ (partsZ τ zx (l.take i)).1 l[i].path).length = 0 := by
  have : kidsZ (partsZ τ zx (l.take i)).1 l[i].path = [] := by
   unfold kidsZ
   rw [List.map_eq_nil_iff, List.filter_eq_nil_iff]
   rintro ⟨c, m⟩ hm
   simp only [Bool.and_eq_true, Bool.not_eq_true', decide_eq_false_iff_not, decide_eq_true_eq, not_and]
   intro hc hp
   have hct : thereT (partsZ τ zx (l.take i)).1 c := (al_isSome).2 (List.mem_map_of_mem (f := (·.1)) hm)
   have hct2 := ((dels_there _ hab).1 hct).1
   exact hW.bare _ n hn (by rw [ho]; exact h0) c hct2 hc hp
  rw [this]; rfl
 unfold findsZ
 rw [if_neg (by omega), if_pos hk]
 exact decide_eq_true ⟨hne, hth, hkid⟩
theorem Dels.wi {τ : Tr} (hW : WI τ) {s : Int} {l : List Pt} (h : Dels τ s l) (zx : Int) : ∀ i, i ≤ l.length → WI (partsZ τ zx (l.take i)).1 := by
 intro i
 induction i with
 | zero => intro _; exact hW
 | succ i ih =>
  intro hi
  have hk := h.kinds _ (List.getElem_mem (show i < l.length by omega))
  have ha := h.acl _ (List.getElem_mem (show i < l.length by omega))
  rw [parts_at (by omega)]
  exact (ih (by omega)).part zx ⟨by omega, .inr (h.finds hW zx (by omega)), by rw [ha.2]; exact Nat.zero_le _, by rw [ha.1]; exact Nat.zero_le _, fun g => by omega⟩
theorem Dels.sound {τ : Tr} (hW : WI τ) {s : Int} {l : List Pt} (h : Dels τ s l) (zx : Int) : soundL τ zx true (l.filter realP) = true :=
 (soundL_real zx true l τ).2 fun i hi _ => ⟨h.finds hW zx hi, fun _ => h.kinds _ (List.getElem_mem hi)⟩
theorem Dels.none {τ : Tr} (hW : WI τ) {s : Int} (h0 : s ≠ 0) {l : List Pt} (h : Dels τ s l) (zx : Int) : ∀ q n, alook (partsZ τ zx l).1.nodes q = some n → n.st.own ≠ s := by
 intro q n hq e
 have ha : ∀ j (hj : j < l.length), j < l.length → ableZ l[j].path := fun j hj _ => (h.able hW _ (List.getElem_mem hj)).2
 have hq' : alook (partsZ τ zx (l.take l.length)).1.nodes q = some n := by rw [List.take_length]; exact hq
 obtain ⟨⟨n0, g1, g2⟩, g3⟩ := dels_left h.kinds l.length (Nat.le_refl _) ha q n hq'
 have hm : q ∈ ownedZ τ s := (owned_mem (hW.ok.sorted.nodup linB)).2 ⟨h0, n0, g1, g2.trans e⟩
 have hm2 : q ∈ l.map (·.path) := by rw [h.paths]; simpa using hm
 obtain ⟨y, hy, rfl⟩ := List.mem_map.1 hm2
 obtain ⟨j, hj, rfl⟩ := List.mem_iff_getElem.1 hy
 have := g3 j hj hj
 rw [hit_self] at this; cases this
theorem WI.drop {τ : Tr} (h : WI τ) (id : Int) : WI (dropS τ id) := by
 refine ⟨h.ok.dropS id, h.root, h.closed, h.data, h.bare, h.few, fun i s hi => ?_⟩
 have hm := al_mem hi
 have hm2 := (List.mem_filter.1 hm).1
 exact h.ids i s (al_of_mem (h.ok.ssorted.nodup linI) hm2)
theorem WI.opens {τ : Tr} (h : WI τ) {id : Int} (hi : 1 ≤ id ∧ id ≤ 5) (n : Int) (s : Bs) : WI (openS τ id n s) := by
 have ho := h.ok.openS (show 0 < id by omega) n s
 have hids : ∀ i t, alook (openS τ id n s).sess i = some t → 1 ≤ i ∧ i ≤ 5 := fun i t ht => by
  have ht : alook (sset τ.sess id (n, s)) i = some t := ht
  rw [al_sset] at ht
  split at ht
  ·rename_i e; subst e; exact hi
  ·exact h.ids i t ht
 have hf := HInv.sfew ho.ssorted hids
 exact ⟨⟨ho.sorted, ho.ssorted, h.ok.few, ho.able, ho.ids, ho.acls, by omega⟩, h.root, h.closed, h.data, h.bare, h.few, hids⟩
/-! ### An entry -/
theorem owned_none12 {τ : Tr} {N : Nat} (ho : τ.Ok N) {s : Int} (h : ∀ q n, alook τ.nodes q = some n → n.st.own ≠ s) : ownedZ τ s = [] := by
 rw [List.eq_nil_iff_forall_not_mem]
 intro q hq
 obtain ⟨-, n, h1, h2⟩ := (owned_mem (ho.sorted.nodup linB)).1 hq
 exact h q n h1 h2
theorem multiL_len {u : Who} : ∀ {l : List Rq} {τ : Tr}, (multiL u l τ).2.1.length ≤ l.length
 | [], _ => Nat.le_refl _
 | r :: l, τ => by
  rw [multi_cons]
  split
  ·exact Nat.zero_le _
  ·exact Nat.succ_le_succ (multiL_len (l := l))
theorem en_short {z s i : Int} (hz : I64 z) (hs : I64 s) (hi : I64 i) {x : Pt} {l : List Pt} {c d : Nat} (hx : (ptB x).length ≤ c) (hl : ∀ y ∈ l, (ptB y).length ≤ d) (hn : l.length < 128) : (enB ⟨z, s, i, x, l⟩).length ≤ 31 + c + l.length * d := by
 have h1 := num_ten hz
 have h2 := num_ten hs
 have h3 := num_ten hi
 have h4 := fm_most8 (f := ptB) (c := d) (l := l) hl
 rw [enB_len]
 unfold subsB cntB
 rw [List.length_append, sevZ, if_pos hn]
 simp only [List.flatMap_cons, List.flatMap_nil, List.length_append, List.length_nil, List.length_singleton]
 omega
theorem bare_B {k o n e : Int} (hk : I64 k) (ho : I64 o) (hn : I64 n) (he : I64 e) : (ptB ⟨k, [], [], nilV, [], o, n, e, nilV⟩).length ≤ 43 := by
 have hB : PartB ⟨k, [], [], nilV, [], o, n, e, nilV⟩ := ⟨hk, ho, hn, he, Nat.zero_le _, Nat.zero_le _, Nat.zero_le _, fun a ha => by cases ha⟩
 have h1 := hB.len
 have h2 : (aclB ([] : List Ac)).length ≤ 1 := by simp [aclB, cntB, sevZ]
 have h1 : (ptB ⟨k, [], [], nilV, [], o, n, e, nilV⟩).length ≤ 42 + 0 + 0 + (aclB ([] : List Ac)).length := h1
 omega
structure EntS (τ : Tr) (z s i : Int) (x : Pt) (l : List Pt) : Prop where
 sound : soundZ τ z x (l.filter realP) = true
 wi : WI (applyZ τ z x l).1
 len : (enB ⟨z, s, i, x, l⟩).length ≤ 4000
 same : x.kind = 8 ∨ x.kind = 0 → (applyZ τ z x l).1 = zxT τ z
 shut : x.kind = 6 → ownedZ (applyZ τ z x l).1 s = []
theorem ref_S {τ : Tr} (h : WI τ) {z s i : Int} (hz : I64 z) (hs : I64 s) (hi : I64 i) {e n : Int} (he : I64 e) (hn : I64 n) : EntS τ z s i (refusal e n) [] := by
 have hb := bare_B (k := 8) ⟨by decide, by decide⟩ I64.zero hn he
 have ha : (applyZ τ z (refusal e n) []).1 = zxT τ z := by
  unfold applyZ
  dsimp only
  rw [if_neg (by show ¬ (8 : Int) = 5; decide), if_neg (by show ¬ (8 : Int) = 6; decide), if_neg (by show ¬ (8 : Int) = 7; decide), if_pos (by rfl)]
 refine ⟨?_, by rw [ha]; exact h.zx z, ?_, fun _ => ha, fun g => absurd g (by show ¬ (8 : Int) = 6; decide)⟩
 ·unfold soundZ
  rw [if_neg (by show ¬ ((8 : Int) = 1 ∨ (8 : Int) = 2 ∨ (8 : Int) = 3 ∨ (8 : Int) = 4); decide), if_neg (by show ¬ ((8 : Int) = 6 ∨ (8 : Int) = 7); decide)]
 ·have := en_short (x := refusal e n) (l := []) (d := 0) hz hs hi hb (fun _ g => by cases g) (by decide)
  simp only [List.length_nil] at this
  omega
theorem part_S {τ : Tr} (h : WI τ) {z s i : Int} (hz : I64 z) (hs : I64 s) (hi : I64 i) {x : Pt} (hW : PartW τ x) (hB : PartB x) : EntS τ z s i x [] := by
 have hk := hW.kind
 have hp : plainK x := by unfold plainK; omega
 have ha : (applyZ τ z x []).1 = zxT (partZ τ x z).1 z := by rw [apply_part hp, part_zxT]
 refine ⟨?_, by rw [ha]; exact (h.part z hW).zx z, ?_, fun g => ?_, fun g => by omega⟩
 ·unfold soundZ
  split
  ·rename_i g
   exact hW.finds.resolve_left (by omega)
  ·rw [if_neg (by omega)]
 ·have := en_short (x := x) (l := []) (d := 0) hz hs hi hB.some (fun _ g => by cases g) (by decide)
  simp only [List.length_nil] at this
  omega
 ·rw [ha, part_zero (by omega)]
theorem multi_S {τ : Tr} (h : WI τ) {u : Who} (hu : 1 ≤ u.ses ∧ u.ses ≤ 5) {z s i : Int} (hz : I64 z) (hs : I64 s) (hi : I64 i) (l : List Rq) : EntS τ z s i (multiP τ u l).1 (multiP τ u l).2 := by
 have hm : I64 (-1) := ⟨by decide, by decide⟩
 unfold multiP
 split
 ·exact ref_S h hz hs hi ⟨by decide, by decide⟩ hm
 ·rename_i hl
  split
  ·rename_i j e he
   have := multi_stop_i he
   exact ref_S h hz hs hi ⟨by omega, by omega⟩ ⟨by omega, by omega⟩
  ·rename_i hn
   obtain ⟨h1, h2, h3⟩ := multiL_snd hu z (l := l) (σ := τ) (υ := τ) rfl h hn
   have hlen : (multiL u l τ).2.1.length ≤ l.length := multiL_len
   have ha : (applyZ τ z ⟨7, [], [], nilV, [], 0, 0, 0, nilV⟩ (multiL u l τ).2.1).1 = zxT (partsZ τ z (multiL u l τ).2.1).1 z := by
    unfold applyZ
    dsimp only
    rw [if_neg (by decide), if_neg (by decide), if_pos rfl, parts_zxT]
   dsimp only
   refine ⟨?_, by rw [ha]; exact h2.zx z, ?_, fun g => absurd g (by show ¬ ((7 : Int) = 8 ∨ (7 : Int) = 0); decide), fun g => absurd g (by show ¬ (7 : Int) = 6; decide)⟩
   ·unfold soundZ
    rw [if_neg (by show ¬ ((7 : Int) = 1 ∨ (7 : Int) = 2 ∨ (7 : Int) = 3 ∨ (7 : Int) = 4); decide), if_pos (by show (7 : Int) = 6 ∨ (7 : Int) = 7; decide)]
    exact h1
   ·have hb := bare_B (k := 7) (o := 0) (n := 0) (e := 0) ⟨by decide, by decide⟩ I64.zero I64.zero I64.zero
    have := en_short hz hs hi hb (fun y hy => (h3 y hy).some) (l := (multiL u l τ).2.1) (by omega)
    have h8 : (multiL u l τ).2.1.length * 363 ≤ 8 * 363 := Nat.mul_le_mul_right _ (by omega)
    omega
theorem close_S {τ : Tr} (h : WI τ) {s : Int} (h0 : 1 ≤ s ∧ s ≤ 5) {z i : Int} (hz : I64 z) (hi : I64 i) : EntS τ z s i (closeP τ s).1 (closeP τ s).2 := by
 have hs : I64 s := ⟨by omega, by omega⟩
 have hB := closeL_B (l := (ownedZ τ s).reverse) (τ := τ) (fun p hp => owned_short h.ok (List.mem_reverse.1 hp))
 have hN := fun y hy => (closeL_N (l := (ownedZ τ s).reverse) (τ := τ) y hy).2
 have hD : Dels τ s (closeL (ownedZ τ s).reverse τ) := ⟨closeL_paths _ _, hN, fun y hy => ⟨(hB y hy).2.2, (hB y hy).2.1⟩⟩
 have hlen : (closeL (ownedZ τ s).reverse τ).length ≤ 32 := by
  rw [closeL_len, List.length_reverse]; exact h.few s
 have hf : (closeL (ownedZ τ s).reverse τ).filter isDel = closeL (ownedZ τ s).reverse τ := filter_del hN
 have ha : (applyZ τ z (closeP τ s).1 (closeP τ s).2).1 = dropS (zxT (partsZ τ z (closeL (ownedZ τ s).reverse τ)).1 z) s := by
  unfold applyZ closeP
  dsimp only
  rw [if_neg (by decide), if_pos rfl, hf, parts_zxT]
 have hw := hD.wi h z _ (Nat.le_refl _)
 rw [List.take_length] at hw
 refine ⟨?_, by rw [ha]; exact (hw.zx z).drop s, ?_, fun g => absurd g (by show ¬ ((6 : Int) = 8 ∨ (6 : Int) = 0); decide), fun _ => ?_⟩
 ·unfold soundZ
  rw [if_neg (by show ¬ ((6 : Int) = 1 ∨ (6 : Int) = 2 ∨ (6 : Int) = 3 ∨ (6 : Int) = 4); decide), if_pos (by show (6 : Int) = 6 ∨ (6 : Int) = 7; decide)]
  exact hD.sound h z
 ·have hb := bare_B (k := 6) (o := s) (n := 0) (e := 0) ⟨by decide, by decide⟩ hs I64.zero I64.zero
  have := en_short hz hs hi hb (d := 103) (fun y hy => ?_) (l := closeL (ownedZ τ s).reverse τ) (by omega)
  ·have h8 : (closeL (ownedZ τ s).reverse τ).length * 103 ≤ 32 * 103 := Nat.mul_le_mul_right _ hlen
   show (enB ⟨z, s, i, ⟨6, [], [], nilV, [], s, 0, 0, nilV⟩, closeL (ownedZ τ s).reverse τ⟩).length ≤ 4000
   omega
  ·obtain ⟨h1, h2, h3⟩ := hB y hy
   have h4 := h1.len
   have h5 := h1.path
   have h6 : (aclB ([] : List Ac)).length ≤ 1 := by simp [aclB, cntB, sevZ]
   rw [h2, h3] at h4
   simp only [List.length_nil] at h4
   omega
 ·rw [ha]
  have := owned_none12 hw.ok (hD.none h (by omega) z)
  exact this
theorem open_S {τ : Tr} (h : WI τ) {s : Int} (h0 : 1 ≤ s ∧ s ≤ 5) {z i : Int} (hz : I64 z) (hi : I64 i) : EntS τ z s i (openP s) [] := by
 have hs : I64 s := ⟨by omega, by omega⟩
 have ha : (applyZ τ z (openP s) []).1 = openS (zxT τ z) s 10 [] := by
  unfold applyZ
  dsimp only
  rw [if_pos (show (openP s).kind = 5 from rfl), if_pos (show 0 < (openP s).own by show 0 < s; omega)]; rfl
 refine ⟨?_, by rw [ha]; exact (h.zx z).opens h0 10 [], ?_, fun g => absurd g (by show ¬ ((5 : Int) = 8 ∨ (5 : Int) = 0); decide), fun g => absurd g (by show ¬ (5 : Int) = 6; decide)⟩
 ·unfold soundZ
  rw [if_neg (by show ¬ ((5 : Int) = 1 ∨ (5 : Int) = 2 ∨ (5 : Int) = 3 ∨ (5 : Int) = 4); decide), if_neg (by show ¬ ((5 : Int) = 6 ∨ (5 : Int) = 7); decide)]
 ·have hb := bare_B (k := 5) (o := s) (n := 10) (e := 0) ⟨by decide, by decide⟩ hs ⟨by decide, by decide⟩ I64.zero
  have := en_short (x := openP s) (l := []) (d := 0) hz hs hi hb (fun _ g => by cases g) (by decide)
  simp only [List.length_nil] at this
  omega
theorem ans_S {τ : Tr} (h : WI τ) {p : HP} {w : Wh} (hw : WhA p w) {z : Int} (hz : I64 z) : EntS τ z (sesK w.ses) (xidW w) (ansW τ w).1 (ansW τ w).2 := by
 have hs := sesK_i w.ses
 have hr := sesK_rng w.ses
 have hD := hw.d _ hs
 have hm : I64 (-1) := ⟨by decide, by decide⟩
 have hi : I64 (xidW w) := by
  unfold xidW
  split
  ·exact I64.zero
  ·exact hD.w.rq.xid
 unfold ansW
 split
 ·exact open_S h hr hz hi
 unfold txnP
 split
 ·exact ref_S h hz hs hi ⟨by decide, by decide⟩ hm
 split
 ·exact ref_S h hz hs hi ⟨by decide, by decide⟩ hm
 split
 ·exact multi_S h hr hz hs hi _
 split
 ·have noop : PartW τ noopX ∧ PartB noopX := ⟨⟨⟨Int.le_refl _, by decide⟩, .inl rfl, Nat.zero_le _, Nat.zero_le _, fun g => absurd g (by decide)⟩, ⟨I64.zero, I64.zero, I64.zero, I64.zero, Nat.zero_le _, Nat.zero_le _, Nat.zero_le _, fun a ha => by cases ha⟩⟩
  exact part_S h hz hs hi noop.1 noop.2
 split
 ·exact close_S h hr hz hi
 split
 ·have := part_code τ ⟨sesK w.ses, w.ids⟩ w.r
  exact ref_S h hz hs hi ⟨by omega, by omega⟩ hm
 ·rename_i g
  have := part_WB h (u := ⟨sesK w.ses, w.ids⟩) hr (r := w.r) (by omega)
  exact part_S h hz hs hi this.1 this.2
theorem EntS.of {τ : Tr} {z s i : Int} {x y : Pt} {l ys : List Pt} (h : EntS τ z s i x l) (hy : y.pl = x) (hys : ys.map Pt.pl = l) : EntS τ z s i y ys := by
 subst hy; subst hys
 have hf : (ys.map Pt.pl).filter realP = (ys.filter realP).map Pt.pl := by rw [List.filter_map]; rfl
 have hL : ∀ (cl : Bool) (l : List Pt) (τ : Tr), soundL τ z cl (l.map Pt.pl) = soundL τ z cl l := by
  intro cl l
  induction l with
  | nil => intro τ; rfl
  | cons x l ih =>
   intro τ
   rw [List.map_cons, soundL, soundL, ih]; rfl
 have h1 := h.sound
 rw [hf] at h1
 have e1 : soundZ τ z y.pl ((ys.filter realP).map Pt.pl) = soundZ τ z y (ys.filter realP) := by
  unfold soundZ
  rw [hL]; rfl
 have h2 := h.wi
 have h4 := h.same
 have h5 := h.shut
 rw [apply_plm] at h2 h4 h5
 refine ⟨e1 ▸ h1, h2, ?_, h4, h5⟩
 have h3 := h.len
 rw [← enB_pl]
 exact h3
theorem rkids_spec (x : Nat) (τ : Tr) (p : Bs) (N : Nat) (ho : τ.Ok N) (hN : N ≤ 1073741824) : Fn Tryz.prog 60 #[vptr x, vstr p] [refR x τ] fun v L => (∃ a c, v = .slice a (kidsZ τ p).length c) ∧ L = [refR x τ, slR 9 1 v (kidsZ τ p).length (strs (kidsZ τ p))] := by
 refine Fn.intro Tryz.func60 rfl rfl fun F W => ?_
 refine .rtOpen (x := x) (τ := τ) (by repeat' constructor) fun an cn as1 cs l hl => ?_
 have hll := nds_len hl
 have hofew := ho.few
 refine .add (slR_nil 9 1) (.sr (.an rfl (.sr (.an rfl (.seq (.sr (.an rfl (.block (.loopK (ι := Nat × Value) (fun q E => (6, vint q.1) :: (5, q.2) :: E) (fun q => [slR 9 1 q.2 (kidsN (l.take q.1) p).length (strs (kidsN (l.take q.1) p))]) (fun q => q.1 ≤ l.length ∧ ∃ a c, q.2 = .slice a (kidsN (l.take q.1) p).length c) (fun q => l.length - q.1) (0, .slice none 0 0) (ts := [0, 1, 4]) (.cons rfl (.cons rfl (.cons rfl (.nil)))) (⟨Nat.zero_le _, none, 0, rfl⟩) ⟨rfl, rfl, rfl, rfl, rfl, trivial⟩ (by repeat' constructor) ?_)))))))))
 rintro ⟨i, u⟩ ⟨hi, au, cu, hu⟩
 dsimp only
 dsimp only at hi hu
 subst hu
 have hkl := kidsN_len (l.take i) p
 rw [List.length_take] at hkl
 refine .seq (.sm rfl (.m rfl (.nf rfl fo_110_0 (.u (.ld rfl ag_107) (.q (.slen rfl Tryz.underlying107 rfl) rfl (.ui rfl rfl rfl (.nt (.condD rfl (fun h13 => ?_) (fun h13 => ?_)))))))))
 ·have hi2 : i < l.length := by omega
  have hpi : l[i].1.length ≤ 60 := by have := nds_get hl hi2; have h2 := able_len (ho.able _ (List.getElem_mem (l := τ.nodes) (n := i) (by omega))); rw [this] at h2; exact h2
  refine .slShape (T := 112) (sz := 12) (v := .slice an l.length cn) (xs := l.flatMap rnC) (by repeat' constructor) (by omega) fun bn bn' e0 mbn _ => ?_
  simp only [Value.slice.injEq, true_and] at e0
  obtain ⟨rfl, rfl⟩ := e0
  refine .sk (.seq (.block (.sm rfl (.nf rfl fo_110_0 (.u (.ld rfl ag_107) (.m rfl (.q (.indexAddr rfl rfl el_107 (by omega)) rfl (.u (.fieldAddr rfl fo_112_0) (.q (.loadRd (sz := 12) (j := i * 12 + 0) (p := rnR _ l) rfl ag_9 (by repeat' constructor) (fun h hp => slR_rd hp) (by omega) ((rn_cell (l := l) (i := i) (k := 0) (by omega) (by decide)).trans rfl)) rfl (.u (.strne rfl rfl) (.m rfl (.ndec (t := 25) rfl (fun h5_25 => ?_) (fun h5_25 => ?_)))))))))))))
  ·refine .kNT (t := 24) rfl h5_25 (.grun (t := 25) rfl rfl rfl (.m rfl (.grun (t := 25) rfl rfl rfl (.u (.nilp rfl) (.grun (t := 25) rfl rfl rfl (.u (.fieldAddr rfl fo_110_0) (.grun (t := 25) rfl rfl rfl (.u (.ld rfl ag_107) (.grun (t := 25) rfl rfl rfl (.m rfl (.grun (t := 25) rfl rfl rfl (.q (.indexAddr rfl rfl el_107 (by omega)) rfl (.grun (t := 25) rfl rfl rfl (.u (.fieldAddr rfl fo_112_0) (.grun (t := 25) rfl rfl rfl (.q (.loadRd (sz := 12) (j := i * 12 + 0) (p := rnR _ l) rfl ag_9 (by repeat' constructor) (fun h hp => slR_rd hp) (by omega) ((rn_cell (l := l) (i := i) (k := 0) (by omega) (by decide)).trans rfl)) rfl (.grun (t := 25) rfl rfl rfl (.cv Tryz.func110 [_] (rparent_spec l[i].1 (by omega)) ?_))))))))))))))))))
   refine .grun (t := 25) rfl rfl rfl (.m rfl (.grun (t := 25) rfl rfl rfl (.u (.streq rfl rfl) (.u (.pickT rfl rfl) (.nt (.condD rfl (fun h37 => ?_) (fun h37 => ?_)))))))
   ·refine .region (.m rfl (.m rfl (.nf rfl fo_110_0 (.u (.ld rfl ag_107) (.m rfl (.q (.indexAddr rfl rfl el_107 (by omega)) rfl (.u (.fieldAddr rfl fo_112_0) (.q (.loadRd (sz := 12) (j := i * 12 + 0) (p := rnR _ l) rfl ag_9 (by repeat' constructor) (fun h hp => slR_rd hp) (by omega) ((rn_cell (l := l) (i := i) (k := 0) (by omega) (by decide)).trans rfl)) rfl (.cv Tryz.func121 [_] (rbase_spec l[i].1 (by omega)) ?_)))))))))
    refine .oq (.buildSlice1 (vs := [_]) el_23 ze_9 rfl rfl rfl rfl rfl (by decide)) ?_
    rintro v L' ⟨b6_10, rfl, rfl⟩
    refine .oq (.append1 rfl rfl rfl el_23 ze_9 rfl rfl ?c45 ?c46 (Nat.le_refl _) ?c47 (by decide)) ?_
    case c45 => (first | (simp [isCell]; done) | (simp [isCell, setAll, Value.cells]; done))
    case c46 => rfl
    case c47 => first | omega | (simp; omega)
    rintro v L' ⟨⟨a6_11, c6_11, rfl⟩, rfl⟩
    refine .a rfl (.nil (.blk_n (.then_n (.region (.m rfl (.q (.add rfl rfl (by omega)) rfl (.an rfl ?_)))))))
    have hst : (kidsN (l.take (i + 1)) p) = (kidsN (l.take i) p) ++ [baseZ l[i].1] := by unfold kidsN; rw [List.take_succ_eq_append_getElem hi2, List.filter_append, List.map_append]; simp [show ¬ l[i].1 = [47] from h5_25, show parentZ l[i].1 = p from h37]
    rw [show strs (kidsN (l.take i) p) ++ [vstr (baseZ l[i].1)] = strs (kidsN (l.take (i + 1)) p) by rw [hst]; simp [strs], show (kidsN (l.take i) p).length + 1 = (kidsN (l.take (i + 1)) p).length by rw [hst, List.length_append]; rfl]
    exact .rk ((i + 1, .slice a6_11 (kidsN (l.take (i + 1)) p).length c6_11)) (⟨by dsimp only; omega, _, _, rfl⟩) (by dsimp only; omega) ⟨rfl, rfl, rfl, rfl, rfl, trivial⟩
   refine .skip (.blk_n (.then_n (.region (.m rfl (.q (.add rfl rfl (by omega)) rfl (.an rfl ?_))))))
   have hst : (kidsN (l.take (i + 1)) p) = (kidsN (l.take i) p) := by unfold kidsN; rw [List.take_succ_eq_append_getElem hi2, List.filter_append, List.map_append]; simp; exact fun g1 g2 => h37 g2
   rw [← hst]
   exact .rk ((i + 1, .slice au (kidsN (l.take (i + 1)) p).length cu)) (⟨by dsimp only; omega, _, _, rfl⟩) (by dsimp only; omega) ⟨rfl, rfl, rfl, rfl, rfl, trivial⟩
  refine .kNF (t := 24) rfl h5_25 (.gk (.gk (.gk (.gk (.gk (.gk (.gk (.gk (.gk (.gk (.gk (.u (.pickF rfl rfl) (.nt (.condF rfl (.skip (.blk_n (.then_n (.region (.m rfl (.q (.add rfl rfl (by omega)) rfl (.an rfl ?_)))))))))))))))))))))
  have hst : (kidsN (l.take (i + 1)) p) = (kidsN (l.take i) p) := by unfold kidsN; rw [List.take_succ_eq_append_getElem hi2, List.filter_append, List.map_append]; simp; exact fun g1 _ => g1 h5_25
  rw [← hst]
  exact .rk ((i + 1, .slice au (kidsN (l.take (i + 1)) p).length cu)) (⟨by dsimp only; omega, _, _, rfl⟩) (by dsimp only; omega) ⟨rfl, rfl, rfl, rfl, rfl, trivial⟩
 have hii : i = l.length := by omega
 rw [hii, List.take_length, kidsN_eq hl]
 refine .exit (.then_e (.then_e (.blk_e (.then_n (.sm rfl (.an rfl (.ret (.rtFold (x := x) (τ := τ) (l := l) hl (by repeat' constructor) rfl rfl rfl rfl rfl ?_))))))))
 exact .dn rfl rfl ⟨⟨_, _, rfl⟩, rfl⟩
theorem rclone_spec (x : Nat) (τ : Tr) (N : Nat) (ho : τ.Ok N) (hN : N ≤ 1073741824) : Fn Tryz.prog 69 #[vptr x] [refR x τ] fun v L => ∃ u, v = vptr u ∧ L = [refR u τ, refR x τ] := by
 refine Fn.intro Tryz.func69 rfl rfl fun F W => ?_
 refine .rtOpen (x := x) (τ := τ) (by repeat' constructor) fun an cn as1 cs l hl => ?_
 have hll := nds_len hl
 have hofew := ho.few
 have hosf := ho.sfew
 refine .sr (.an rfl (.sm rfl (.nf rfl fo_110_2 (.u (.ld rfl ag_3) (.q (.build (us := [(2, _)]) fl_110 ze_110 rfl rfl (by simp [isCell])) rfl (.oq (.box rfl) ?_))))))
 rintro v L' ⟨u, rfl, rfl⟩
 refine .an rfl (.seq (.add (slR_nil 122 3) (.ptCast (b := u) (l' := [.slice none 0 0, .slice none 0 0, vint τ.zx]) (by repeat' constructor) rfl (.draw [9, 12] [[0, 1, 2, 3, 4, 5, 6, 7, 8, 9], [10, 11, 12]] mixed (by kernel_rfl) (.go [ptc x _ _] (by repeat' constructor) (.k rfl (.move rfl) (.mv rfl rfl (.nf rfl rfl rfl fo_110_1 (.kv rfl (.ld rfl ag_108) (.mv rfl rfl (.nf rfl rfl rfl fo_110_1 (.kv rfl (.ld rfl ag_108) (.hh rfl (.append (n := 0) (m := τ.sess.length) (ys := τ.sess.flatMap rsC) (p := rsR (.slice as1 τ.sess.length cs) τ.sess) rfl rfl rfl el_108 (.inl ⟨_, Tryz.underlying108⟩) ze_122 rfl rfl ?hc16 ?hr17 ?hb18 (by decide)) ?_)))))))))))))
 case hc16 => exact rsl_cells _
 case hr17 => exact fun h hp => slR_rd hp
 case hb18 => omega
 rintro v L' ⟨⟨a2, c2, rfl⟩, rfl⟩; rw [Nat.zero_add, List.nil_append]
 refine D.ph (.g0 (.nf rfl rfl rfl fo_110_1 (.hh rfl (.store rfl rfl rfl sz_108 ?c23 (nfz0 _ _)) ?_)))
 case c23 => first | decide | (simp; omega) | simp
 rintro v L' rfl
 refine D.pf (.seq (.seq (.ptCast (b := u) (l' := [.slice none 0 0, .slice a2 τ.sess.length c2, vint τ.zx]) (by repeat' constructor) rfl (.add (slR_nil 112 12) (.add (p := bigR inA []) big_nil (.region (.an rfl (.block (.loopK (ι := Nat × Value × (List Rno)) (fun q E => (4, vint q.1) :: E) (fun q => [ptc u [q.2.1, .slice a2 τ.sess.length c2, vint τ.zx] 110, rnR q.2.1 q.2.2, bigR inA q.2.2]) (fun q => q.1 ≤ l.length ∧ ndsZ q.2.2 = ndsZ (l.take q.1) ∧ ∃ a c, q.2.1 = .slice a q.2.2.length c) (fun q => l.length - q.1) (0, .slice none 0 0, []) (ts := [0, 2, 3]) (.cons rfl (.cons rfl (.cons rfl (.nil)))) (⟨Nat.zero_le _, rfl, none, 0, rfl⟩) ⟨rfl, rfl, rfl, rfl, trivial⟩ (by repeat' constructor) ?_)))))))))
 rintro ⟨i, w, acc⟩ ⟨hi, hac, aw, cw, hw⟩
 dsimp only
 dsimp only at hi hac hw
 subst hw
 have hal : acc.length = i := by have := congrArg List.length hac; simp [ndsZ] at this; omega
 refine .seq (.sm rfl (.m rfl (.nf rfl fo_110_0 (.u (.ld rfl ag_107) (.q (.slen rfl Tryz.underlying107 rfl) rfl (.ui rfl rfl rfl (.nt (.condD rfl (fun h30 => ?_) (fun h30 => ?_)))))))))
 ·have hi2 : i < l.length := by omega
  refine .slShape (T := 112) (sz := 12) (v := .slice an l.length cn) (xs := l.flatMap rnC) (by repeat' constructor) (by omega) fun bn bn' e0 mbn _ => ?_
  simp only [Value.slice.injEq, true_and] at e0
  obtain ⟨rfl, rfl⟩ := e0
  refine .sk (.seq (.block (.seq (.aclShape (l := l) (i := i) hi2 (by repeat' constructor) fun hcl => (.region (.m rfl (.nf rfl fo_110_0 (.u (.ld rfl ag_107) (.m rfl (.q (.indexAddr rfl rfl el_107 (by omega)) rfl (.q (.loadRdA (sz := 12) (j := i * 12) (k := 12) (p := rnR _ l) (vs := rnC l[i]) rfl ag_112 (by repeat' constructor) (fun h hp => slR_rd hp) (by omega) (by omega) (by omega) (flatMap_at (f := rnC) (sz := 12) (fun _ _ => rfl) (by omega))) rfl (.oq (.allocA ze_112) ?_))))))))))))
  rintro v L' ⟨b5, rfl, rfl⟩
  refine .oq (.storeA rfl rfl ?c43 sz_112 ?c46 ?c44 (nfz0 _ _)) ?_
  case c43 => intro v hv; exact rn_cells hcl v (by simpa [Value.cells] using hv)
  case c46 => rfl
  case c44 => simp [rnC]
  rintro v L' rfl
  refine .nil (.ptCast (b := b5) (l' := rnC l[i]) (by repeat' constructor) rfl (.then_n (.sr (.u (.fieldAddr rfl fo_112_2) (.u (.ld rfl ag_24) (.oq (.call Tryz.func126 rfl rfl (vs := [_]) rfl (rrows_spec l[i].2.1 l[i].2.2.acl (bigR inA l) (big_rd hi2) (by have := ho.acls _ (List.getElem_mem (l := τ.nodes) (n := i) (by omega)); rw [nds_get hl hi2] at this; exact this))) ?_))))))
  rintro v L' ⟨⟨a7, c7, rfl⟩, rfl⟩
  refine .u (.fieldAddr rfl fo_112_2) (.oq (.store rfl rfl rfl sz_24 ?c53 (nfz0 _ _)) ?_)
  case c53 => simp [rnC]
  rintro v L' rfl
  refine .nil (.ptCast (b := b5) (l' := rnC ((l[i].1, (.slice a7 l[i].2.2.acl.length c7, l[i].2.2)) : Rno)) (by repeat' constructor) rfl (.then_n (.draw [6, 7, 10] [[0, 1, 2, 3, 4, 5, 6, 7], [8, 9, 10]] mixed (by kernel_rfl) (.go [ptc b5 _ _, ptc u _ _] (by repeat' constructor) (.k rfl (.move rfl) (.k rfl (.move rfl) (.k rfl (.nilp rfl) (.k rfl (.fieldAddr rfl fo_110_0) (.k rfl (.ld rfl ag_107) (.kv rfl (.loadAs (vs := rnC ((l[i].1, (.slice a7 l[i].2.2.acl.length c7, l[i].2.2)) : Rno)) rfl ag_112 (by repeat' constructor) (by simp [rnC]) rfl) (.hh rfl (.buildSlice (vs := [_]) el_107 ze_112 rfl rfl rfl rfl (by first | (simp [Value.cells]; done) | (intro v hv; simp only [List.mem_cons, List.not_mem_nil, or_false] at hv; (repeat (first | (subst hv; rfl) | (rcases hv with hv | hv; (subst hv; rfl)))))) (by decide)) ?_)))))))))))
  rintro v L' ⟨b8_6, rfl, rfl⟩
  refine D.hh rfl (.append1 rfl rfl rfl el_107 ze_112 rfl rfl ?c64 ?c65 (Nat.le_refl _) ?c66 (by decide)) ?_
  case c64 => first | exact rn_cells rfl | (simp only [List.map_cons, List.map_nil, List.flatten_cons, List.flatten_nil, List.append_nil]; exact rn_cells rfl)
  case c65 => rfl
  case c66 => first | omega | (simp; omega)
  rintro v L' ⟨⟨a8_7, c8_7, rfl⟩, rfl⟩
  refine D.ph (.g0 (.nf rfl rfl rfl fo_110_0 (.hh rfl (.store rfl rfl rfl sz_107 ?c71 (nfz0 _ _)) ?_)))
  case c71 => first | decide | (simp; omega) | simp
  rintro v L' rfl
  refine D.ph (.fin (.blk_n (.then_n (.region (.m rfl (.q (.add rfl rfl (by omega)) rfl (.an rfl (.toRd (v := .slice a7 l[i].2.2.acl.length c7) (by repeat' constructor) (.bigSnoc (l := acc) ((l[i].1, (.slice a7 l[i].2.2.acl.length c7, l[i].2.2)) : Rno) (p := rdO 2 (.slice a7 l[i].2.2.acl.length c7) l[i].2.2.acl.length (l[i].2.2.acl.flatMap acC)) rfl (by repeat' constructor) ?_)))))))))
  rw [show acc.length + 1 = (acc ++ [((l[i].1, (.slice a7 l[i].2.2.acl.length c7, l[i].2.2)) : Rno)]).length by rw [List.length_append]; rfl]
  refine .slCast (T := 112) (sz := 12) (m' := (acc ++ [((l[i].1, (.slice a7 l[i].2.2.acl.length c7, l[i].2.2)) : Rno)]).length) (xs' := (acc ++ [((l[i].1, (.slice a7 l[i].2.2.acl.length c7, l[i].2.2)) : Rno)]).flatMap rnC) (by repeat' constructor) rfl (by rw [List.flatMap_append]; simp; rfl) (.ptCast (b := u) (l' := [.slice a8_7 (acc ++ [((l[i].1, (.slice a7 l[i].2.2.acl.length c7, l[i].2.2)) : Rno)]).length c8_7, .slice a2 τ.sess.length c2, vint τ.zx]) (by repeat' constructor) rfl ?_)
  exact .rk ((i + 1, .slice a8_7 (acc ++ [((l[i].1, (.slice a7 l[i].2.2.acl.length c7, l[i].2.2)) : Rno)]).length c8_7, acc ++ [((l[i].1, (.slice a7 l[i].2.2.acl.length c7, l[i].2.2)) : Rno)])) (⟨by dsimp only; omega, by dsimp only; rw [List.take_succ_eq_append_getElem hi2]; unfold ndsZ at hac ⊢; rw [List.map_append, List.map_append, hac]; rfl, _, _, rfl⟩) (by dsimp only; omega) ⟨rfl, rfl, rfl, rfl, trivial⟩
 have hii : i = l.length := by omega
 rw [hii, List.take_length, hl] at hac
 refine .exit (.then_e (.then_e (.blk_e (.then_n (.sm rfl (.an rfl (.ret (.rtFold (x := u) (τ := τ) (l := acc) hac (by repeat' constructor) rfl rfl rfl rfl rfl (.rtFold (x := x) (τ := τ) (l := l) hl (by repeat' constructor) rfl rfl rfl rfl rfl ?_)))))))))
 exact .dn rfl rfl ⟨_, rfl, rfl⟩
theorem rfinds_spec (x : Nat) (τ : Tr) (y : Pt) (hpl : y.path.length ≤ 1048576) (N : Nat) (ho : τ.Ok N) (hN : N ≤ 1073741824) : Fn Tryz.prog 70 #[vptr x, .agg (ptC y).toArray] [refR x τ] fun v L => v = .bool (findsZ τ y) ∧ L = [refR x τ] := by
 refine Fn.intro Tryz.func70 rfl rfl fun F W => ?_
 have hof := ho.few
 have hpar := parent_len y.path
 refine .sr (.oq (.box rfl) ?_)
 rintro v L' ⟨bx, rfl, rfl⟩
 refine .a rfl (.nil (.ptCast (b := bx) (l' := ptC y) (by repeat' constructor) rfl (.then_n (.sm rfl (.u (.fieldAddr rfl fo_43_1) (.u (.ld rfl ag_9) (.cv Tryz.func95 [_, _] (rplace_spec x τ y.path (by omega)) ?_)))))))
 refine .ui rfl rfl rfl (.an rfl (.seq (.sr (.u (.fieldAddr rfl fo_43_0) (.u (.ld rfl ag_3) (.nt (.block (.sr (.ui rfl rfl rfl (.an rfl (.condD rfl (fun h14 => ?_) (fun h14 => ?_))))))))))))
 ·refine .sr (.u (.fieldAddr rfl fo_43_1) (.u (.ld rfl ag_9) (.oq (.c Tryz.func127 [_] (rable_spec _ ?hs15)) ?_)))
  case hs15 => first | assumption | omega
  rintro v L' ⟨rfl, rfl⟩
  refine .an rfl (.sm rfl (.m rfl (.dec (t := 20) rfl (fun h5_20 => ?_) (fun h5_20 => ?_))))
  ·refine .kDT (t := 18) rfl h5_20 (.kDT (t := 6) rfl h5_20 (.kDT (t := 19) rfl h5_20 (.grun (t := 20) rfl rfl rfl (.m rfl (.grun (t := 20) rfl rfl rfl (.u (.not rfl) (.u (.pickT rfl rfl) (.m rfl (.ndec (t := 24) rfl (fun h5_24 => ?_) (fun h5_24 => ?_))))))))))
   ·refine .kNT (t := 22) rfl h5_24 (.kNT (t := 23) rfl h5_24 (.grun (t := 24) rfl rfl rfl (.m rfl (.grun (t := 24) rfl rfl rfl (.u (.fieldAddr rfl fo_43_1) (.grun (t := 24) rfl rfl rfl (.u (.ld rfl ag_9) (.grun (t := 24) rfl rfl rfl (.oq (.c Tryz.func110 [_] (rparent_spec _ ?hs22)) ?_)))))))))
    case hs22 => first | assumption | omega
    rintro v L' ⟨rfl, rfl⟩
    refine .grun (t := 24) rfl rfl rfl (.cv Tryz.func95 [_, _] (rplace_spec x τ (parentZ y.path) (by omega)) ?_)
    refine .grun (t := 24) rfl rfl rfl (.ui rfl rfl rfl (.u (.pickT rfl rfl) (.an rfl (.ret (.blk_r (.then_r ?_))))))
    have hz : findsZ τ y = decide (ableZ y.path ∧ ¬ thereT τ y.path ∧ thereT τ (parentZ y.path)) := by unfold findsZ; rw [if_pos h14]
    exact .dn rfl rfl ⟨congrArg Value.bool (by rw [hz]; exact decide_eq_decide.2 ⟨fun e => ⟨h5_20, fun g => h5_24 (show 0 ≤ placeTo τ.nodes y.path from (place_iff (l := τ.nodes) (p := y.path)).2 g), (place_iff (l := τ.nodes)).1 e⟩, fun e => (place_iff (l := τ.nodes)).2 e.2.2⟩), rfl⟩
   refine .kNF (t := 22) rfl h5_24 (.kNF (t := 23) rfl h5_24 (.gk (.gk (.gk (.gk (.gk (.gk (.u (.pickF rfl rfl) (.an rfl (.ret (.blk_r (.then_r ?_))))))))))))
   have hz : findsZ τ y = decide (ableZ y.path ∧ ¬ thereT τ y.path ∧ thereT τ (parentZ y.path)) := by unfold findsZ; rw [if_pos h14]
   exact .dn rfl rfl ⟨congrArg Value.bool (by rw [hz, decide_eq_false (fun g => g.2.1 ((place_iff (l := τ.nodes) (p := y.path)).1 h5_24))]), rfl⟩
  refine .kDF (t := 18) rfl h5_20 (.kDF (t := 6) rfl h5_20 (.kDF (t := 19) rfl h5_20 (.gk (.gk (.u (.pickF rfl rfl) (.m rfl (.gk (.gk (.gk (.gk (.gk (.gk (.u (.pickF rfl rfl) (.an rfl (.ret (.blk_r (.then_r ?_)))))))))))))))))
  have hz : findsZ τ y = decide (ableZ y.path ∧ ¬ thereT τ y.path ∧ thereT τ (parentZ y.path)) := by unfold findsZ; rw [if_pos h14]
  exact .dn rfl rfl ⟨congrArg Value.bool (by rw [hz, decide_eq_false (fun g => h5_20 g.1)]), rfl⟩
 refine .sr (.ui rfl rfl rfl (.an rfl (.condD rfl (fun h32 => ?_) (fun h32 => ?_))))
 ·refine .sr (.u (.fieldAddr rfl fo_43_1) (.u (.ld rfl ag_9) (.u (.strne rfl rfl) (.m rfl (.ndec (t := 37) rfl (fun h7_37 => ?_) (fun h7_37 => ?_))))))
  ·refine .kNT (t := 36) rfl h7_37 (.grun (t := 37) rfl rfl rfl (.m rfl (.u (.pickT rfl rfl) (.m rfl (.dec (t := 40) rfl (fun h7_40 => ?_) (fun h7_40 => ?_))))))
   ·refine .kDT (t := 11) rfl h7_40 (.kDT (t := 5) rfl h7_40 (.kDT (t := 38) rfl h7_40 (.kDT (t := 39) rfl h7_40 (.grun (t := 40) rfl rfl rfl (.m rfl (.grun (t := 40) rfl rfl rfl (.u (.fieldAddr rfl fo_43_1) (.grun (t := 40) rfl rfl rfl (.u (.ld rfl ag_9) (.grun (t := 40) rfl rfl rfl (.oq (.c Tryz.func60 [_, _] (rkids_spec x τ y.path N ho (by omega))) ?_)))))))))))
    rintro v L' ⟨⟨a7, c7, rfl⟩, rfl⟩
    refine .grun (t := 40) rfl rfl rfl (.q (.slen rfl Tryz.underlying23 rfl) rfl (.grun (t := 40) rfl rfl rfl (.ui rfl rfl rfl (.u (.pickT rfl rfl) (.an rfl (.ret (.blk_r (.then_r ?_))))))))
    have hz : findsZ τ y = decide (y.path ≠ [47] ∧ thereT τ y.path ∧ (kidsZ τ y.path).length = 0) := by unfold findsZ; rw [if_neg h14, if_pos h32]
    exact .dn rfl rfl ⟨congrArg Value.bool (by rw [hz]; exact decide_eq_decide.2 ⟨fun e => ⟨h7_37, (place_iff (l := τ.nodes) (p := y.path)).1 h7_40, by omega⟩, fun e => by have := e.2.2; omega⟩), rfl⟩
   refine .kDF (t := 11) rfl h7_40 (.kDF (t := 5) rfl h7_40 (.kDF (t := 38) rfl h7_40 (.kDF (t := 39) rfl h7_40 (.gk (.gk (.gk (.gk (.gk (.gk (.u (.pickF rfl rfl) (.an rfl (.ret (.blk_r (.then_r ?_))))))))))))))
   have hz : findsZ τ y = decide (y.path ≠ [47] ∧ thereT τ y.path ∧ (kidsZ τ y.path).length = 0) := by unfold findsZ; rw [if_neg h14, if_pos h32]
   exact .dn rfl rfl ⟨congrArg Value.bool (by rw [hz, decide_eq_false (fun g => h7_40 ((place_iff (l := τ.nodes) (p := y.path)).2 g.2.1))]), rfl⟩
  refine .kNF (t := 36) rfl h7_37 (.gk (.u (.pickF rfl rfl) (.m rfl (.gk (.gk (.gk (.gk (.gk (.gk (.u (.pickF rfl rfl) (.an rfl (.ret (.blk_r (.then_r ?_))))))))))))))
  have hz : findsZ τ y = decide (y.path ≠ [47] ∧ thereT τ y.path ∧ (kidsZ τ y.path).length = 0) := by unfold findsZ; rw [if_neg h14, if_pos h32]
  exact .dn rfl rfl ⟨congrArg Value.bool (by rw [hz, decide_eq_false (fun g => g.1 h7_37)]), rfl⟩
 refine .seq (.sr (.ui rfl rfl rfl (.an rfl (.dec (t := 48) rfl (fun h48 => ?_) (fun h48 => ?_)))))
 ·refine .condT rfl (.sk (.condT rfl (.sm rfl (.an rfl (.ret (.blk_r (.then_r ?_)))))))
  have hz : findsZ τ y = decide (thereT τ y.path) := by unfold findsZ; rw [if_neg h14, if_neg h32, if_pos (by omega)]
  exact .dn rfl rfl ⟨congrArg Value.bool (by rw [hz]; exact decide_eq_decide.2 (place_iff (l := τ.nodes) (p := y.path))), rfl⟩
 refine .condF rfl (.region (.ui rfl rfl rfl (.an rfl (.dec (t := 48) rfl (fun h48 => ?_) (fun h48 => ?_)))))
 ·refine .condT rfl (.sm rfl (.an rfl (.ret (.blk_r (.then_r ?_)))))
  have hz : findsZ τ y = decide (thereT τ y.path) := by unfold findsZ; rw [if_neg h14, if_neg h32, if_pos (by omega)]
  exact .dn rfl rfl ⟨congrArg Value.bool (by rw [hz]; exact decide_eq_decide.2 (place_iff (l := τ.nodes) (p := y.path))), rfl⟩
 refine .condF rfl (.skip (.blk_n (.then_n (.sr (.an rfl (.ret ?_))))))
 have hz : findsZ τ y = false := by unfold findsZ; rw [if_neg h14, if_neg h32, if_neg (by omega)]
 exact .dn rfl rfl ⟨by rw [hz], rfl⟩
theorem rsound_spec (x : Nat) (τ : Tr) (zx ses xid : Int) (y : Pt) (subs : List Pt) (p : HP) (hx : TxA p y subs) (N : Nat) (ho : τ.Ok N) (hN : N + subs.length + 1 ≤ 1073741824) : Fn Tryz.prog 29 #[vptr x, .agg ([vint zx, vint ses, vint xid] ++ ptC y).toArray] [refR x τ, p] fun v L => v = .bool (soundZ τ zx y subs) ∧ L = [refR x τ, p] := by
 refine Fn.intro Tryz.func29 rfl rfl fun F W => ?_
 refine .rdAny (p := p) hx.rd (by repeat' constructor) fun asb csb esub _ => ?_
 have hrd := hx.rd
 rw [esub] at hrd
 have hfs := hx.few
 have hosf := ho.sfew
 have hpl := hx.own.plen
 refine .sr (.oq (.box rfl) ?_)
 rintro v L' ⟨be, rfl, rfl⟩
 refine .a rfl (.nil (.ptCast (b := be) (l' := ([vint zx, vint ses, vint xid] ++ ptC y)) (by repeat' constructor) rfl (.then_n (.sm rfl (.oq (.c Tryz.func69 [_] (rclone_spec x τ N ho (by omega))) ?_)))))
 rintro v L' ⟨u, rfl, rfl⟩
 refine .an rfl (.sr (.u (.fieldAddr rfl fo_54_3) (.q (.loadAs (vs := ptC y) rfl ag_43 (by repeat' constructor) (by simp [ptC]) rfl) rfl (.oq (.allocA ze_43) ?_))))
 rintro v L' ⟨bx, rfl, rfl⟩
 refine .oq (.storeA rfl rfl ?c11 sz_43 ?c14 ?c12 (nfz0 _ _)) ?_
 case c11 => exact hx.own.all
 case c14 => rfl
 case c12 => simp [ptC]
 rintro v L' rfl
 refine .nil (.ptCast (b := bx) (l' := ptC y) (by repeat' constructor) rfl (.then_n (.seq (.sr (.u (.fieldAddr rfl fo_43_0) (.u (.ld rfl ag_3) (.nt (.block (.seq (.sr (.ui rfl rfl rfl (.an rfl (.dec (t := 15) rfl (fun h15 => ?_) (fun h15 => ?_))))))))))))))
 ·refine .condT rfl (.sk (.condT rfl (.sm rfl (.q (.loadAs (vs := ptC y) rfl ag_43 (by repeat' constructor) (by simp [ptC]) rfl) rfl (.cv Tryz.func70 [_, _] (rfinds_spec u τ y hpl N ho (by omega)) ?_)))))
  refine .an rfl (.ret (.blk_r (.then_r ?_)))
  have hz : soundZ τ zx y subs = findsZ τ y := by unfold soundZ; rw [if_pos (by omega)]
  exact .dn rfl rfl ⟨by rw [hz], rfl⟩
 refine .condF rfl (.sr (.ui rfl rfl rfl (.an rfl (.dec (t := 15) rfl (fun h15 => ?_) (fun h15 => ?_)))))
 ·refine .condT rfl (.sk (.condT rfl (.sm rfl (.q (.loadAs (vs := ptC y) rfl ag_43 (by repeat' constructor) (by simp [ptC]) rfl) rfl (.cv Tryz.func70 [_, _] (rfinds_spec u τ y hpl N ho (by omega)) ?_)))))
  refine .an rfl (.ret (.blk_r (.then_r ?_)))
  have hz : soundZ τ zx y subs = findsZ τ y := by unfold soundZ; rw [if_pos (by omega)]
  exact .dn rfl rfl ⟨by rw [hz], rfl⟩
 refine .condF rfl (.sr (.ui rfl rfl rfl (.an rfl (.dec (t := 15) rfl (fun h15 => ?_) (fun h15 => ?_)))))
 ·refine .condT rfl (.sk (.condT rfl (.sm rfl (.q (.loadAs (vs := ptC y) rfl ag_43 (by repeat' constructor) (by simp [ptC]) rfl) rfl (.cv Tryz.func70 [_, _] (rfinds_spec u τ y hpl N ho (by omega)) ?_)))))
  refine .an rfl (.ret (.blk_r (.then_r ?_)))
  have hz : soundZ τ zx y subs = findsZ τ y := by unfold soundZ; rw [if_pos (by omega)]
  exact .dn rfl rfl ⟨by rw [hz], rfl⟩
 refine .condF rfl (.region (.ui rfl rfl rfl (.an rfl (.dec (t := 15) rfl (fun h15 => ?_) (fun h15 => ?_)))))
 ·refine .condT rfl (.sm rfl (.q (.loadAs (vs := ptC y) rfl ag_43 (by repeat' constructor) (by simp [ptC]) rfl) rfl (.cv Tryz.func70 [_, _] (rfinds_spec u τ y hpl N ho (by omega)) ?_)))
  refine .an rfl (.ret (.blk_r (.then_r ?_)))
  have hz : soundZ τ zx y subs = findsZ τ y := by unfold soundZ; rw [if_pos (by omega)]
  exact .dn rfl rfl ⟨by rw [hz], rfl⟩
 refine .condF rfl (.seq (.sr (.ui rfl rfl rfl (.an rfl (.dec (t := 23) rfl (fun h23 => ?_) (fun h23 => ?_))))))
 ·refine .condT rfl (.sk (.condT rfl (.sr (.an rfl (.block ?_)))))
  have hsz : soundZ τ zx y subs = soundL τ zx (decide (y.kind = 6)) subs := by unfold soundZ; rw [if_neg (by omega), if_pos (by omega)]
  refine .rfCast (x := u) (τ' := (partsZ τ zx (subs.take 0)).1) (by repeat' constructor) (by rw [List.take_zero]; rfl) (.loopK (ι := Nat) (fun q E => (7, vint q) :: E) (fun q => [refR u (partsZ τ zx (subs.take q)).1]) (fun q => q ≤ subs.length ∧ soundL τ zx (decide (y.kind = 6)) subs = soundL (partsZ τ zx (subs.take q)).1 zx (decide (y.kind = 6)) (subs.drop q)) (fun q => subs.length - q) (0) (ts := [3, 5, 6]) (.cons rfl (.cons rfl (.cons rfl (.nil)))) (⟨Nat.zero_le _, by rw [List.take_zero]; rfl⟩) ⟨rfl, rfl, rfl, rfl, trivial⟩ (by repeat' constructor) ?_)
  rintro i ⟨hi, hsnd⟩
  have hok : (partsZ τ zx (subs.take i)).1.Ok (N + subs.length) := (ho.parts zx _ (fun w hw => (hx.each w (List.mem_of_mem_take hw)).few)).more (by rw [List.length_take]; omega)
  refine .seq (.sm rfl (.u (.fieldAddr rfl fo_43_7) (.q (.as (v' := .slice asb subs.length csb) (by exact esub) (.ld rfl ag_41)) rfl (.q (.slen rfl Tryz.underlying41 rfl) rfl (.ui rfl rfl rfl (.nt (.condD rfl (fun h30 => ?_) (fun h30 => ?_))))))))
  ·have hi2 : i < subs.length := by omega
   refine .rdShape (p := p) hrd (by repeat' constructor) (by omega) fun bs os e1 => ?_
   subst e1
   have hys := hx.each _ (List.getElem_mem hi2)
   refine .sk (.seq (.block (.sm rfl (.u (.fieldAddr rfl fo_43_7) (.q (.as (v' := .slice (some ⟨bs, os, none⟩) subs.length csb) (by exact esub) (.ld rfl ag_41)) rfl (.m rfl (.q (.indexAddr rfl rfl el_41 (by omega)) rfl (.q (.loadRdA (sz := 8) (j := i * 8) (k := 8) (p := p) (vs := ptC subs[i]) rfl ag_43 (by repeat' constructor) hrd (by simp) (by omega) (by omega) (flatMap_at (f := ptC) (sz := 8) (fun _ _ => rfl) (by omega))) rfl (.cv Tryz.func70 [_, _] (rfinds_spec u (partsZ τ zx (subs.take i)).1 subs[i] hys.plen (N + subs.length) hok (by omega)) ?_)))))))))
   refine .an rfl (.seq (.sm rfl (.u (.not rfl) (.m rfl (.bool (t := 42) rfl (fun h15_42 => ?_) (fun h15_42 => ?_))))))
   ·refine .kB (t := 41) rfl h15_42 (.gk (.gk (.gk (.gk (.gskipU (t := 46) rfl rfl rfl (.gskipU (t := 46) rfl rfl rfl (.gskipU (t := 46) rfl rfl rfl (.gskipU (t := 46) rfl rfl rfl (.gskipU (t := 46) rfl rfl rfl (.gskipU (t := 46) rfl rfl rfl (.gskipU (t := 46) rfl rfl rfl (.gk (.u (.pickT rfl rfl) (.nt (.condT rfl (.sr (.an rfl (.rt (.blk_r (.then_r (.then_r (.blk_r (.blk_r (.then_r ?_))))))))))))))))))))))))
    have hz : soundZ τ zx y subs = false := by rw [hsz, hsnd, sound_step hi2]; simp only [Bool.not_eq_true'] at h15_42; rw [h15_42]; rfl
    exact .dn rfl rfl ⟨by rw [hz], rfl⟩
   refine .kB (t := 41) rfl h15_42 (.grun (t := 42) rfl rfl rfl (.u (.fieldAddr rfl fo_43_0) (.grun (t := 42) rfl rfl rfl (.u (.ld rfl ag_3) (.grun (t := 42) rfl rfl rfl (.ui rfl rfl rfl (.grun (t := 42) rfl rfl rfl (.m rfl (.dec (t := 46) rfl (fun h15_46 => ?_) (fun h15_46 => ?_))))))))))
   ·refine .kDT (t := 45) rfl h15_46 (.grun (t := 46) rfl rfl rfl (.u (.fieldAddr rfl fo_43_7) (.grun (t := 46) rfl rfl rfl (.q (.as (v' := .slice (some ⟨bs, os, none⟩) subs.length csb) (by exact esub) (.ld rfl ag_41)) rfl (.grun (t := 46) rfl rfl rfl (.m rfl (.grun (t := 46) rfl rfl rfl (.q (.indexAddr rfl rfl el_41 (by omega)) rfl (.grun (t := 46) rfl rfl rfl (.u (.fieldAddr rfl fo_43_0) (.grun (t := 46) rfl rfl rfl (.q (.loadRd (sz := 8) (j := i * 8 + 0) (p := p) rfl ag_3 (by repeat' constructor) hrd (by omega) ((flatMap_cell (f := ptC) (sz := 8) (l := subs) (i := i) (k := 0) (fun _ _ => rfl) (by omega) (by decide)).trans rfl)) rfl (.grun (t := 46) rfl rfl rfl (.ui rfl rfl rfl (.grun (t := 42) rfl rfl rfl (.u (.pickT rfl rfl) (.u (.pickF rfl rfl) (.nt (.condN rfl (fun h55 => ?_) (fun h55 => ?_))))))))))))))))))))
    ·refine .sr (.an rfl (.rt (.blk_r (.then_r (.then_r (.blk_r (.blk_r (.then_r ?_))))))))
     have hz : soundZ τ zx y subs = false := by rw [hsz, hsnd, sound_step hi2]; rw [decide_eq_true h15_46, decide_eq_false h55]; simp
     exact .dn rfl rfl ⟨by rw [hz], rfl⟩
    refine .sk (.draw [8] [[0, 1, 2, 3, 4, 5, 6, 7, 8]] mixed (by kernel_rfl) (.g0 (.mv rfl rfl (.kv rfl (.fieldAddr rfl fo_43_7) (.kv rfl (.as (v' := .slice (some ⟨bs, os, none⟩) subs.length csb) (by exact esub) (.ld rfl ag_41)) (.mv rfl rfl (.kv rfl (.indexAddr rfl rfl el_41 (by omega)) (.kv rfl (.loadRdA (sz := 8) (j := i * 8) (k := 8) (p := p) (vs := ptC subs[i]) rfl ag_43 (by repeat' constructor) hrd (by simp) (by omega) (by omega) (flatMap_at (f := ptC) (sz := 8) (fun _ _ => rfl) (by omega))) (.kv rfl (.fieldAddr rfl fo_54_0) (.kv rfl (.ld rfl ag_3) (.hh rfl (.c Tryz.func71 [_, _, _] (rpart_spec u (partsZ τ zx (subs.take i)).1 subs[i] zx p hys (N + subs.length) hok (by omega))) ?_)))))))))))
    rintro v L' ⟨a15, c15, rfl, rfl⟩
    refine D.ph (.fin (.blk_n (.then_n (.region (.m rfl (.q (.add rfl rfl (by omega)) rfl (.an rfl ?_)))))))
    have htru : (findsZ (partsZ τ zx (subs.take i)).1 subs[i] && (!(decide (y.kind = 6)) || decide (subs[i].kind = 2))) = true := by have h1 : findsZ (partsZ τ zx (subs.take i)).1 subs[i] = true := (by simpa using h15_42); rw [h1, decide_eq_true (p := subs[i].kind = 2) h55]; simp
    refine .rfCast (x := u) (τ' := (partsZ τ zx (subs.take (i + 1))).1) (by repeat' constructor) (by rw [List.take_succ_eq_append_getElem hi2, parts_snoc]) ?_
    exact .rk (i + 1) (⟨by omega, by rw [hsnd, sound_step hi2, htru, Bool.true_and]⟩) (by omega) ⟨rfl, rfl, rfl, rfl, trivial⟩
   refine .kDF (t := 45) rfl h15_46 (.gk (.gk (.gk (.gk (.gk (.gk (.gk (.grun (t := 42) rfl rfl rfl (.u (.pickF rfl rfl) (.u (.pickF rfl rfl) (.nt (.condF rfl (.sk (.draw [8] [[0, 1, 2, 3, 4, 5, 6, 7, 8]] mixed (by kernel_rfl) (.g0 (.mv rfl rfl (.kv rfl (.fieldAddr rfl fo_43_7) (.kv rfl (.as (v' := .slice (some ⟨bs, os, none⟩) subs.length csb) (by exact esub) (.ld rfl ag_41)) (.mv rfl rfl (.kv rfl (.indexAddr rfl rfl el_41 (by omega)) (.kv rfl (.loadRdA (sz := 8) (j := i * 8) (k := 8) (p := p) (vs := ptC subs[i]) rfl ag_43 (by repeat' constructor) hrd (by simp) (by omega) (by omega) (flatMap_at (f := ptC) (sz := 8) (fun _ _ => rfl) (by omega))) (.kv rfl (.fieldAddr rfl fo_54_0) (.kv rfl (.ld rfl ag_3) (.hh rfl (.c Tryz.func71 [_, _, _] (rpart_spec u (partsZ τ zx (subs.take i)).1 subs[i] zx p hys (N + subs.length) hok (by omega))) ?_))))))))))))))))))))))))
   rintro v L' ⟨a15, c15, rfl, rfl⟩
   refine D.ph (.fin (.blk_n (.then_n (.region (.m rfl (.q (.add rfl rfl (by omega)) rfl (.an rfl ?_)))))))
   have htru : (findsZ (partsZ τ zx (subs.take i)).1 subs[i] && (!(decide (y.kind = 6)) || decide (subs[i].kind = 2))) = true := by have h1 : findsZ (partsZ τ zx (subs.take i)).1 subs[i] = true := (by simpa using h15_42); rw [h1, decide_eq_false h15_46]; simp
   refine .rfCast (x := u) (τ' := (partsZ τ zx (subs.take (i + 1))).1) (by repeat' constructor) (by rw [List.take_succ_eq_append_getElem hi2, parts_snoc]) ?_
   exact .rk (i + 1) (⟨by omega, by rw [hsnd, sound_step hi2, htru, Bool.true_and]⟩) (by omega) ⟨rfl, rfl, rfl, rfl, trivial⟩
  have hii : i = subs.length := by omega
  refine .exit (.then_e (.then_e (.blk_e (.blk_n (.then_n (.sr (.an rfl (.ret ?_))))))))
  have hz : soundZ τ zx y subs = true := by rw [hsz, hsnd, hii, List.drop_length]; rfl
  exact .dn rfl rfl ⟨by rw [hz], rfl⟩
 refine .condF rfl (.region (.ui rfl rfl rfl (.an rfl (.dec (t := 23) rfl (fun h23 => ?_) (fun h23 => ?_)))))
 ·refine .condT rfl (.sr (.an rfl (.block ?_)))
  have hsz : soundZ τ zx y subs = soundL τ zx (decide (y.kind = 6)) subs := by unfold soundZ; rw [if_neg (by omega), if_pos (by omega)]
  refine .rfCast (x := u) (τ' := (partsZ τ zx (subs.take 0)).1) (by repeat' constructor) (by rw [List.take_zero]; rfl) (.loopK (ι := Nat) (fun q E => (7, vint q) :: E) (fun q => [refR u (partsZ τ zx (subs.take q)).1]) (fun q => q ≤ subs.length ∧ soundL τ zx (decide (y.kind = 6)) subs = soundL (partsZ τ zx (subs.take q)).1 zx (decide (y.kind = 6)) (subs.drop q)) (fun q => subs.length - q) (0) (ts := [3, 5, 6]) (.cons rfl (.cons rfl (.cons rfl (.nil)))) (⟨Nat.zero_le _, by rw [List.take_zero]; rfl⟩) ⟨rfl, rfl, rfl, rfl, trivial⟩ (by repeat' constructor) ?_)
  rintro i ⟨hi, hsnd⟩
  have hok : (partsZ τ zx (subs.take i)).1.Ok (N + subs.length) := (ho.parts zx _ (fun w hw => (hx.each w (List.mem_of_mem_take hw)).few)).more (by rw [List.length_take]; omega)
  refine .seq (.sm rfl (.u (.fieldAddr rfl fo_43_7) (.q (.as (v' := .slice asb subs.length csb) (by exact esub) (.ld rfl ag_41)) rfl (.q (.slen rfl Tryz.underlying41 rfl) rfl (.ui rfl rfl rfl (.nt (.condD rfl (fun h30 => ?_) (fun h30 => ?_))))))))
  ·have hi2 : i < subs.length := by omega
   refine .rdShape (p := p) hrd (by repeat' constructor) (by omega) fun bs os e1 => ?_
   subst e1
   have hys := hx.each _ (List.getElem_mem hi2)
   refine .sk (.seq (.block (.sm rfl (.u (.fieldAddr rfl fo_43_7) (.q (.as (v' := .slice (some ⟨bs, os, none⟩) subs.length csb) (by exact esub) (.ld rfl ag_41)) rfl (.m rfl (.q (.indexAddr rfl rfl el_41 (by omega)) rfl (.q (.loadRdA (sz := 8) (j := i * 8) (k := 8) (p := p) (vs := ptC subs[i]) rfl ag_43 (by repeat' constructor) hrd (by simp) (by omega) (by omega) (flatMap_at (f := ptC) (sz := 8) (fun _ _ => rfl) (by omega))) rfl (.cv Tryz.func70 [_, _] (rfinds_spec u (partsZ τ zx (subs.take i)).1 subs[i] hys.plen (N + subs.length) hok (by omega)) ?_)))))))))
   refine .an rfl (.seq (.sm rfl (.u (.not rfl) (.m rfl (.bool (t := 42) rfl (fun h15_42 => ?_) (fun h15_42 => ?_))))))
   ·refine .kB (t := 41) rfl h15_42 (.gk (.gk (.gk (.gk (.gskipU (t := 46) rfl rfl rfl (.gskipU (t := 46) rfl rfl rfl (.gskipU (t := 46) rfl rfl rfl (.gskipU (t := 46) rfl rfl rfl (.gskipU (t := 46) rfl rfl rfl (.gskipU (t := 46) rfl rfl rfl (.gskipU (t := 46) rfl rfl rfl (.gk (.u (.pickT rfl rfl) (.nt (.condT rfl (.sr (.an rfl (.rt (.blk_r (.then_r (.then_r (.blk_r (.blk_r (.then_r ?_))))))))))))))))))))))))
    have hz : soundZ τ zx y subs = false := by rw [hsz, hsnd, sound_step hi2]; simp only [Bool.not_eq_true'] at h15_42; rw [h15_42]; rfl
    exact .dn rfl rfl ⟨by rw [hz], rfl⟩
   refine .kB (t := 41) rfl h15_42 (.grun (t := 42) rfl rfl rfl (.u (.fieldAddr rfl fo_43_0) (.grun (t := 42) rfl rfl rfl (.u (.ld rfl ag_3) (.grun (t := 42) rfl rfl rfl (.ui rfl rfl rfl (.grun (t := 42) rfl rfl rfl (.m rfl (.dec (t := 46) rfl (fun h15_46 => ?_) (fun h15_46 => ?_))))))))))
   ·refine .kDT (t := 45) rfl h15_46 (.grun (t := 46) rfl rfl rfl (.u (.fieldAddr rfl fo_43_7) (.grun (t := 46) rfl rfl rfl (.q (.as (v' := .slice (some ⟨bs, os, none⟩) subs.length csb) (by exact esub) (.ld rfl ag_41)) rfl (.grun (t := 46) rfl rfl rfl (.m rfl (.grun (t := 46) rfl rfl rfl (.q (.indexAddr rfl rfl el_41 (by omega)) rfl (.grun (t := 46) rfl rfl rfl (.u (.fieldAddr rfl fo_43_0) (.grun (t := 46) rfl rfl rfl (.q (.loadRd (sz := 8) (j := i * 8 + 0) (p := p) rfl ag_3 (by repeat' constructor) hrd (by omega) ((flatMap_cell (f := ptC) (sz := 8) (l := subs) (i := i) (k := 0) (fun _ _ => rfl) (by omega) (by decide)).trans rfl)) rfl (.grun (t := 46) rfl rfl rfl (.ui rfl rfl rfl (.grun (t := 42) rfl rfl rfl (.u (.pickT rfl rfl) (.u (.pickF rfl rfl) (.nt (.condN rfl (fun h55 => ?_) (fun h55 => ?_))))))))))))))))))))
    ·refine .sr (.an rfl (.rt (.blk_r (.then_r (.then_r (.blk_r (.blk_r (.then_r ?_))))))))
     have hz : soundZ τ zx y subs = false := by rw [hsz, hsnd, sound_step hi2]; rw [decide_eq_true h15_46, decide_eq_false h55]; simp
     exact .dn rfl rfl ⟨by rw [hz], rfl⟩
    refine .sk (.draw [8] [[0, 1, 2, 3, 4, 5, 6, 7, 8]] mixed (by kernel_rfl) (.g0 (.mv rfl rfl (.kv rfl (.fieldAddr rfl fo_43_7) (.kv rfl (.as (v' := .slice (some ⟨bs, os, none⟩) subs.length csb) (by exact esub) (.ld rfl ag_41)) (.mv rfl rfl (.kv rfl (.indexAddr rfl rfl el_41 (by omega)) (.kv rfl (.loadRdA (sz := 8) (j := i * 8) (k := 8) (p := p) (vs := ptC subs[i]) rfl ag_43 (by repeat' constructor) hrd (by simp) (by omega) (by omega) (flatMap_at (f := ptC) (sz := 8) (fun _ _ => rfl) (by omega))) (.kv rfl (.fieldAddr rfl fo_54_0) (.kv rfl (.ld rfl ag_3) (.hh rfl (.c Tryz.func71 [_, _, _] (rpart_spec u (partsZ τ zx (subs.take i)).1 subs[i] zx p hys (N + subs.length) hok (by omega))) ?_)))))))))))
    rintro v L' ⟨a15, c15, rfl, rfl⟩
    refine D.ph (.fin (.blk_n (.then_n (.region (.m rfl (.q (.add rfl rfl (by omega)) rfl (.an rfl ?_)))))))
    have htru : (findsZ (partsZ τ zx (subs.take i)).1 subs[i] && (!(decide (y.kind = 6)) || decide (subs[i].kind = 2))) = true := by have h1 : findsZ (partsZ τ zx (subs.take i)).1 subs[i] = true := (by simpa using h15_42); rw [h1, decide_eq_true (p := subs[i].kind = 2) h55]; simp
    refine .rfCast (x := u) (τ' := (partsZ τ zx (subs.take (i + 1))).1) (by repeat' constructor) (by rw [List.take_succ_eq_append_getElem hi2, parts_snoc]) ?_
    exact .rk (i + 1) (⟨by omega, by rw [hsnd, sound_step hi2, htru, Bool.true_and]⟩) (by omega) ⟨rfl, rfl, rfl, rfl, trivial⟩
   refine .kDF (t := 45) rfl h15_46 (.gk (.gk (.gk (.gk (.gk (.gk (.gk (.grun (t := 42) rfl rfl rfl (.u (.pickF rfl rfl) (.u (.pickF rfl rfl) (.nt (.condF rfl (.sk (.draw [8] [[0, 1, 2, 3, 4, 5, 6, 7, 8]] mixed (by kernel_rfl) (.g0 (.mv rfl rfl (.kv rfl (.fieldAddr rfl fo_43_7) (.kv rfl (.as (v' := .slice (some ⟨bs, os, none⟩) subs.length csb) (by exact esub) (.ld rfl ag_41)) (.mv rfl rfl (.kv rfl (.indexAddr rfl rfl el_41 (by omega)) (.kv rfl (.loadRdA (sz := 8) (j := i * 8) (k := 8) (p := p) (vs := ptC subs[i]) rfl ag_43 (by repeat' constructor) hrd (by simp) (by omega) (by omega) (flatMap_at (f := ptC) (sz := 8) (fun _ _ => rfl) (by omega))) (.kv rfl (.fieldAddr rfl fo_54_0) (.kv rfl (.ld rfl ag_3) (.hh rfl (.c Tryz.func71 [_, _, _] (rpart_spec u (partsZ τ zx (subs.take i)).1 subs[i] zx p hys (N + subs.length) hok (by omega))) ?_))))))))))))))))))))))))
   rintro v L' ⟨a15, c15, rfl, rfl⟩
   refine D.ph (.fin (.blk_n (.then_n (.region (.m rfl (.q (.add rfl rfl (by omega)) rfl (.an rfl ?_)))))))
   have htru : (findsZ (partsZ τ zx (subs.take i)).1 subs[i] && (!(decide (y.kind = 6)) || decide (subs[i].kind = 2))) = true := by have h1 : findsZ (partsZ τ zx (subs.take i)).1 subs[i] = true := (by simpa using h15_42); rw [h1, decide_eq_false h15_46]; simp
   refine .rfCast (x := u) (τ' := (partsZ τ zx (subs.take (i + 1))).1) (by repeat' constructor) (by rw [List.take_succ_eq_append_getElem hi2, parts_snoc]) ?_
   exact .rk (i + 1) (⟨by omega, by rw [hsnd, sound_step hi2, htru, Bool.true_and]⟩) (by omega) ⟨rfl, rfl, rfl, rfl, trivial⟩
  have hii : i = subs.length := by omega
  refine .exit (.then_e (.then_e (.blk_e (.blk_n (.then_n (.sr (.an rfl (.ret ?_))))))))
  have hz : soundZ τ zx y subs = true := by rw [hsz, hsnd, hii, List.drop_length]; rfl
  exact .dn rfl rfl ⟨by rw [hz], rfl⟩
 refine .condF rfl (.skip (.blk_n (.then_n (.sr (.an rfl (.ret ?_))))))
 have hz : soundZ τ zx y subs = true := by unfold soundZ; rw [if_neg (by omega), if_neg (by omega)]
 exact .dn rfl rfl ⟨by rw [hz], rfl⟩
theorem checked12_spec (e : En) (p : HP) (hr : ∀ h : Hp, p h → rdS 8 h e.x.subsV e.subs.length (e.subs.flatMap ptC)) (hn : e.subs.length ≤ 1048576) (hc1 : isCell e.x.aclV = true) (hcs : ∀ z ∈ e.subs, isCell z.aclV = true ∧ isCell z.subsV = true) : Fn Tryz.prog 30 #[.agg (enC e).toArray] [p] fun v L => ∃ a c, v = .agg (enC (⟨e.zx, e.ses, e.xid, e.x.ws (.slice a (e.subs.filter realP).length c), (e.subs.filter realP)⟩ : En)).toArray ∧ L = [p, slR 43 8 (.slice a (e.subs.filter realP).length c) (e.subs.filter realP).length ((e.subs.filter realP).flatMap ptC)] := by
 refine Fn.intro Tryz.func30 rfl rfl fun F W => ?_
 refine .rdAny (p := p) hr (by repeat' constructor) fun a0 cs hsv _ => ?_
 have hr2 : ∀ h : Hp, p h → rdS 8 h (.slice a0 e.subs.length cs) e.subs.length (e.subs.flatMap ptC) := fun h hp => hsv ▸ hr h hp
 have hcv : isCell e.x.subsV = true := by rw [hsv]; rfl
 refine .sr (.oq (.box rfl) ?_)
 rintro v L' ⟨b1, rfl, rfl⟩
 refine .oq (.allocA ze_54) ?_
 rintro v L' ⟨b2, rfl, rfl⟩
 refine .nil (.ptCast (b := b1) (l' := enC e) (by repeat' constructor) (by exact rfl) (.add (slR_nil 43 8) (.then_n (.sr (.an rfl (.seq (.sr (.an rfl (.block (.loopK (ι := Nat × Value) (fun q E => (4, vint q.1) :: (3, q.2) :: E) (fun q => [slR 43 8 q.2 ((e.subs.take q.1).filter realP).length (((e.subs.take q.1).filter realP).flatMap ptC)]) (fun q => q.1 ≤ e.subs.length ∧ ∃ a c, q.2 = .slice a ((e.subs.take q.1).filter realP).length c) (fun q => e.subs.length - q.1) (0, nilV) (ts := [1, 2]) (.cons rfl (.cons rfl (.nil))) (⟨Nat.zero_le _, none, 0, rfl⟩) ⟨rfl, rfl, rfl, rfl, trivial⟩ (by repeat' constructor) ?_))))))))))
 rintro ⟨i, w⟩ ⟨hi, aw, cw, hu⟩
 dsimp only
 dsimp only at hi hu
 subst hu
 refine .seq (.sm rfl (.u (.fieldAddr rfl fo_54_3) (.u (.fieldAddr rfl fo_43_7) (.q (.to (v' := .slice _ e.subs.length cs) (.load rfl ag_41 (by repeat' constructor) (by rfl)) hsv) rfl (.q (.slen rfl Tryz.underlying41 rfl) rfl (.ui rfl rfl rfl (.nt (.condD rfl (fun h10 => ?_) (fun h10 => ?_)))))))))
 ·have hi2 : i < e.subs.length := by omega
  refine .rdShape (p := p) hr2 (by repeat' constructor) (by omega) fun ba oa ee => ?_
  subst ee
  have htk : e.subs.take (i + 1) = e.subs.take i ++ [e.subs[i]] := List.take_succ_eq_append_getElem hi2
  refine .sk (.seq (.block (.sr (.u (.fieldAddr rfl fo_54_3) (.u (.fieldAddr rfl fo_43_7) (.q (.to (v' := .slice _ e.subs.length cs) (.load rfl ag_41 (by repeat' constructor) (by rfl)) hsv) rfl (.m rfl (.q (.indexAddr rfl rfl el_41 (by omega)) rfl (.u (.fieldAddr rfl fo_43_0) (.q (.loadRd (sz := 8) (j := i * 8 + 0) (p := p) (v := vint e.subs[i].kind) rfl ag_3 (by repeat' constructor) hr2 (by omega) ((flatMap_cell (f := ptC) (sz := 8) (l := e.subs) (i := i) (k := 0) (fun _ _ => rfl) (by omega) (by decide)).trans rfl)) rfl (.ui rfl rfl rfl (.nt (.condN rfl (fun h20 => ?_) (fun h20 => ?_))))))))))))))
  ·have hst : ((e.subs.take (i + 1)).filter realP) = ((e.subs.take i).filter realP) ++ [e.subs[i]] := by rw [htk, List.filter_append, List.filter_cons, if_pos (by simp only [realP, Bool.not_eq_true', decide_eq_false_iff_not]; exact h20)]; rfl
   refine .region (.m rfl (.u (.fieldAddr rfl fo_54_3) (.u (.fieldAddr rfl fo_43_7) (.q (.to (v' := .slice _ e.subs.length cs) (.load rfl ag_41 (by repeat' constructor) (by rfl)) hsv) rfl (.m rfl (.q (.indexAddr rfl rfl el_41 (by omega)) rfl (.q (.loadRdA (sz := 8) (j := i * 8) (k := 8) (p := p) (vs := ptC e.subs[i]) rfl ag_43 (by repeat' constructor) hr2 (by simp) (by omega) (by omega) (flatMap_at (f := ptC) (sz := 8) (fun _ _ => rfl) (by omega))) rfl (.oq (.buildSlice (vs := [_]) el_41 ze_43 rfl rfl rfl rfl (by first | (simp [Value.cells]; done) | (intro v hv; simp only [List.mem_cons, List.not_mem_nil, or_false] at hv; (repeat (first | (subst hv; rfl) | (rcases hv with hv | hv; (subst hv; rfl)))))) (by decide)) ?_))))))))
   rintro v L' ⟨bx, rfl, rfl⟩
   refine .oq (.append1 rfl rfl rfl el_41 ze_43 rfl rfl ?c30 ?c31 (Nat.le_refl _) ?c32 (by decide)) ?_
   case c30 => simp only [List.map_cons, List.map_nil, List.flatten_cons, List.flatten_nil, List.append_nil]; simp only [Value.cells]; intro z hz; exact pt_cells (y := e.subs[i]) (hcs _ (List.getElem_mem hi2)).1 (hcs _ (List.getElem_mem hi2)).2 z (by simpa using hz)
   case c31 => rfl
   case c32 => have := List.length_filter_le realP (e.subs.take i); rw [List.length_take] at this; omega
   rintro v L' ⟨⟨a6, c6, rfl⟩, rfl⟩
   refine .a rfl (.nil (.blk_n (.then_n (.region (.m rfl (.q (.add rfl rfl (by omega)) rfl (.an rfl (.slCast (T := 43) (sz := 8) (m' := ((e.subs.take (i + 1)).filter realP).length) (xs' := ((e.subs.take (i + 1)).filter realP).flatMap ptC) (by repeat' constructor) (by rw [hst, List.length_append]; rfl) (by rw [hst, List.flatMap_append]; simp [Value.cells]) ?_))))))))
   exact .rk ((i + 1, .slice a6 (((e.subs.take i).filter realP).length + 1) c6)) (⟨by dsimp only; omega, a6, c6, by dsimp only; rw [hst, List.length_append]; rfl⟩) (by dsimp only; omega) ⟨rfl, rfl, rfl, rfl, trivial⟩
  have hst : ((e.subs.take (i + 1)).filter realP) = ((e.subs.take i).filter realP) := by rw [htk, List.filter_append, List.filter_cons, if_neg (by simp only [realP, Bool.not_eq_true', decide_eq_false_iff_not]; exact fun g => g h20)]; exact List.append_nil _
  refine .skip (.blk_n (.then_n (.region (.m rfl (.q (.add rfl rfl (by omega)) rfl (.an rfl ?_))))))
  rw [← hst]
  exact .rk ((i + 1, .slice aw ((e.subs.take (i + 1)).filter realP).length cw)) (⟨by dsimp only; omega, aw, cw, rfl⟩) (by dsimp only; omega) ⟨rfl, rfl, rfl, rfl, trivial⟩
 have hie : i = e.subs.length := by omega
 have hfl : ((e.subs.take i).filter realP) = (e.subs.filter realP) := by rw [hie, List.take_length]
 rw [hfl]
 refine .exit (.then_e (.then_e (.blk_e (.then_n (.sm rfl (.u (.fieldAddr rfl fo_54_3) (.u (.fieldAddr rfl fo_43_7) (.oq (.store rfl rfl rfl sz_41 ?c42 (nfz0 _ _)) ?_))))))))
 case c42 => simp [enC, ptC]
 rintro v L' rfl
 refine .nil (.ptCast (b := b1) (l' := enC (⟨e.zx, e.ses, e.xid, e.x.ws (.slice aw (e.subs.filter realP).length cw), (e.subs.filter realP)⟩ : En)) (by repeat' constructor) (by exact rfl) (.then_n (.sr (.q (.to (v' := .agg (enC (⟨e.zx, e.ses, e.xid, e.x.ws (.slice aw (e.subs.filter realP).length cw), (e.subs.filter realP)⟩ : En)).toArray) (.loadA rfl ag_54 (by repeat' constructor) (by simp [enC, ptC])) (by rfl)) rfl (.oq (.storeA rfl rfl ?c46 sz_54 ?c49 ?c47 (nfz0 _ _)) ?_)))))
 case c46 => exact en_cells (y := e.x.ws (.slice aw (e.subs.filter realP).length cw)) (l := (e.subs.filter realP)) hc1 rfl
 case c49 => rfl
 case c47 => simp [enC, ptC]
 rintro v L' rfl
 refine .nil (.ptCast (b := b2) (l' := enC (⟨e.zx, e.ses, e.xid, e.x.ws (.slice aw (e.subs.filter realP).length cw), (e.subs.filter realP)⟩ : En)) (by repeat' constructor) (by exact rfl) (.then_n (.ret ?_)))
 exact .d1 rfl (.cellA rfl ag_54 (by repeat' constructor) (by simp [spl, setAll, enC, ptC]) rfl) ⟨aw, cw, rfl, rfl⟩
theorem strs_at12 {l : List Bs} {k : Nat} (hk : k < l.length) : (strs l)[k * 1]? = some (vstr l[k]) := by
 rw [Nat.mul_one]
 show (l.map vstr)[k]? = _
 rw [List.getElem?_map, List.getElem?_eq_getElem hk]; rfl
theorem en_L12 {N : Nat} {y : Pt} {ys : List Pt} (hG : TxnG N y ys) (hN : N ≤ 1048576) {z s i : Int} (hz : I64 z) (hs : I64 s) (hi : I64 i) (hl : (enB ⟨z, s, i, y, ys⟩).length ≤ 1073741824) (hc : isCell y.aclV = true ∧ ∃ a c, y.subsV = .slice a ys.length c) (hcs : ∀ z ∈ ys, isCell z.aclV = true ∧ z.subsV = nilV) : EnL (entR ⟨z, s, i, y, ys⟩) ⟨z, s, i, y, ys⟩ := by
 have hu : U64 = 18446744073709551616 := rfl
 have hn := hG.few hN
 obtain ⟨h1, a, c, h2⟩ := hc
 refine ⟨⟨⟨hz, hs, hi, hG.x.r.i, by show ys.length < U64; omega, fun z hz => (hG.each z hz).r.i⟩, fun _ hp => ent_acl hp, fun _ hp => ent_subs hp, fun z hz _ hp => ent_each hp hz⟩, hl, ⟨hn, hG.x.r.many, fun z hz => (hG.each z hz).r.many⟩, ⟨h1, by rw [h2]; rfl⟩, fun z hz => ⟨(hcs z hz).1, by rw [(hcs z hz).2]; rfl⟩⟩
theorem tx_checked {y : Pt} {ys : List Pt} {a p : HP} {v : Value} (h : TxA p y ys) (hv : ∃ a c, v = .slice a (ys.filter realP).length c) (hr : ∀ h : Hp, a h → rdS 8 h v (ys.filter realP).length ((ys.filter realP).flatMap ptC)) : TxA (sep [a, p]) (y.ws v) (ys.filter realP) := by
 obtain ⟨b, c, e⟩ := hv
 refine ⟨⟨rd_tail h.own.acl, h.own.few, h.own.plen, by show isCell v = true; rw [e]; rfl, h.own.cell⟩, rd_head hr, Nat.le_trans (List.length_filter_le _ _) h.few, fun w hw => ?_⟩
 have := h.each w (List.mem_filter.1 hw).1
 exact ⟨rd_tail this.acl, this.few, this.plen, this.subs, this.cell⟩
theorem WI.path {τ : Tr} (h : WI τ) {k : Nat} (hk : k < (pathsZ τ).length) : thereT τ (pathsZ τ)[k] ∧ checkZ (pathsZ τ)[k] = 0 ∧ (statD τ (pathsZ τ)[k]).len ≤ 100 ∧ ((statD τ (pathsZ τ)[k]).own ≠ 0 → (statD τ (pathsZ τ)[k]).kids = 0) ∧ ((pathsZ τ)[k]).length ≤ 60 := by
 have hm : (pathsZ τ)[k] ∈ τ.nodes.map (·.1) := List.getElem_mem hk
 generalize (pathsZ τ)[k] = p at hm
 have ht : thereT τ p := al_isSome.2 hm
 obtain ⟨n, hn⟩ := there_some.1 ht
 have hp : p = [47] ∨ ableZ p := h.ok.able _ (al_mem hn)
 have hs : statD τ p = { n.st with len := n.data.length, kids := (kidsZ τ p).length } := by
  unfold statD statZ
  rw [hn]; rfl
 rw [hs]
 refine ⟨ht, ?_, ?_, fun ho => ?_, able_len hp⟩
 ·rcases hp with rfl | hp
  ·decide
  ·exact hp.2
 ·have := h.data p n hn
  show ((n.data.length : Nat) : Int) ≤ 100
  omega
 ·have ho : n.st.own ≠ 0 := ho
  have : kidsZ τ p = [] := by
   unfold kidsZ
   rw [List.map_eq_nil_iff, List.filter_eq_nil_iff]
   rintro ⟨c, m⟩ hm
   simp only [Bool.and_eq_true, Bool.not_eq_true', decide_eq_false_iff_not, decide_eq_true_eq, not_and]
   intro hc hp2
   exact h.bare _ n hn ho c (al_isSome.2 (List.mem_map_of_mem (f := (·.1)) hm)) hc hp2
  show (((kidsZ τ p).length : Nat) : Int) = 0
  rw [this]; rfl
theorem prepSound12_spec (va : Value) (ws : List Wh) (q : HP) (hT : TabP q) (hA : WhsA q va ws) : Fn Tryz.prog 6 #[va] [q] fun v L => v = .bool true ∧ L = [q] := by
 refine Fn.intro Tryz.func6 rfl rfl fun F W => ?_
 refine .rdAny (p := q) hA.cells (by repeat' constructor) fun aa ca ee _ => ?_
 subst ee
 have hlen := hA.len
 refine .sr (.an rfl (.sr (.cv Tryz.func10 [] (awake12_spec q hT) ?_)))
 refine .an rfl (.sr (.oq (.c Tryz.func26 [] (trnew_spec)) ?_))
 rintro v L' ⟨t, rfl, rfl⟩
 refine .an rfl (.sr (.oq (.c Tryz.func27 [] (rfnew_spec)) ?_))
 rintro v L' ⟨x, rfl, rfl⟩
 refine .an rfl (.seq (.sm rfl (.u (.not rfl) (.m rfl (.grun (t := 20) rfl rfl rfl (.m rfl (.grun (t := 20) rfl rfl rfl (.q (.ptreq rfl rfl Tryz.underlying30) rfl (.u (.pickF rfl rfl) (.nt (.condF rfl (.sk (.seq (.sr (.an rfl (.block (.loopK (ι := Nat × Tr) (fun q E => (6, vint q.1) :: E) (fun q => [treeR t q.2, refR x q.2]) (fun q => q.1 ≤ 150 ∧ q.1 ≤ ws.length ∧ WI q.2 ∧ TrW q.2) (fun q => ws.length - q.1) (0, newT) (ts := [0, 4, 5]) (.cons rfl (.cons rfl (.cons rfl (.nil)))) (⟨Nat.zero_le _, Nat.zero_le _, WI.new, TrW.new⟩) ⟨rfl, rfl, rfl, rfl, trivial⟩ (by repeat' constructor) ?_)))))))))))))))))
 rintro ⟨i, τ⟩ ⟨hi1, hi2, hwi, hw⟩
 dsimp only
 dsimp only at hi1 hi2 hwi hw
 refine .seq (.sm rfl (.m rfl (.q (.slen rfl Tryz.underlying62 rfl) rfl (.ui rfl rfl rfl (.m rfl (.dec (t := 28) rfl (fun h7_28 => ?_) (fun h7_28 => ?_)))))))
 ·refine .kDT (t := 27) rfl h7_28 (.grun (t := 28) rfl rfl rfl (.m rfl (.grun (t := 28) rfl rfl rfl (.ui rfl rfl rfl (.u (.pickT rfl rfl) (.nt (.condD rfl (fun h31 => ?_) (fun h31 => ?_))))))))
  ·have hi3 : i < ws.length := by omega
   refine .rdShape (p := q) hA.cells (by repeat' constructor) (by omega) fun ba oa ee => ?_
   subst ee
   have hWi := hA.each _ (List.getElem_mem hi3)
   have hzi : I64 (1 + (i : Int)) := ⟨by omega, by omega⟩
   have hok := hwi.ok
   have hsi := sesK_i ws[i].ses
   have hxi : I64 (xidW ws[i]) := by unfold xidW; split; exact I64.zero; exact (hWi.d _ hsi).w.rq.xid
   refine .sk (.seq (.block (.sm rfl (.m rfl (.m rfl (.q (.indexAddr rfl rfl el_62 (by omega)) rfl (.q (.loadRdA (sz := 13) (j := i * 13) (k := 13) (p := q) (vs := whC ws[i]) rfl ag_67 (by repeat' constructor) hA.cells (by simp) (by omega) (by omega) (flatMap_at (f := whC) (sz := 13) (fun _ _ => rfl) (by omega))) rfl (.m rfl (.q (.add rfl rfl (by omega)) rfl (.oq (.c Tryz.func28 [_, _, _] (entry12_spec t τ ws[i] (1 + i) q hWi 64 hok (by decide) hw)) ?_))))))))))
   rintro v L' ⟨y, ys, rfl, hy, hys, ⟨hc, a1, c1, hsub⟩, hyk, rfl⟩
   refine .oq (.allocA ze_54) ?_
   rintro v L' ⟨b7, rfl, rfl⟩
   refine .oq (.storeA rfl rfl ?c28 sz_54 ?c31 ?c29 (nfz0 _ _)) ?_
   case c28 => exact en_cells (l := ys) hc (by rw [hsub]; rfl)
   case c31 => rfl
   case c29 => simp [enC, ptC]
   rintro v L' rfl
   refine .nil (.ptCast (b := b7) (l' := enC (⟨1 + i, sesK ws[i].ses, xidW ws[i], y, ys⟩ : En)) (by repeat' constructor) (by exact rfl) ?_)
   have hG : TxnG 64 y ys := (ans_G hok hWi).of hy hys
   have hTx := hG.tx (by omega) (1 + i) (sesK ws[i].ses) (xidW ws[i]) ⟨hc, a1, c1, hsub⟩ hyk
   have hS : EntS τ (1 + i) (sesK ws[i].ses) (xidW ws[i]) y ys := (ans_S hwi hWi hzi).of hy hys
   have hEL := en_L12 hG (by decide) hzi hsi hxi (by have := hS.len; omega) ⟨hc, a1, c1, hsub⟩ hyk
   have hfew := hTx.few
   have hff := List.length_filter_le realP ys
   refine .then_n (.sm rfl (.q (.to (v' := .agg (enC (⟨1 + i, sesK ws[i].ses, xidW ws[i], y, ys⟩ : En)).toArray) (.loadA rfl ag_54 (by repeat' constructor) (by simp [enC, ptC])) (by rfl)) rfl (.oq (.c Tryz.func30 [_] (checked12_spec (⟨1 + i, sesK ws[i].ses, xidW ws[i], y, ys⟩ : En) (entR (⟨1 + i, sesK ws[i].ses, xidW ws[i], y, ys⟩ : En)) (fun _ hp => ent_subs hp) hfew hc (fun z hz => ⟨(hyk z hz).1, by rw [(hyk z hz).2]; rfl⟩))) ?_)))
   rintro v L' ⟨a10, c10, rfl, rfl⟩
   refine .fold (p := (sep [slR 43 8 (.slice a10 (ys.filter realP).length c10) (ys.filter realP).length ((ys.filter realP).flatMap ptC), entR (⟨1 + i, sesK ws[i].ses, xidW ws[i], y, ys⟩ : En)])) (q := [slR 43 8 (.slice a10 (ys.filter realP).length c10) (ys.filter realP).length ((ys.filter realP).flatMap ptC), entR (⟨1 + i, sesK ws[i].ses, xidW ws[i], y, ys⟩ : En)]) (by repeat' constructor) (fun _ h => h) ?_
   have hTc := tx_checked (a := slR 43 8 (.slice a10 (ys.filter realP).length c10) (ys.filter realP).length ((ys.filter realP).flatMap ptC)) (v := .slice a10 (ys.filter realP).length c10) hTx ⟨a10, c10, rfl⟩ (fun _ => slR_rd)
   refine .oq (.c Tryz.func29 [_, _] (rsound_spec x τ (1 + i) (sesK ws[i].ses) (xidW ws[i]) (y.ws (.slice a10 (ys.filter realP).length c10)) (ys.filter realP) (sep [slR 43 8 (.slice a10 (ys.filter realP).length c10) (ys.filter realP).length ((ys.filter realP).flatMap ptC), entR (⟨1 + i, sesK ws[i].ses, xidW ws[i], y, ys⟩ : En)]) hTc 64 hok (by omega))) ?_
   rintro v L' ⟨rfl, rfl⟩; rw [show soundZ τ (1 + i) (y.ws (.slice a10 (ys.filter realP).length c10)) (ys.filter realP) = true from hS.sound]
   refine .a rfl (.nil (.focus (p := (sep [slR 43 8 (.slice a10 (ys.filter realP).length c10) (ys.filter realP).length ((ys.filter realP).flatMap ptC), entR (⟨1 + i, sesK ws[i].ses, xidW ws[i], y, ys⟩ : En)])) (by repeat' constructor) (.unfold (q := [slR 43 8 (.slice a10 (ys.filter realP).length c10) (ys.filter realP).length ((ys.filter realP).flatMap ptC), entR (⟨1 + i, sesK ws[i].ses, xidW ws[i], y, ys⟩ : En)]) (fun _ h => h) (.then_n (.seq (.sm rfl (.u (.not rfl) (.m rfl (.grun (t := 48) rfl rfl rfl (.q (.to (v' := .agg (enC (⟨1 + i, sesK ws[i].ses, xidW ws[i], y, ys⟩ : En)).toArray) (.loadA rfl ag_54 (by repeat' constructor) (by simp [enC, ptC])) (by rfl)) rfl (.grun (t := 48) rfl rfl rfl (.cv Tryz.func31 [_] (r2put_spec (⟨1 + i, sesK ws[i].ses, xidW ws[i], y, ys⟩ : En) (entR (⟨1 + i, sesK ws[i].ses, xidW ws[i], y, ys⟩ : En)) hEL) ?_))))))))))))
   refine .grun (t := 48) rfl rfl rfl (.q (.strlen rfl Tryz.underlying9 rfl) rfl (.grun (t := 48) rfl rfl rfl (.q (.as (v' := .bool false) (by exact congrArg Value.bool (decide_eq_false (by have := hS.len; omega))) (.int rfl rfl rfl)) rfl (.u (.pickF rfl rfl) (.nt (.condF rfl (.sk (.sm rfl (.oq (.c Tryz.func32 [_] (trclone_spec t τ 64 hok (by decide))) ?_)))))))))
   rintro v L' ⟨o1, rfl, rfl⟩
   refine .an rfl (.sm rfl (.q (.to (v' := .agg (enC (⟨1 + i, sesK ws[i].ses, xidW ws[i], y, ys⟩ : En)).toArray) (.loadA rfl ag_54 (by repeat' constructor) (by simp [enC, ptC])) (by rfl)) rfl (.oq (.c Tryz.func33 [_, _] (trapply_spec t τ (1 + i) (sesK ws[i].ses) (xidW ws[i]) y ys (entR (⟨1 + i, sesK ws[i].ses, xidW ws[i], y, ys⟩ : En)) hTx 64 hok (by omega))) ?_)))
   rintro v L' ⟨u14, e14, rfl, -, ⟨a14, c14, rfl⟩, rfl⟩
   refine .nt (.sm rfl (.q (.to (v' := .agg (enC (⟨1 + i, sesK ws[i].ses, xidW ws[i], y, ys⟩ : En)).toArray) (.loadA rfl ag_54 (by repeat' constructor) (by simp [enC, ptC])) (by rfl)) rfl (.oq (.c Tryz.func34 [_, _] (rapply_spec x τ (1 + i) (sesK ws[i].ses) (xidW ws[i]) y ys (entR (⟨1 + i, sesK ws[i].ses, xidW ws[i], y, ys⟩ : En)) hTx 64 hok (by omega))) ?_)))
   rintro v L' ⟨u15, e15, rfl, -, ⟨a15, c15, rfl⟩, rfl⟩
   refine .nt (.seq (.sr (.u (.fieldAddr rfl fo_54_3) (.u (.fieldAddr rfl fo_43_0) (.u (.ld rfl ag_3) (.ui rfl rfl rfl (.m rfl (.dec (t := 66) rfl (fun h16_66 => ?_) (fun h16_66 => ?_)))))))))
   ·refine .kDT (t := 65) rfl h16_66 (.gk (.gk (.gk (.gk (.u (.pickT rfl rfl) (.nt (.condT rfl (.seq ?_))))))))
    have hsm := hS.same (.inl h16_66)
    refine .region (.m rfl (.u (.fieldAddr rfl fo_54_0) (.u (.ld rfl ag_3) (.cv Tryz.func35 [_, _] (trlayzx_spec o1 τ (1 + i)) ?_))))
    refine .nt (.sm rfl (.m rfl (.oq (.c Tryz.func36 [_, _] (trsame_spec o1 t (zxT τ (1 + i)) (applyZ τ (1 + i) y ys).1 64 64 (hok.zx _) hS.wi.ok)) ?_)))
    rintro v L' ⟨rfl, rfl⟩; rw [decide_eq_true hsm.symm]
    refine .u (.not rfl) (.nt (.condF rfl (.sk (.sr (.u (.fieldAddr rfl fo_54_3) (.u (.fieldAddr rfl fo_43_0) (.u (.ld rfl ag_3) (.ui rfl rfl rfl (.m rfl (.dec (t := 84) rfl (fun h20_84 => ?_) (fun h20_84 => ?_)))))))))))
    ·refine .kDT (t := 83) rfl h20_84 (.grun (t := 84) rfl rfl rfl (.m rfl (.grun (t := 84) rfl rfl rfl (.u (.fieldAddr rfl fo_54_1) (.grun (t := 84) rfl rfl rfl (.u (.ld rfl ag_3) (.grun (t := 84) rfl rfl rfl (.oq (.c Tryz.func37 [_, _] (trowned_spec t (applyZ τ (1 + i) y ys).1 (sesK ws[i].ses) 64 hS.wi.ok (by decide))) ?_))))))))
     rintro v L' ⟨⟨a20, c20, rfl⟩, rfl⟩
     refine .grun (t := 84) rfl rfl rfl (.q (.slen rfl Tryz.underlying23 rfl) rfl (.grun (t := 84) rfl rfl rfl (.q (.as (v' := .bool false) (by exact congrArg Value.bool (decide_eq_false (by have h := congrArg List.length (hS.shut h20_84); simp only [List.length_nil] at h; omega))) (.int rfl rfl rfl)) rfl (.u (.pickT rfl rfl) (.nt (.condF rfl (.skip (.blk_n (.then_n (.region (.m rfl (.q (.add rfl rfl (by omega)) rfl (.an rfl ?_)))))))))))))
     exact .rk ((i + 1, (applyZ τ (1 + i) y ys).1)) (⟨by dsimp only; omega, by dsimp only; omega, hS.wi, hG.w hw hzi⟩) (by dsimp only; omega) ⟨rfl, rfl, rfl, rfl, trivial⟩
    refine .kDF (t := 83) rfl h20_84 (.gk (.gk (.gk (.gk (.gk (.gk (.u (.pickF rfl rfl) (.nt (.condF rfl (.skip (.blk_n (.then_n (.region (.m rfl (.q (.add rfl rfl (by omega)) rfl (.an rfl ?_))))))))))))))))
    exact .rk ((i + 1, (applyZ τ (1 + i) y ys).1)) (⟨by dsimp only; omega, by dsimp only; omega, hS.wi, hG.w hw hzi⟩) (by dsimp only; omega) ⟨rfl, rfl, rfl, rfl, trivial⟩
   refine .kDF (t := 65) rfl h16_66 (.grun (t := 66) rfl rfl rfl (.u (.fieldAddr rfl fo_54_3) (.grun (t := 66) rfl rfl rfl (.u (.fieldAddr rfl fo_43_0) (.grun (t := 66) rfl rfl rfl (.u (.ld rfl ag_3) (.grun (t := 66) rfl rfl rfl (.ui rfl rfl rfl (.u (.pickF rfl rfl) (.nt (.condD rfl (fun h71 => ?_) (fun h71 => ?_))))))))))))
   ·refine .seq ?_
    have hsm := hS.same (.inr h71)
    refine .region (.m rfl (.u (.fieldAddr rfl fo_54_0) (.u (.ld rfl ag_3) (.cv Tryz.func35 [_, _] (trlayzx_spec o1 τ (1 + i)) ?_))))
    refine .nt (.sm rfl (.m rfl (.oq (.c Tryz.func36 [_, _] (trsame_spec o1 t (zxT τ (1 + i)) (applyZ τ (1 + i) y ys).1 64 64 (hok.zx _) hS.wi.ok)) ?_)))
    rintro v L' ⟨rfl, rfl⟩; rw [decide_eq_true hsm.symm]
    refine .u (.not rfl) (.nt (.condF rfl (.sk (.sr (.u (.fieldAddr rfl fo_54_3) (.u (.fieldAddr rfl fo_43_0) (.u (.ld rfl ag_3) (.ui rfl rfl rfl (.m rfl (.dec (t := 84) rfl (fun h20_84 => ?_) (fun h20_84 => ?_)))))))))))
    ·refine .kDT (t := 83) rfl h20_84 (.grun (t := 84) rfl rfl rfl (.m rfl (.grun (t := 84) rfl rfl rfl (.u (.fieldAddr rfl fo_54_1) (.grun (t := 84) rfl rfl rfl (.u (.ld rfl ag_3) (.grun (t := 84) rfl rfl rfl (.oq (.c Tryz.func37 [_, _] (trowned_spec t (applyZ τ (1 + i) y ys).1 (sesK ws[i].ses) 64 hS.wi.ok (by decide))) ?_))))))))
     rintro v L' ⟨⟨a20, c20, rfl⟩, rfl⟩
     refine .grun (t := 84) rfl rfl rfl (.q (.slen rfl Tryz.underlying23 rfl) rfl (.grun (t := 84) rfl rfl rfl (.q (.as (v' := .bool false) (by exact congrArg Value.bool (decide_eq_false (by have h := congrArg List.length (hS.shut h20_84); simp only [List.length_nil] at h; omega))) (.int rfl rfl rfl)) rfl (.u (.pickT rfl rfl) (.nt (.condF rfl (.skip (.blk_n (.then_n (.region (.m rfl (.q (.add rfl rfl (by omega)) rfl (.an rfl ?_)))))))))))))
     exact .rk ((i + 1, (applyZ τ (1 + i) y ys).1)) (⟨by dsimp only; omega, by dsimp only; omega, hS.wi, hG.w hw hzi⟩) (by dsimp only; omega) ⟨rfl, rfl, rfl, rfl, trivial⟩
    refine .kDF (t := 83) rfl h20_84 (.gk (.gk (.gk (.gk (.gk (.gk (.u (.pickF rfl rfl) (.nt (.condF rfl (.skip (.blk_n (.then_n (.region (.m rfl (.q (.add rfl rfl (by omega)) rfl (.an rfl ?_))))))))))))))))
    exact .rk ((i + 1, (applyZ τ (1 + i) y ys).1)) (⟨by dsimp only; omega, by dsimp only; omega, hS.wi, hG.w hw hzi⟩) (by dsimp only; omega) ⟨rfl, rfl, rfl, rfl, trivial⟩
   refine .sk (.sr (.u (.fieldAddr rfl fo_54_3) (.u (.fieldAddr rfl fo_43_0) (.u (.ld rfl ag_3) (.ui rfl rfl rfl (.m rfl (.dec (t := 84) rfl (fun h20_84 => ?_) (fun h20_84 => ?_))))))))
   ·refine .kDT (t := 83) rfl h20_84 (.grun (t := 84) rfl rfl rfl (.m rfl (.grun (t := 84) rfl rfl rfl (.u (.fieldAddr rfl fo_54_1) (.grun (t := 84) rfl rfl rfl (.u (.ld rfl ag_3) (.grun (t := 84) rfl rfl rfl (.oq (.c Tryz.func37 [_, _] (trowned_spec t (applyZ τ (1 + i) y ys).1 (sesK ws[i].ses) 64 hS.wi.ok (by decide))) ?_))))))))
    rintro v L' ⟨⟨a20, c20, rfl⟩, rfl⟩
    refine .grun (t := 84) rfl rfl rfl (.q (.slen rfl Tryz.underlying23 rfl) rfl (.grun (t := 84) rfl rfl rfl (.q (.as (v' := .bool false) (by exact congrArg Value.bool (decide_eq_false (by have h := congrArg List.length (hS.shut h20_84); simp only [List.length_nil] at h; omega))) (.int rfl rfl rfl)) rfl (.u (.pickT rfl rfl) (.nt (.condF rfl (.skip (.blk_n (.then_n (.region (.m rfl (.q (.add rfl rfl (by omega)) rfl (.an rfl ?_)))))))))))))
    exact .rk ((i + 1, (applyZ τ (1 + i) y ys).1)) (⟨by dsimp only; omega, by dsimp only; omega, hS.wi, hG.w hw hzi⟩) (by dsimp only; omega) ⟨rfl, rfl, rfl, rfl, trivial⟩
   refine .kDF (t := 83) rfl h20_84 (.gk (.gk (.gk (.gk (.gk (.gk (.u (.pickF rfl rfl) (.nt (.condF rfl (.skip (.blk_n (.then_n (.region (.m rfl (.q (.add rfl rfl (by omega)) rfl (.an rfl ?_))))))))))))))))
   exact .rk ((i + 1, (applyZ τ (1 + i) y ys).1)) (⟨by dsimp only; omega, by dsimp only; omega, hS.wi, hG.w hw hzi⟩) (by dsimp only; omega) ⟨rfl, rfl, rfl, rfl, trivial⟩
  refine .exit (.then_e (.then_e (.blk_e (.then_n (.seq (.sr (.an rfl (.block (.loopK (ι := Int) (fun q E => (10, vint q) :: E) (fun q => []) (fun q => 1 ≤ q ∧ q ≤ 6) (fun q => (6 - q).toNat) (1) (ts := [4]) (.cons rfl (.nil)) (⟨by decide, by decide⟩) ⟨rfl, rfl, trivial⟩ (by repeat' constructor) ?_)))))))))
  rintro s ⟨hs1, hs2⟩
  refine .seq (.sm rfl (.ui rfl rfl rfl (.nt (.condD rfl (fun h93 => ?_) (fun h93 => ?_)))))
  ·refine .sk (.seq (.block (.sm rfl (.m rfl (.oq (.c Tryz.func37 [_, _] (trowned_spec t τ s 64 hwi.ok (by decide))) ?_)))))
   rintro v L' ⟨⟨a25, c25, rfl⟩, rfl⟩
   refine .q (.slen rfl Tryz.underlying23 rfl) rfl (.q (.as (v' := .bool false) (by exact congrArg Value.bool (decide_eq_false (by have := hwi.few s; omega))) (.int rfl rfl rfl)) rfl (.nt (.condF rfl (.skip (.blk_n (.then_n (.region (.m rfl (.q (.add rfl rfl (by omega)) rfl (.an rfl ?_))))))))))
   exact .rk (s + 1) (⟨by omega, by omega⟩) (by omega) ⟨rfl, rfl, trivial⟩
  refine .exit (.then_e (.then_e (.blk_e (.then_n (.sm rfl (.oq (.c Tryz.func38 [_] (trpaths_spec t τ 64 hwi.ok (by decide))) ?_))))))
  rintro v L' ⟨⟨a27, c27, rfl⟩, rfl⟩
  refine .a rfl (.nil ?_)
  have hpz : (pathsZ τ).length = τ.nodes.length := List.length_map _
  have hfw := hwi.ok.few
  refine .then_n (.seq (.sr (.an rfl (.block (.loopK (ι := Nat) (fun q E => (12, vint q) :: E) (fun q => [treeR t τ]) (fun q => q ≤ (pathsZ τ).length) (fun q => (pathsZ τ).length - q) (0) (ts := [4, 11]) (.cons rfl (.cons rfl (.nil))) (Nat.zero_le _) ⟨rfl, rfl, rfl, trivial⟩ (by repeat' constructor) ?_)))))
  rintro k hk
  refine .seq (.sm rfl (.m rfl (.q (.slen rfl Tryz.underlying23 rfl) rfl (.ui rfl rfl rfl (.nt (.condD rfl (fun h106 => ?_) (fun h106 => ?_)))))))
  ·have hk2 : k < (pathsZ τ).length := by omega
   refine .slShape (v := .slice a27 _ c27) (xs := strs (pathsZ τ)) (by repeat' constructor) (by omega) fun bp cp' e0 mp _ => ?_
   simp only [Value.slice.injEq, true_and] at e0
   obtain ⟨rfl, rfl⟩ := e0
   obtain ⟨hpt, hpc, hpl, hpk, hp6⟩ := hwi.path hk2
   refine .sk (.seq (.block (.sm rfl (.m rfl (.m rfl (.q (.indexAddr rfl rfl el_23 (by omega)) rfl (.q (.loadRd (sz := 1) (j := k * 1) (p := slR 9 1 _ (pathsZ τ).length (strs (pathsZ τ))) rfl ag_9 (by repeat' constructor) (fun h hp => slR_rd hp) (by omega) (strs_at12 hk2)) rfl (.cv Tryz.func13 [_, _] (trstat_spec t τ (pathsZ τ)[k] 64 hwi.ok (by decide)) ?_))))))))
   refine .m rfl (.u (.extract rfl rfl) (.q (.as (v' := .bool true) (by exact congrArg Value.bool (decide_eq_true hpt)) (.extract rfl rfl)) rfl (.oq (.allocA ze_37) ?_)))
   rintro v L' ⟨b13, rfl, rfl⟩
   refine .oq (.storeA rfl rfl ?c159 sz_37 ?c162 ?c160 (nfz0 _ _)) ?_
   case c159 => intro v hv; simp only [stC, List.mem_cons, List.not_mem_nil, or_false] at hv; rcases hv with rfl | rfl | rfl | rfl | rfl | rfl | rfl | rfl | rfl <;> rfl
   case c162 => rfl
   case c160 => simp [stC]
   rintro v L' rfl
   refine .a rfl (.nil (.ptCast (b := b13) (l' := stC (statD τ (pathsZ τ)[k])) (by repeat' constructor) (by exact rfl) (.then_n (.sm rfl (.u (.not rfl) (.m rfl (.grun (t := 120) rfl rfl rfl (.u (.fieldAddr rfl fo_37_7) (.grun (t := 120) rfl rfl rfl (.u (.ld rfl ag_3) (.grun (t := 120) rfl rfl rfl (.q (.as (v' := .bool false) (by exact congrArg Value.bool (decide_eq_false (by omega))) (.int rfl rfl rfl)) rfl (.u (.pickF rfl rfl) (.m rfl (.grun (t := 125) rfl rfl rfl (.u (.fieldAddr rfl fo_37_6) (.grun (t := 125) rfl rfl rfl (.u (.ld rfl ag_3) (.grun (t := 125) rfl rfl rfl (.ui rfl rfl rfl (.grun (t := 125) rfl rfl rfl (.m rfl (.ndec (t := 129) rfl (fun h32_129 => ?_) (fun h32_129 => ?_))))))))))))))))))))))))
   ·refine .kNT (t := 128) rfl h32_129 (.grun (t := 129) rfl rfl rfl (.u (.fieldAddr rfl fo_37_8) (.grun (t := 129) rfl rfl rfl (.u (.ld rfl ag_3) (.grun (t := 129) rfl rfl rfl (.q (.as (v' := .bool false) (by exact congrArg Value.bool (decide_eq_false (by have := hpk h32_129; omega))) (.int rfl rfl rfl)) rfl (.grun (t := 125) rfl rfl rfl (.u (.pickT rfl rfl) (.u (.pickF rfl rfl) (.m rfl (.grun (t := 135) rfl rfl rfl (.m rfl (.grun (t := 135) rfl rfl rfl (.m rfl (.grun (t := 135) rfl rfl rfl (.q (.indexAddr rfl rfl el_23 (by omega)) rfl (.grun (t := 135) rfl rfl rfl (.q (.loadRd (sz := 1) (j := k * 1) (p := slR 9 1 _ (pathsZ τ).length (strs (pathsZ τ))) rfl ag_9 (by repeat' constructor) (fun h hp => slR_rd hp) (by omega) (strs_at12 hk2)) rfl (.grun (t := 135) rfl rfl rfl (.cv Tryz.func39 [_] (rcheck_spec (pathsZ τ)[k] (by omega)) ?_))))))))))))))))))))
    refine .grun (t := 135) rfl rfl rfl (.q (.as (v' := .bool false) (by have h := hpc; exact congrArg (fun b => Value.bool (!b)) (decide_eq_true h)) (.int rfl rfl rfl)) rfl (.u (.pickF rfl rfl) (.nt (.condF rfl (.skip (.blk_n (.then_n (.region (.m rfl (.q (.add rfl rfl (by omega)) rfl (.an rfl ?_)))))))))))
    exact .rk (k + 1) (by omega) (by omega) ⟨rfl, rfl, rfl, trivial⟩
   refine .kNF (t := 128) rfl h32_129 (.gk (.gk (.gk (.grun (t := 125) rfl rfl rfl (.u (.pickF rfl rfl) (.u (.pickF rfl rfl) (.m rfl (.grun (t := 135) rfl rfl rfl (.m rfl (.grun (t := 135) rfl rfl rfl (.m rfl (.grun (t := 135) rfl rfl rfl (.q (.indexAddr rfl rfl el_23 (by omega)) rfl (.grun (t := 135) rfl rfl rfl (.q (.loadRd (sz := 1) (j := k * 1) (p := slR 9 1 _ (pathsZ τ).length (strs (pathsZ τ))) rfl ag_9 (by repeat' constructor) (fun h hp => slR_rd hp) (by omega) (strs_at12 hk2)) rfl (.grun (t := 135) rfl rfl rfl (.cv Tryz.func39 [_] (rcheck_spec (pathsZ τ)[k] (by omega)) ?_)))))))))))))))))
   refine .grun (t := 135) rfl rfl rfl (.q (.as (v' := .bool false) (by have h := hpc; exact congrArg (fun b => Value.bool (!b)) (decide_eq_true h)) (.int rfl rfl rfl)) rfl (.u (.pickF rfl rfl) (.nt (.condF rfl (.skip (.blk_n (.then_n (.region (.m rfl (.q (.add rfl rfl (by omega)) rfl (.an rfl ?_)))))))))))
   exact .rk (k + 1) (by omega) (by omega) ⟨rfl, rfl, rfl, trivial⟩
  refine .exit (.then_e (.then_e (.blk_e (.then_n (.sm rfl (.q (.slen rfl Tryz.underlying23 rfl) rfl (.q (.as (v' := .bool true) (by exact congrArg Value.bool (decide_eq_true (by omega))) (.int rfl rfl rfl)) rfl (.an rfl (.ret ?_)))))))))
  exact .vv
 refine .kDF (t := 27) rfl h7_28 (.gk (.gk (.u (.pickF rfl rfl) (.nt (.condF rfl (.exit (.then_e (.then_e (.blk_e (.then_n (.seq (.sr (.an rfl (.block (.loopK (ι := Int) (fun q E => (10, vint q) :: E) (fun q => []) (fun q => 1 ≤ q ∧ q ≤ 6) (fun q => (6 - q).toNat) (1) (ts := [4]) (.cons rfl (.nil)) (⟨by decide, by decide⟩) ⟨rfl, rfl, trivial⟩ (by repeat' constructor) ?_)))))))))))))))
 rintro s ⟨hs1, hs2⟩
 refine .seq (.sm rfl (.ui rfl rfl rfl (.nt (.condD rfl (fun h93 => ?_) (fun h93 => ?_)))))
 ·refine .sk (.seq (.block (.sm rfl (.m rfl (.oq (.c Tryz.func37 [_, _] (trowned_spec t τ s 64 hwi.ok (by decide))) ?_)))))
  rintro v L' ⟨⟨a25, c25, rfl⟩, rfl⟩
  refine .q (.slen rfl Tryz.underlying23 rfl) rfl (.q (.as (v' := .bool false) (by exact congrArg Value.bool (decide_eq_false (by have := hwi.few s; omega))) (.int rfl rfl rfl)) rfl (.nt (.condF rfl (.skip (.blk_n (.then_n (.region (.m rfl (.q (.add rfl rfl (by omega)) rfl (.an rfl ?_))))))))))
  exact .rk (s + 1) (⟨by omega, by omega⟩) (by omega) ⟨rfl, rfl, trivial⟩
 refine .exit (.then_e (.then_e (.blk_e (.then_n (.sm rfl (.oq (.c Tryz.func38 [_] (trpaths_spec t τ 64 hwi.ok (by decide))) ?_))))))
 rintro v L' ⟨⟨a27, c27, rfl⟩, rfl⟩
 refine .a rfl (.nil ?_)
 have hpz : (pathsZ τ).length = τ.nodes.length := List.length_map _
 have hfw := hwi.ok.few
 refine .then_n (.seq (.sr (.an rfl (.block (.loopK (ι := Nat) (fun q E => (12, vint q) :: E) (fun q => [treeR t τ]) (fun q => q ≤ (pathsZ τ).length) (fun q => (pathsZ τ).length - q) (0) (ts := [4, 11]) (.cons rfl (.cons rfl (.nil))) (Nat.zero_le _) ⟨rfl, rfl, rfl, trivial⟩ (by repeat' constructor) ?_)))))
 rintro k hk
 refine .seq (.sm rfl (.m rfl (.q (.slen rfl Tryz.underlying23 rfl) rfl (.ui rfl rfl rfl (.nt (.condD rfl (fun h106 => ?_) (fun h106 => ?_)))))))
 ·have hk2 : k < (pathsZ τ).length := by omega
  refine .slShape (v := .slice a27 _ c27) (xs := strs (pathsZ τ)) (by repeat' constructor) (by omega) fun bp cp' e0 mp _ => ?_
  simp only [Value.slice.injEq, true_and] at e0
  obtain ⟨rfl, rfl⟩ := e0
  obtain ⟨hpt, hpc, hpl, hpk, hp6⟩ := hwi.path hk2
  refine .sk (.seq (.block (.sm rfl (.m rfl (.m rfl (.q (.indexAddr rfl rfl el_23 (by omega)) rfl (.q (.loadRd (sz := 1) (j := k * 1) (p := slR 9 1 _ (pathsZ τ).length (strs (pathsZ τ))) rfl ag_9 (by repeat' constructor) (fun h hp => slR_rd hp) (by omega) (strs_at12 hk2)) rfl (.cv Tryz.func13 [_, _] (trstat_spec t τ (pathsZ τ)[k] 64 hwi.ok (by decide)) ?_))))))))
  refine .m rfl (.u (.extract rfl rfl) (.q (.as (v' := .bool true) (by exact congrArg Value.bool (decide_eq_true hpt)) (.extract rfl rfl)) rfl (.oq (.allocA ze_37) ?_)))
  rintro v L' ⟨b13, rfl, rfl⟩
  refine .oq (.storeA rfl rfl ?c227 sz_37 ?c230 ?c228 (nfz0 _ _)) ?_
  case c227 => intro v hv; simp only [stC, List.mem_cons, List.not_mem_nil, or_false] at hv; rcases hv with rfl | rfl | rfl | rfl | rfl | rfl | rfl | rfl | rfl <;> rfl
  case c230 => rfl
  case c228 => simp [stC]
  rintro v L' rfl
  refine .a rfl (.nil (.ptCast (b := b13) (l' := stC (statD τ (pathsZ τ)[k])) (by repeat' constructor) (by exact rfl) (.then_n (.sm rfl (.u (.not rfl) (.m rfl (.grun (t := 120) rfl rfl rfl (.u (.fieldAddr rfl fo_37_7) (.grun (t := 120) rfl rfl rfl (.u (.ld rfl ag_3) (.grun (t := 120) rfl rfl rfl (.q (.as (v' := .bool false) (by exact congrArg Value.bool (decide_eq_false (by omega))) (.int rfl rfl rfl)) rfl (.u (.pickF rfl rfl) (.m rfl (.grun (t := 125) rfl rfl rfl (.u (.fieldAddr rfl fo_37_6) (.grun (t := 125) rfl rfl rfl (.u (.ld rfl ag_3) (.grun (t := 125) rfl rfl rfl (.ui rfl rfl rfl (.grun (t := 125) rfl rfl rfl (.m rfl (.ndec (t := 129) rfl (fun h32_129 => ?_) (fun h32_129 => ?_))))))))))))))))))))))))
  ·refine .kNT (t := 128) rfl h32_129 (.grun (t := 129) rfl rfl rfl (.u (.fieldAddr rfl fo_37_8) (.grun (t := 129) rfl rfl rfl (.u (.ld rfl ag_3) (.grun (t := 129) rfl rfl rfl (.q (.as (v' := .bool false) (by exact congrArg Value.bool (decide_eq_false (by have := hpk h32_129; omega))) (.int rfl rfl rfl)) rfl (.grun (t := 125) rfl rfl rfl (.u (.pickT rfl rfl) (.u (.pickF rfl rfl) (.m rfl (.grun (t := 135) rfl rfl rfl (.m rfl (.grun (t := 135) rfl rfl rfl (.m rfl (.grun (t := 135) rfl rfl rfl (.q (.indexAddr rfl rfl el_23 (by omega)) rfl (.grun (t := 135) rfl rfl rfl (.q (.loadRd (sz := 1) (j := k * 1) (p := slR 9 1 _ (pathsZ τ).length (strs (pathsZ τ))) rfl ag_9 (by repeat' constructor) (fun h hp => slR_rd hp) (by omega) (strs_at12 hk2)) rfl (.grun (t := 135) rfl rfl rfl (.cv Tryz.func39 [_] (rcheck_spec (pathsZ τ)[k] (by omega)) ?_))))))))))))))))))))
   refine .grun (t := 135) rfl rfl rfl (.q (.as (v' := .bool false) (by have h := hpc; exact congrArg (fun b => Value.bool (!b)) (decide_eq_true h)) (.int rfl rfl rfl)) rfl (.u (.pickF rfl rfl) (.nt (.condF rfl (.skip (.blk_n (.then_n (.region (.m rfl (.q (.add rfl rfl (by omega)) rfl (.an rfl ?_)))))))))))
   exact .rk (k + 1) (by omega) (by omega) ⟨rfl, rfl, rfl, trivial⟩
  refine .kNF (t := 128) rfl h32_129 (.gk (.gk (.gk (.grun (t := 125) rfl rfl rfl (.u (.pickF rfl rfl) (.u (.pickF rfl rfl) (.m rfl (.grun (t := 135) rfl rfl rfl (.m rfl (.grun (t := 135) rfl rfl rfl (.m rfl (.grun (t := 135) rfl rfl rfl (.q (.indexAddr rfl rfl el_23 (by omega)) rfl (.grun (t := 135) rfl rfl rfl (.q (.loadRd (sz := 1) (j := k * 1) (p := slR 9 1 _ (pathsZ τ).length (strs (pathsZ τ))) rfl ag_9 (by repeat' constructor) (fun h hp => slR_rd hp) (by omega) (strs_at12 hk2)) rfl (.grun (t := 135) rfl rfl rfl (.cv Tryz.func39 [_] (rcheck_spec (pathsZ τ)[k] (by omega)) ?_)))))))))))))))))
  refine .grun (t := 135) rfl rfl rfl (.q (.as (v' := .bool false) (by have h := hpc; exact congrArg (fun b => Value.bool (!b)) (decide_eq_true h)) (.int rfl rfl rfl)) rfl (.u (.pickF rfl rfl) (.nt (.condF rfl (.skip (.blk_n (.then_n (.region (.m rfl (.q (.add rfl rfl (by omega)) rfl (.an rfl ?_)))))))))))
  exact .rk (k + 1) (by omega) (by omega) ⟨rfl, rfl, rfl, trivial⟩
 refine .exit (.then_e (.then_e (.blk_e (.then_n (.sm rfl (.q (.slen rfl Tryz.underlying23 rfl) rfl (.q (.as (v' := .bool true) (by exact congrArg Value.bool (decide_eq_true (by omega))) (.int rfl rfl rfl)) rfl (.an rfl (.ret ?_)))))))))
 exact .vv
open Go Go.ChangeShapes Go.WideShapes Go.ChangeAt Go.RowKit
section
variable {H : Type} {enc : TypeId × Value → H} {P : Program} {W W' : World}
theorem trodAll_old (hl : laidOutB P = true) (hb : Below W.heap.size W W') (sp : Nat → Bool) : ∀ (ts : List TypeId) (vs : List Value) (ds : List (DataW H)) (p : List MemPlace), (∀ t ∈ ts, P.readableRec t = true ∧ t < P.types.size) →
  DataW.TrodAll enc P W 0 (fun _ => true) true ts vs ds p → (∀ x ∈ p, x.block < W.heap.size) → (∀ x ∈ p, sp x.block = true) → DataW.TrodAll enc P W' 0 sp true ts vs ds p
 | [], vs, ds, p, _, h, _, _ => by
  obtain ⟨rfl, rfl, rfl⟩ := trodAll_nil h
  exact h
 | t :: ts, vs, ds, p, hr, h, hlt, hsp => by
  obtain ⟨v, vs1, d, ds1, a, b, rfl, rfl, rfl, h1, h2⟩ := trodAll_cons h
  have r := hr t (by simp)
  refine ⟨a, b, WideElems.Trod_stays hl r.1 r.2 h1 (fun x hx => hb.same (hlt x (by simp [hx]))) (fun x hx => hsp x (by simp [hx])), ?_, rfl⟩
  exact trodAll_old hl hb sp ts vs1 ds1 b (fun t ht => hr t (by simp [ht])) h2 (fun x hx => hlt x (by simp [hx])) (fun x hx => hsp x (by simp [hx]))
theorem settled {fn : Func} {s : ChangeSpec} {apart fresh handsOn again : Bool} {args : Array Value} {ds gs : List (DataW H)} {before : List MemPlace} {tb : TypeId}
  (hW : DataW.Whole enc P fn.params.toList s.vars apart W args.toList ds gs before) (hvars : s.vars = []) (hspec : ∀ gs', gs' = [] → s.fn H (ds ++ gs') = { results := [.lit (.bool true)], args := ds })
  (hres : fn.resultTypes = #[tb]) (htb : P.underlying tb = some .bool) (hl : laidOutB P = true) (hr : ∀ t ∈ fn.params.toList, P.readableRec t = true ∧ t < P.types.size) (hb : Below W.heap.size W W') :
  s.post enc P fn apart fresh handsOn again W args (.bool true) W' := by
 have hW' := hW
 have hlt := hW.lt
 obtain ⟨p, q, hA, hV, rfl, hfz, hnd⟩ := hW
 rw [hvars] at hV
 obtain ⟨rfl, rfl⟩ := trodVars_none hV
 have hs := hspec [] rfl
 have hargs : ∀ sp : Nat → Bool, (∀ x ∈ p, sp x.block = true) → DataW.TrodAll enc P W' 0 sp true fn.params.toList args.toList ds p := fun sp hsp =>
  trodAll_old hl hb sp _ _ _ _ hr hA (fun x hx => hlt x (by simp [hx])) hsp
 have hbool : ∀ (b : Nat) (sp : Nat → Bool) (hd : Bool), DataW.TrodAll enc P W' b sp hd fn.resultTypes.toList ((Value.bool true).resultList fn.resultTypes.size) [.lit (.bool true)] [] := by
  intro b sp hd
  rw [hres]
  exact trodAll_cons_mk (shut_bool htb _) trodAll_mk0
 refine ⟨ds, [], p ++ [], [], p, [], hW', ?_, ?_, ?_, hb.frame _, fun _ => ⟨ok_one hres rfl (okWide_bool_mk htb _), [.lit (.bool true)] ++ ds, [], p, ⟨p, [], ?_, ?_, by simp, ?_, ?_⟩, ?_⟩⟩
 ·rw [hs]; exact hbool _ _ _
 ·rw [hs]; exact hargs _ (fun x hx => by simpa using hlt x (by simp [hx]))
 ·rw [hs, hvars]; exact hV
 ·exact trodAll_append (hargs _ (fun _ _ => rfl)) (hbool _ _ _)
 ·rw [hvars]; exact hV
 ·intro b off hp
  rw [hb.frozen (p := ⟨b, off, none⟩) (hlt (.cell b off) (by simp [hp]))]
  exact hfz b off (by simp [hp])
 ·intro ha
  have := hnd ha
  simpa using this
 ·intro x hx _
  simp [hx]
theorem old_calls {f : FuncId} {args : Array Value} (h : Fn P f args [Old W] fun v L => v = .bool true ∧ L = [Old W]) :
  Calls P f args W fun e W' => e = .returned (.bool true) ∧ Below W.heap.size W W' := by
 have h0 : St [Old W] W := ⟨fun b => W.heap[b]?, fun _ => none, fun _ => .inr rfl, fun b o h => h, fun b o h => (by cases h), fun b hb => rfl, trivial⟩
 refine (h [] W h0).mono ?_
 rintro e W' ⟨v, L, ⟨rfl, rfl⟩, rfl, hs, hk⟩
 refine ⟨rfl, hk.os, hk.tape, hk.output, hk.size, fun k hk' => ?_⟩
 obtain ⟨h1, a1, hp⟩ := sep_head hs
 have e1 := hp k hk'
 have : ∃ o, W.heap[k]? = some o := ⟨_, Array.getElem?_eq_getElem hk'⟩
 obtain ⟨o, ho⟩ := this
 rw [ho] at e1 ⊢
 exact a1 _ _ e1
theorem old_rd {a : Addr} {len cap : Nat} {V : Nat → Value} (hc : ∀ i, i < len → W.cell? (a.add i) = some (V i)) (hle : len ≤ cap) : ∀ h : Hp, Old W h → rdS 1 h (.slice (some a) len cap) len ((List.range len).map V) := by
 intro h hold
 rcases Nat.eq_zero_or_pos len with rfl | hpos
 ·exact .inl ⟨rfl, rfl, some a, cap, rfl⟩
 ·obtain ⟨b, off, spot⟩ := a
  have h0 := hc 0 hpos
  have e0 : (⟨b, off, spot⟩ : Addr).add 0 = ⟨b, off, spot⟩ := by simp [Addr.add]
  rw [e0] at h0
  simp only [World.cell?] at h0
  rcases hw : W.heap[b]? with _ | o
  ·rw [hw] at h0; cases h0
  ·cases o with
   | cells c T fr =>
    rw [hw] at h0
    dsimp only at h0
    split at h0
    ·cases h0
    ·rename_i hsp
     have hspot : spot = none := by simpa using hsp
     subst hspot
     have hc' : ∀ i, i < len → c[off + i]? = some (V i) := by
      intro i hi
      have := hc i hi
      have e1 : (⟨b, off, none⟩ : Addr).add i = ⟨b, off + i, none⟩ := by
       simp only [Addr.add]; split
       ·rename_i h0; simp [h0]
       ·rfl
      rw [e1] at this
      simp only [World.cell?, hw] at this
      simpa using this
     have hlt : b < W.heap.size := by
      rcases Nat.lt_or_ge b W.heap.size with h' | h'
      ·exact h'
      ·rw [Array.getElem?_eq_none h'] at hw; cases hw
     have hlen : off + len ≤ c.size := by
      have := hc' (len - 1) (by omega)
      rcases Nat.lt_or_ge (off + (len - 1)) c.size with h' | h'
      ·omega
      ·rw [Array.getElem?_eq_none h'] at this; cases this
     refine .inr ⟨b, off, cap, c.toList, T, fr, rfl, by rw [hold b hlt, hw], ?_, by simpa using hlen, hle⟩
     apply List.ext_getElem?
     intro i
     rw [Nat.mul_one, List.getElem?_take, List.getElem?_map, List.getElem?_drop]
     split
     ·rename_i hi
      rw [List.getElem?_range hi]
      simpa using hc' i hi
     ·rename_i hi
      rw [List.getElem?_eq_none (by simpa using hi)]; rfl
   | _ => rw [hw] at h0; cases h0
end
open Go Go.ChangeShapes Go.WideShapes Go.ChangeAt Go.RowKit
section
variable {H : Type} {enc : TypeId × Value → H} {P : Program} {W : World}
theorem string_vstr (s : ByteArray) : Value.string s = vstr s.data.toList := by cases s; rfl
end
open Go Go.ChangeShapes Go.WideShapes Go.ChangeAt Go.RowKit
section
variable {H : Type} {enc : TypeId × Value → H} {P : Program} {W : World}
theorem flat_at {α : Type} {sz : Nat} (f : Nat → List α) : ∀ n, (∀ i, i < n → (f i).length = sz) → ∀ j, j < n * sz → ((List.range n).flatMap f)[j]? = (f (j / sz))[j % sz]? ∧ ((List.range n).flatMap f).length = n * sz := by
 intro n
 induction n with
 | zero => intro _ j hj; omega
 | succ n ih =>
  intro hf j hj
  have hn := hf n (by omega)
  have hlen : ((List.range n).flatMap f).length = n * sz := by
   rcases Nat.eq_zero_or_pos (n * sz) with h0 | h0
   ·rcases Nat.eq_zero_or_pos n with h1 | h1
    ·subst h1; simp
    ·have : sz = 0 := by
      rcases Nat.eq_zero_or_pos sz with h2 | h2
      ·exact h2
      ·have := Nat.mul_pos h1 h2; omega
     subst this; omega
   ·exact (ih (fun i hi => hf i (by omega)) 0 h0).2
  have e : (List.range (n + 1)).flatMap f = (List.range n).flatMap f ++ f n := by simp [List.range_succ]
  have hm : (n + 1) * sz = n * sz + sz := by rw [Nat.add_mul, Nat.one_mul]
  rw [e]
  refine ⟨?_, by rw [List.length_append, hlen, hn, hm]⟩
  rcases Nat.lt_or_ge j (n * sz) with h | h
  ·rw [List.getElem?_append_left (by omega)]
   exact (ih (fun i hi => hf i (by omega)) j h).1
  ·rw [List.getElem?_append_right (by omega), hlen]
   have hs : 0 < sz := by omega
   have h1 : j / sz = n := by
    have : j < (n + 1) * sz := hj
    have a := Nat.div_lt_of_lt_mul (show j < sz * (n + 1) by rw [Nat.mul_comm]; exact this)
    have b := (Nat.le_div_iff_mul_le hs).2 h
    omega
   have h2 : j % sz = j - n * sz := by
    have := Nat.div_add_mod j sz
    rw [h1, Nat.mul_comm] at this; omega
   rw [h1, h2]
theorem rdS_regroup {sz n c c1 : Nat} {a : Option Addr} {ys : List Value} {h : Hp} (hr : rdS 1 h (.slice a (n * sz) c1) (n * sz) ys) (hc : n ≤ c) (hs : 0 < sz) : rdS sz h (.slice a n c) n ys := by
 rcases hr with ⟨h1, h2, -⟩ | ⟨b, off, cap, l, T, fr, hv, hb, h1, h2, h3⟩
 ·have : n = 0 := by
   rcases Nat.eq_zero_or_pos n with h0 | h0
   ·exact h0
   ·have := Nat.mul_pos h0 hs; omega
  subst this
  exact .inl ⟨rfl, h2, a, c, rfl⟩
 ·simp only [Value.slice.injEq] at hv
  obtain ⟨rfl, -, -⟩ := hv
  exact .inr ⟨b, off, c, l, T, fr, rfl, hb, by rw [← h1, Nat.mul_one], by rw [Nat.mul_one] at h2; exact h2, hc⟩
abbrev Reads (enc : TypeId × Value → H) (P : Program) (W : World) (fuel : Nat) (t : TypeId) (cs : List Value) (x : DataW H × List MemPlace) : Prop := DataW.trod enc P W 0 (fun _ => true) true fuel t cs = some x
theorem dec_int {t : TypeId} {fuel : Nat} {cs : List Value} {x : DataW H × List MemPlace} (ht : P.underlying t = some (.int .i64)) (h : Reads enc P W fuel t cs x) : ∃ n : Int, cs = [vint n] ∧ -9223372036854775808 ≤ n ∧ n ≤ 9223372036854775807 := by
 obtain ⟨n, rfl, -, hwf⟩ := DataW.trod_int ht h
 exact ⟨n, rfl, bounds_i64 hwf⟩
theorem dec_bool {t : TypeId} {fuel : Nat} {cs : List Value} {x : DataW H × List MemPlace} (ht : P.underlying t = some .bool) (h : Reads enc P W fuel t cs x) : ∃ b : Bool, cs = [.bool b] := by
 obtain ⟨b, rfl, -⟩ := DataW.trod_bool ht h
 exact ⟨b, rfl⟩
end
open Go Go.ChangeShapes Go.WideShapes Go.ChangeAt Go.RowKit
theorem bulk_pos {H : Type} (d : DataW H) : 1 ≤ Rows.uptoBulk d := by
 cases d with
 | lit l => cases l <;> simp [Rows.uptoBulk]
 | _ => simp [Rows.uptoBulk]
theorem bulk_part {H : Type} {d : DataW H} : ∀ {l : List (DataW H)}, d ∈ l → Rows.uptoBulk d ≤ Rows.uptoBulkAll l
 | x :: l, h => by
  unfold Rows.uptoBulkAll
  rcases List.mem_cons.1 h with rfl | h
  ·omega
  ·have := bulk_part h; omega
theorem bulk_count {H : Type} : ∀ l : List (DataW H), l.length ≤ Rows.uptoBulkAll l
 | [] => by simp
 | x :: l => by
  have h1 := bulk_pos x
  have h2 := bulk_count l
  unfold Rows.uptoBulkAll
  rw [List.length_cons]; omega
theorem bulk_sum {H : Type} : ∀ l : List (DataW H), (l.map Rows.uptoBulk).sum ≤ Rows.uptoBulkAll l
 | [] => by simp
 | x :: l => by
  have h2 := bulk_sum l
  unfold Rows.uptoBulkAll
  rw [List.map_cons, List.sum_cons]; omega
theorem bulk_small {H : Type} {l : List (DataW H)} (h : Rows.uptoSmall H l = true) {d : DataW H} (hd : d ∈ l) : Rows.uptoBulk d ≤ 1048576 :=
 Nat.le_trans (bulk_part hd) (of_decide_eq_true h)
instance : Inhabited Value := ⟨.bool false⟩
section
variable {H : Type} {enc : TypeId × Value → H} {P : Program} {W : World} {N : Nat}
theorem dec_int' {t : TypeId} {fuel : Nat} {cs : List Value} {x : DataW H × List MemPlace} (ht : P.underlying t = some (.int .i64)) (h : Reads enc P W fuel t cs x) : ∃ n : Int, cs = [vint n] ∧ (-9223372036854775808 ≤ n ∧ n ≤ 9223372036854775807) := by
 obtain ⟨n, h1, h2⟩ := dec_int ht h; exact ⟨n, h1, h2⟩
theorem dec_sliceV {Z : Type} [Inhabited Z] (toC : Z → List Value) (Q : Z → Prop) {t e : TypeId} {sz : Nat} {fuel : Nat} {cs : List Value} {x : DataW H × List MemPlace} (ht : P.underlying t = some (.slice e)) (hc : P.cellsOf e = sz) (hs : 0 < sz)
  (hdec : ∀ (n : Nat) (cs : List Value) (y : DataW H × List MemPlace), Reads enc P W n e cs y → Rows.uptoBulk y.1 ≤ N → ∃ z, cs = toC z ∧ Q z) (h : Reads enc P W fuel t cs x) (hb : Rows.uptoBulk x.1 ≤ N + 1) :
  ∃ z : Value × List Z, cs = [z.1] ∧ (∀ h : Hp, Old W h → rdS sz h z.1 z.2.length (z.2.flatMap toC)) ∧ z.2.length ≤ N ∧ ∀ y ∈ z.2, Q y := by
 subst hc
 rcases Go.Deep.open_slice ht h with ⟨rfl, rfl⟩ | ⟨a, len, cap, m, n, Dd, Pl, rfl, -, hl, hm, hmm, rfl, hx⟩
 ·exact ⟨(_, []), rfl, fun h _ => .inl ⟨rfl, rfl, none, 0, rfl⟩, by simp, by simp⟩
 ·simp only [if_true] at hmm
  subst hmm
  have hbl : len ≤ N := by
   have := bulk_count ((List.range len).map Dd)
   simp only [Rows.uptoBulk] at hb
   rw [List.length_map, List.length_range] at this
   omega
  have hbe : ∀ i, i < len → Rows.uptoBulk (Dd i) ≤ N := fun i hi => by
   have := bulk_part (d := Dd i) (l := (List.range len).map Dd) (List.mem_map_of_mem (by simpa using hi))
   simp only [Rows.uptoBulk] at hb
   omega
  obtain ⟨Zf, hZ⟩ := Go.Deep.choose_lt (α := Z) (p := fun i z => W.cells? 0 (a.add (i * P.cellsOf e)) (P.cellsOf e) = some (toC z) ∧ Q z) (n := len) (fun i hi => by
   obtain ⟨cs', h1, h2⟩ := hx i (by omega)
   obtain ⟨z, rfl, h3⟩ := hdec _ _ _ h2 (hbe i hi)
   exact ⟨z, h1, h3⟩)
  have hlenf : ∀ i, i < len → (toC (Zf i)).length = P.cellsOf e := fun i hi => (World.cells?_some (hZ i hi).1).2.1
  have hflat := flat_at (fun i => toC (Zf i)) len hlenf
  refine ⟨(_, (List.range len).map Zf), rfl, ?_, ?_, ?_⟩
  ·intro h hold
   dsimp only
   rw [List.length_map, List.length_range]
   refine rdS_regroup (c1 := len * P.cellsOf e) ?_ hl hs
   have e1 : ((List.range len).map Zf).flatMap toC = (List.range (len * P.cellsOf e)).map (fun j => ((List.range len).flatMap fun i => toC (Zf i)).getD j (.bool false)) := by
    rw [List.flatMap_map]
    apply List.ext_getElem?
    intro j
    rcases Nat.lt_or_ge j (len * P.cellsOf e) with hj | hj
    ·rw [List.getElem?_map, List.getElem?_range hj]
     have := (hflat j hj).2
     have hjl : j < ((List.range len).flatMap fun i => toC (Zf i)).length := by omega
     simp only [Option.map_some, List.getD_eq_getElem?_getD, List.getElem?_eq_getElem hjl, Option.getD_some]
    ·have : ((List.range len).flatMap fun i => toC (Zf i)).length = len * P.cellsOf e := by
      rcases Nat.eq_zero_or_pos (len * P.cellsOf e) with h0 | h0
      ·have : len = 0 := by
        rcases Nat.eq_zero_or_pos len with h1 | h1
        ·exact h1
        ·have := Nat.mul_pos h1 hs; omega
       subst this; simp
      ·exact (hflat 0 h0).2
     rw [List.getElem?_eq_none (by omega), List.getElem?_eq_none (by simpa using hj)]
   rw [e1]
   refine old_rd (W := W) (fun j hj => ?_) (Nat.le_refl _) h hold
   have hi : j / P.cellsOf e < len := Nat.div_lt_of_lt_mul (by rw [Nat.mul_comm]; exact hj)
   have hcell := (World.cells?_some (hZ (j / P.cellsOf e) hi).1).2.2 (j % P.cellsOf e) (Nat.mod_lt _ hs)
   rw [Addr.add_add, Nat.mul_comm, Nat.div_add_mod] at hcell
   rw [hcell]
   obtain ⟨f1, f2⟩ := hflat j hj
   rw [List.getD_eq_getElem?_getD, f1]
   have : j % P.cellsOf e < (toC (Zf (j / P.cellsOf e))).length := by rw [hlenf _ hi]; exact Nat.mod_lt _ hs
   simp [this]
  ·dsimp only; rw [List.length_map, List.length_range]; exact hbl
  ·intro z hz
   obtain ⟨i, hi, rfl⟩ := List.mem_map.1 hz
   exact (hZ i (by simpa using hi)).2
theorem dec_sliceQV {Z : Type} [Inhabited Z] (toC : Z → List Value) (Q : Nat → Z → Prop) {t e : TypeId} {sz : Nat} {fuel : Nat} {cs : List Value} {x : DataW H × List MemPlace} (ht : P.underlying t = some (.slice e)) (hc : P.cellsOf e = sz) (hs : 0 < sz)
  (hdec : ∀ (n : Nat) (cs : List Value) (y : DataW H × List MemPlace), Reads enc P W n e cs y → ∃ z, cs = toC z ∧ Q (Rows.uptoBulk y.1) z) (h : Reads enc P W fuel t cs x) (hb : Rows.uptoBulk x.1 ≤ N + 1) :
  ∃ (z : Value × List Z) (ws : List Nat), cs = [z.1] ∧ (∀ h : Hp, Old W h → rdS sz h z.1 z.2.length (z.2.flatMap toC)) ∧ z.2.length ≤ N ∧ ws.length = z.2.length ∧ ws.sum ≤ N ∧ (∀ w ∈ ws, 1 ≤ w) ∧ ∀ i (h1 : i < z.2.length) (h2 : i < ws.length), Q ws[i] z.2[i] := by
 subst hc
 rcases Go.Deep.open_slice ht h with ⟨rfl, rfl⟩ | ⟨a, len, cap, m, n, Dd, Pl, rfl, -, hl, hm, hmm, rfl, hx⟩
 ·exact ⟨(_, []), [], rfl, fun h _ => .inl ⟨rfl, rfl, none, 0, rfl⟩, by simp, rfl, by simp, (fun _ h => by cases h), (fun i h1 _ => by simp at h1)⟩
 ·simp only [if_true] at hmm
  subst hmm
  have hbl : len ≤ N := by
   have := bulk_count ((List.range len).map Dd)
   simp only [Rows.uptoBulk] at hb
   rw [List.length_map, List.length_range] at this
   omega
  have hall : ((List.range len).map fun i => Rows.uptoBulk (Dd i)).sum ≤ N := by
   have := bulk_sum ((List.range len).map Dd)
   rw [List.map_map] at this
   simp only [Rows.uptoBulk] at hb
   have e : ((List.range len).map fun i => Rows.uptoBulk (Dd i)) = (List.range len).map (Rows.uptoBulk ∘ Dd) := rfl
   rw [e]; omega
  obtain ⟨Zf, hZ⟩ := Go.Deep.choose_lt (α := Z) (p := fun i z => W.cells? 0 (a.add (i * P.cellsOf e)) (P.cellsOf e) = some (toC z) ∧ Q (Rows.uptoBulk (Dd i)) z) (n := len) (fun i hi => by
   obtain ⟨cs', h1, h2⟩ := hx i (by omega)
   obtain ⟨z, rfl, h3⟩ := hdec _ _ _ h2
   exact ⟨z, h1, h3⟩)
  have hlenf : ∀ i, i < len → (toC (Zf i)).length = P.cellsOf e := fun i hi => (World.cells?_some (hZ i hi).1).2.1
  have hflat := flat_at (fun i => toC (Zf i)) len hlenf
  refine ⟨(_, (List.range len).map Zf), (List.range len).map fun i => Rows.uptoBulk (Dd i), rfl, ?_, ?_, by simp, hall, ?_, ?_⟩
  ·intro h hold
   dsimp only
   rw [List.length_map, List.length_range]
   refine rdS_regroup (c1 := len * P.cellsOf e) ?_ hl hs
   have e1 : ((List.range len).map Zf).flatMap toC = (List.range (len * P.cellsOf e)).map (fun j => ((List.range len).flatMap fun i => toC (Zf i)).getD j (.bool false)) := by
    rw [List.flatMap_map]
    apply List.ext_getElem?
    intro j
    rcases Nat.lt_or_ge j (len * P.cellsOf e) with hj | hj
    ·rw [List.getElem?_map, List.getElem?_range hj]
     have := (hflat j hj).2
     have hjl : j < ((List.range len).flatMap fun i => toC (Zf i)).length := by omega
     simp only [Option.map_some, List.getD_eq_getElem?_getD, List.getElem?_eq_getElem hjl, Option.getD_some]
    ·have : ((List.range len).flatMap fun i => toC (Zf i)).length = len * P.cellsOf e := by
      rcases Nat.eq_zero_or_pos (len * P.cellsOf e) with h0 | h0
      ·have : len = 0 := by
        rcases Nat.eq_zero_or_pos len with h1 | h1
        ·exact h1
        ·have := Nat.mul_pos h1 hs; omega
       subst this; simp
      ·exact (hflat 0 h0).2
     rw [List.getElem?_eq_none (by omega), List.getElem?_eq_none (by simpa using hj)]
   rw [e1]
   refine old_rd (W := W) (fun j hj => ?_) (Nat.le_refl _) h hold
   have hi : j / P.cellsOf e < len := Nat.div_lt_of_lt_mul (by rw [Nat.mul_comm]; exact hj)
   have hcell := (World.cells?_some (hZ (j / P.cellsOf e) hi).1).2.2 (j % P.cellsOf e) (Nat.mod_lt _ hs)
   rw [Addr.add_add, Nat.mul_comm, Nat.div_add_mod] at hcell
   rw [hcell]
   obtain ⟨f1, f2⟩ := hflat j hj
   rw [List.getD_eq_getElem?_getD, f1]
   have : j % P.cellsOf e < (toC (Zf (j / P.cellsOf e))).length := by rw [hlenf _ hi]; exact Nat.mod_lt _ hs
   simp [this]
  ·dsimp only; rw [List.length_map, List.length_range]; exact hbl
  ·intro w hw
   obtain ⟨i, -, rfl⟩ := List.mem_map.1 hw
   exact bulk_pos _
  ·intro i h1 h2
   simp only [List.getElem_map, List.getElem_range]
   exact (hZ i (by simpa using h1)).2
/-! ### With weights: what is read weighs no more than its bulk -/
theorem dec_strW {t : TypeId} {fuel : Nat} {cs : List Value} {x : DataW H × List MemPlace} (ht : P.underlying t = some .string) (h : Reads enc P W fuel t cs x) : ∃ s : List UInt8, cs = [vstr s] ∧ s.length + 1 ≤ Rows.uptoBulk x.1 := by
 obtain ⟨s, rfl, rfl, -⟩ := DataW.trod_string ht h
 exact ⟨s.data.toList, by rw [string_vstr], by simp [Rows.uptoBulk]⟩
theorem dec_intW {t : TypeId} {fuel : Nat} {cs : List Value} {x : DataW H × List MemPlace} (ht : P.underlying t = some (.int .i64)) (h : Reads enc P W fuel t cs x) : ∃ n : Int, cs = [vint n] ∧ (-9223372036854775808 ≤ n ∧ n ≤ 9223372036854775807) ∧ 1 ≤ Rows.uptoBulk x.1 := by
 obtain ⟨n, h1, h2⟩ := dec_int' ht h; exact ⟨n, h1, h2, bulk_pos _⟩
theorem slice_shape {t e : TypeId} {fuel : Nat} {v : Value} {x : DataW H × List MemPlace} (ht : P.underlying t = some (.slice e)) (h : Reads enc P W fuel t [v] x) : ∃ a n c, v = .slice a n c := by
 rcases Go.Deep.open_slice ht h with ⟨hv, -⟩ | ⟨a, len, cap, m, n, Dd, Pl, hv, -⟩
 ·rw [List.cons.injEq] at hv; rw [hv.1]; exact ⟨_, _, _, rfl⟩
 ·rw [List.cons.injEq] at hv; rw [hv.1]; exact ⟨_, _, _, rfl⟩
theorem sum_le {Z : Type} {m : Z → Nat} : ∀ {l : List Z} {ws : List Nat}, ws.length = l.length → (∀ i (h1 : i < l.length) (h2 : i < ws.length), m l[i] ≤ ws[i]) → (l.map m).sum ≤ ws.sum
 | [], _, _, _ => by simp
 | z :: l, [], h, _ => by simp at h
 | z :: l, w :: ws, h, hq => by
  have h0 := hq 0 (by simp) (by simp)
  have h1 := sum_le (l := l) (ws := ws) (m := m) (by simpa using h) (fun i h1 h2 => hq (i + 1) (by simpa using h1) (by simpa using h2))
  rw [List.map_cons, List.sum_cons, List.sum_cons]
  have h0' : m z ≤ w := h0
  omega
theorem dec_sliceW {Z : Type} [Inhabited Z] (toC : Z → List Value) (Q : Z → Prop) (m : Z → Nat) {t e : TypeId} {sz : Nat} {fuel : Nat} {cs : List Value} {x : DataW H × List MemPlace} (ht : P.underlying t = some (.slice e)) (hc : P.cellsOf e = sz) (hs : 0 < sz)
  (hdec : ∀ (n : Nat) (cs : List Value) (y : DataW H × List MemPlace), Reads enc P W n e cs y → ∃ z, cs = toC z ∧ Q z ∧ m z ≤ Rows.uptoBulk y.1) (h : Reads enc P W fuel t cs x) :
  ∃ z : Value × List Z, cs = [z.1] ∧ (∀ h : Hp, Old W h → rdS sz h z.1 z.2.length (z.2.flatMap toC)) ∧ (∀ y ∈ z.2, Q y) ∧ z.2.length + 1 ≤ Rows.uptoBulk x.1 ∧ 1 + (z.2.map m).sum ≤ Rows.uptoBulk x.1 := by
 have hp := bulk_pos x.1
 obtain ⟨z, ws, h1, h2, h3, h4, h5, -, h7⟩ := dec_sliceQV (N := Rows.uptoBulk x.1 - 1) toC (fun B z => Q z ∧ m z ≤ B) ht hc hs hdec h (by omega)
 refine ⟨z, h1, h2, fun y hy => ?_, by omega, ?_⟩
 ·obtain ⟨i, hi, rfl⟩ := List.mem_iff_getElem.1 hy
  exact (h7 i hi (by omega)).1
 ·have := sum_le (m := m) h4 (fun i g1 g2 => (h7 i g1 g2).2)
  omega
theorem rd_shape {sz n : Nat} {v : Value} {ys : List Value} (hr : ∀ h : Hp, Old W h → rdS sz h v n ys) : ∃ a c, v = .slice a n c := by
 have h := hr (fun b => if b < W.heap.size then W.heap[b]? else none) (fun b hb => if_pos hb)
 rcases h with ⟨rfl, -, a, c, rfl⟩ | ⟨b, off, cap, l, T, fr, rfl, -⟩
 ·exact ⟨_, _, rfl⟩
 ·exact ⟨_, _, rfl⟩
end
open Go Go.ChangeShapes Go.WideShapes Go.ChangeAt Go.RowKit
def mAc (a : Ac) : Nat := 3 + a.2.length
theorem sum_mem {α : Type} {m : α → Nat} : ∀ {l : List α} {x : α}, x ∈ l → m x ≤ (l.map m).sum
 | y :: l, x, h => by
  rw [List.map_cons, List.sum_cons]
  rcases List.mem_cons.1 h with rfl | h
  ·omega
  ·have := sum_mem (m := m) h; omega
theorem sum_three {α : Type} {m : α → Nat} (hm : ∀ x, 3 ≤ m x) : ∀ l : List α, 3 * l.length ≤ (l.map m).sum
 | [] => by simp
 | y :: l => by have := sum_three hm l; have := hm y; rw [List.map_cons, List.sum_cons, List.length_cons]; omega
theorem fm_weigh {α : Type} {f : α → Bs} {m : α → Nat} : ∀ {l : List α}, (∀ x ∈ l, (f x).length ≤ 20 * m x) → (l.flatMap f).length ≤ 20 * (l.map m).sum
 | [], _ => by simp
 | y :: l, h => by
  have h1 := h y (List.mem_cons_self ..)
  have h2 := fm_weigh (l := l) (m := m) (f := f) (fun x hx => h x (List.mem_cons_of_mem _ hx))
  rw [List.flatMap_cons, List.length_append, List.map_cons, List.sum_cons]; omega
theorem aclW_of {l : List Ac} (h : ∀ a ∈ l, I64 a.1) (hm : (l.map mAc).sum ≤ 1048576) : AclW l := by
 have hl := sum_three (m := mAc) (fun a => by unfold mAc; omega) l
 have hu : U64 = 18446744073709551616 := rfl
 have hi : ∀ a ∈ l, a.2.length ≤ 1048576 := fun a ha => by
  have h1 := sum_mem (m := mAc) ha
  have h2 : mAc a = 3 + a.2.length := rfl
  omega
 refine ⟨by omega, ?_, fun a ha => ⟨⟨h a ha, by have := hi a ha; omega⟩, hi a ha⟩⟩
 have h3 := fm_weigh (f := acB) (m := mAc) (l := l) (fun a ha => by
  have h1 := numB_len8 (h a ha)
  have h2 := sev_len10 (u := a.2.length) (by have := hi a ha; omega)
  unfold acB txtB cntB mAc
  rw [List.length_append, List.length_append]; omega)
 have h4 := sev_len10 (u := l.length) (by omega)
 unfold aclB cntB
 rw [List.length_append]; omega
instance : Inhabited Pt := ⟨ptS 0 [] [] 0⟩
instance : Inhabited En := ⟨⟨0, 0, 0, ptS 0 [] [] 0, []⟩⟩
instance : Inhabited Rq := ⟨⟨0, 0, [], [], nilV, [], 0, 0, false, nilV, nilV⟩⟩
def mRq (r : Rq) : Nat := 10 + r.path.length + r.data.length + (r.acl.map mAc).sum
structure RqG (p : HP) (r : Rq) : Prop where
 kind : I64 r.kind
 xid : I64 r.xid
 flags : I64 r.flags
 ver : I64 r.ver
 acl : ∀ h : Hp, p h → rdS 2 h r.aclV r.acl.length (r.acl.flatMap acC)
 ash : ∃ a n c, r.aclV = .slice a n c
 each : ∀ a ∈ r.acl, I64 a.1
 sub : ∃ a n c, r.subsV = .slice a n c
 arm : ∃ a n c, r.armV = .slice a n c
structure RqD (p : HP) (r : Rq) (l : List Rq) : Prop where
 own : RqG p r ∧ mRq r ≤ 1048576
 rd : ∀ h : Hp, p h → rdS 10 h r.subsV l.length (l.flatMap rqC)
 each : ∀ x ∈ l, RqG p x ∧ mRq x ≤ 1048576
theorem RqG.w {p : HP} {r : Rq} (h : RqG p r) (hm : mRq r ≤ 1048576) {s : Int} {iv : Value} {ids : List Bs} (hs : I64 s) (hi : Ids p iv ids) (hT : TabP p) : WiA p ⟨s, ids⟩ iv r := by
 unfold mRq at hm
 have h3 := sum_three (m := mAc) (fun a => by unfold mAc; omega) r.acl
 refine ⟨⟨h.kind, h.xid, h.flags, h.ver, by omega, by omega, h.acl, by omega, fun a ha => ⟨h.each a ha, ?_⟩, h.sub, h.arm⟩, hs, hi.1, hi.2.1, hi.2.2, h.ash, hT⟩
 have h1 := sum_mem (m := mAc) ha
 have h2 : mAc a = 3 + a.2.length := rfl
 omega
theorem RqD.wi {p : HP} {r : Rq} {l : List Rq} (h : RqD p r l) {s : Int} {iv : Value} {ids : List Bs} (hs : I64 s) (hi : Ids p iv ids) (hT : TabP p) : WiD p ⟨s, ids⟩ iv r l := by
 have ha : ∀ x : Rq, RqG p x → mRq x ≤ 1048576 → AclW x.acl := fun x hx hm => aclW_of hx.each (by unfold mRq at hm; omega)
 exact ⟨h.own.1.w h.own.2 hs hi hT, ha _ h.own.1 h.own.2, h.rd, fun x hx => (h.each x hx).1.w (h.each x hx).2 hs hi hT, fun x hx => ha _ (h.each x hx).1 (h.each x hx).2⟩
theorem fm_strs (l : List Bs) : (l.flatMap fun s => [vstr s]) = strs l := by
 induction l with
 | nil => rfl
 | cons z l ih => rw [List.flatMap_cons, ih]; rfl
theorem tab_of {W : World} (h : Lib.TabIs Tryz.prog W "internal/strconv.uint64pow10" .u64 Lib.pow10Tab) {g : Nat} (hg : Tryz.prog.globalNamed "internal/strconv.uint64pow10" = some g) : TabP (Old W) := by
 intro hp w hold hle
 unfold Lib.TabIs World.var? at h ⊢
 rw [hg] at h ⊢
 simp only [Option.bind_some] at h ⊢
 cases e : W.heap[g]? with
 | none => rw [e] at h; cases h
 | some o =>
  have hlt : g < W.heap.size := (Array.getElem?_eq_some_iff.1 e).1
  have h2 : w.heap[g]? = some o := hle g o (by rw [hold g hlt, e])
  rw [h2]
  rw [e] at h
  exact h
theorem decAc {H : Type} {enc : TypeId × Value → H} {W : World} (n : Nat) (cs : List Value) (y : DataW H × List MemPlace) (h : Reads enc Tryz.prog W n 85 cs y) : ∃ a : Ac, cs = acC a ∧ I64 a.1 ∧ mAc a ≤ Rows.uptoBulk y.1 := by
 obtain ⟨xs, m, -, rfl, hlen, hxs, hf⟩ := DataW.trod_struct Tryz.underlying85 h
 rw [show Tryz.prog.cellsOf 85 = 2 by kernel_rfl] at hlen
 obtain ⟨a0, a1, rfl⟩ : ∃ a0 a1, cs = [a0, a1] := by
  match cs, hlen with
  | [a0, a1], _ => exact ⟨a0, a1, rfl⟩
 obtain ⟨y0, y1, rfl⟩ : ∃ y0 y1, xs = [y0, y1] := by
  match xs, hxs with
  | [y0, y1], _ => exact ⟨y0, y1, rfl⟩
 try simp only [Rows.uptoBulk, Rows.uptoBulkAll, List.map_cons, List.map_nil]
 have g0 : Reads enc Tryz.prog W m 3 (([a0, a1] : List Value).drop 0 |>.take (Tryz.prog.cellsOf 3)) y0 := hf 0 _ rfl
 rw [show Tryz.prog.cellsOf 3 = 1 by kernel_rfl] at g0
 have p0 := bulk_pos y0.1
 obtain ⟨z0, e0, q0, r0⟩ := dec_intW Tryz.underlying3 g0
 try simp at e0
 have g1 : Reads enc Tryz.prog W m 9 (([a0, a1] : List Value).drop 1 |>.take (Tryz.prog.cellsOf 9)) y1 := hf 1 _ rfl
 rw [show Tryz.prog.cellsOf 9 = 1 by kernel_rfl] at g1
 have p1 := bulk_pos y1.1
 obtain ⟨z1, e1, r1⟩ := dec_strW Tryz.underlying9 g1
 try simp at e1
 subst e0
 subst e1
 exact ⟨(z0, z1), rfl, q0, by unfold mAc; dsimp only; omega⟩
theorem decRq {H : Type} {enc : TypeId × Value → H} {W : World} (n : Nat) (cs : List Value) (y : DataW H × List MemPlace) (h : Reads enc Tryz.prog W n 28 cs y) : ∃ r0 : Rq, cs = rqC r0 ∧ RqG (Old W) r0 ∧ mRq r0 ≤ Rows.uptoBulk y.1 := by
 obtain ⟨xs, m, -, rfl, hlen, hxs, hf⟩ := DataW.trod_struct Tryz.underlying28 h
 rw [show Tryz.prog.cellsOf 28 = 10 by kernel_rfl] at hlen
 obtain ⟨a0, a1, a2, a3, a4, a5, a6, a7, a8, a9, rfl⟩ : ∃ a0 a1 a2 a3 a4 a5 a6 a7 a8 a9, cs = [a0, a1, a2, a3, a4, a5, a6, a7, a8, a9] := by
  match cs, hlen with
  | [a0, a1, a2, a3, a4, a5, a6, a7, a8, a9], _ => exact ⟨a0, a1, a2, a3, a4, a5, a6, a7, a8, a9, rfl⟩
 obtain ⟨y0, y1, y2, y3, y4, y5, y6, y7, y8, y9, rfl⟩ : ∃ y0 y1 y2 y3 y4 y5 y6 y7 y8 y9, xs = [y0, y1, y2, y3, y4, y5, y6, y7, y8, y9] := by
  match xs, hxs with
  | [y0, y1, y2, y3, y4, y5, y6, y7, y8, y9], _ => exact ⟨y0, y1, y2, y3, y4, y5, y6, y7, y8, y9, rfl⟩
 try simp only [Rows.uptoBulk, Rows.uptoBulkAll, List.map_cons, List.map_nil]
 have g0 : Reads enc Tryz.prog W m 3 (([a0, a1, a2, a3, a4, a5, a6, a7, a8, a9] : List Value).drop 0 |>.take (Tryz.prog.cellsOf 3)) y0 := hf 0 _ rfl
 rw [show Tryz.prog.cellsOf 3 = 1 by kernel_rfl] at g0
 have p0 := bulk_pos y0.1
 obtain ⟨z0, e0, q0, r0⟩ := dec_intW Tryz.underlying3 g0
 try simp at e0
 have g1 : Reads enc Tryz.prog W m 3 (([a0, a1, a2, a3, a4, a5, a6, a7, a8, a9] : List Value).drop 1 |>.take (Tryz.prog.cellsOf 3)) y1 := hf 1 _ rfl
 rw [show Tryz.prog.cellsOf 3 = 1 by kernel_rfl] at g1
 have p1 := bulk_pos y1.1
 obtain ⟨z1, e1, q1, r1⟩ := dec_intW Tryz.underlying3 g1
 try simp at e1
 have g2 : Reads enc Tryz.prog W m 9 (([a0, a1, a2, a3, a4, a5, a6, a7, a8, a9] : List Value).drop 2 |>.take (Tryz.prog.cellsOf 9)) y2 := hf 2 _ rfl
 rw [show Tryz.prog.cellsOf 9 = 1 by kernel_rfl] at g2
 have p2 := bulk_pos y2.1
 obtain ⟨z2, e2, r2⟩ := dec_strW Tryz.underlying9 g2
 try simp at e2
 have g3 : Reads enc Tryz.prog W m 9 (([a0, a1, a2, a3, a4, a5, a6, a7, a8, a9] : List Value).drop 3 |>.take (Tryz.prog.cellsOf 9)) y3 := hf 3 _ rfl
 rw [show Tryz.prog.cellsOf 9 = 1 by kernel_rfl] at g3
 have p3 := bulk_pos y3.1
 obtain ⟨z3, e3, r3⟩ := dec_strW Tryz.underlying9 g3
 try simp at e3
 have g4 : Reads enc Tryz.prog W m 24 (([a0, a1, a2, a3, a4, a5, a6, a7, a8, a9] : List Value).drop 4 |>.take (Tryz.prog.cellsOf 24)) y4 := hf 4 _ rfl
 rw [show Tryz.prog.cellsOf 24 = 1 by kernel_rfl] at g4
 have p4 := bulk_pos y4.1
 obtain ⟨⟨v4, l4⟩, e4, k4, q4, c4, r4⟩ := dec_sliceW acC (fun a => I64 a.1) mAc Tryz.underlying24 (show Tryz.prog.cellsOf 85 = 2 by kernel_rfl) (by decide) (fun n cs y h => decAc n cs y h) g4
 dsimp only at e4 k4 q4 c4 r4
 have ck4 : isCell v4 = true := by obtain ⟨sa, sc, hs⟩ := rd_shape k4; rw [hs]; rfl
 have sh4 : ∃ a n c, v4 = .slice a n c := by obtain ⟨sa, sc, hs⟩ := rd_shape k4; exact ⟨_, _, _, hs⟩
 try simp at e4
 have g5 : Reads enc Tryz.prog W m 3 (([a0, a1, a2, a3, a4, a5, a6, a7, a8, a9] : List Value).drop 5 |>.take (Tryz.prog.cellsOf 3)) y5 := hf 5 _ rfl
 rw [show Tryz.prog.cellsOf 3 = 1 by kernel_rfl] at g5
 have p5 := bulk_pos y5.1
 obtain ⟨z5, e5, q5, r5⟩ := dec_intW Tryz.underlying3 g5
 try simp at e5
 have g6 : Reads enc Tryz.prog W m 3 (([a0, a1, a2, a3, a4, a5, a6, a7, a8, a9] : List Value).drop 6 |>.take (Tryz.prog.cellsOf 3)) y6 := hf 6 _ rfl
 rw [show Tryz.prog.cellsOf 3 = 1 by kernel_rfl] at g6
 have p6 := bulk_pos y6.1
 obtain ⟨z6, e6, q6, r6⟩ := dec_intW Tryz.underlying3 g6
 try simp at e6
 have g7 : Reads enc Tryz.prog W m 4 (([a0, a1, a2, a3, a4, a5, a6, a7, a8, a9] : List Value).drop 7 |>.take (Tryz.prog.cellsOf 4)) y7 := hf 7 _ rfl
 rw [show Tryz.prog.cellsOf 4 = 1 by kernel_rfl] at g7
 have p7 := bulk_pos y7.1
 obtain ⟨z7, e7⟩ := dec_bool Tryz.underlying4 g7
 try simp at e7
 have g8 : Reads enc Tryz.prog W m 25 (([a0, a1, a2, a3, a4, a5, a6, a7, a8, a9] : List Value).drop 8 |>.take (Tryz.prog.cellsOf 25)) y8 := hf 8 _ rfl
 rw [show Tryz.prog.cellsOf 25 = 1 by kernel_rfl] at g8
 have p8 := bulk_pos y8.1
 obtain ⟨z8, e8, s8⟩ : ∃ z : Value, a8 = z ∧ ∃ a n c, z = .slice a n c := ⟨_, rfl, slice_shape Tryz.underlying25 g8⟩
 have ck8 : isCell z8 = true := by obtain ⟨sa, sn, sc, hs⟩ := s8; rw [hs]; rfl
 try simp at e8
 have g9 : Reads enc Tryz.prog W m 26 (([a0, a1, a2, a3, a4, a5, a6, a7, a8, a9] : List Value).drop 9 |>.take (Tryz.prog.cellsOf 26)) y9 := hf 9 _ rfl
 rw [show Tryz.prog.cellsOf 26 = 1 by kernel_rfl] at g9
 have p9 := bulk_pos y9.1
 obtain ⟨z9, e9, s9⟩ : ∃ z : Value, a9 = z ∧ ∃ a n c, z = .slice a n c := ⟨_, rfl, slice_shape Tryz.underlying26 g9⟩
 have ck9 : isCell z9 = true := by obtain ⟨sa, sn, sc, hs⟩ := s9; rw [hs]; rfl
 try simp at e9
 subst e0
 subst e1
 subst e2
 subst e3
 subst e4
 subst e5
 subst e6
 subst e7
 subst e8
 subst e9
 exact ⟨⟨z0, z1, z2, z3, a4, l4, z5, z6, z7, a8, a9⟩, rfl, ⟨q0, q1, q5, q6, k4, sh4, q4, s8, s9⟩, by unfold mRq; dsimp only; omega⟩
theorem decRqD {H : Type} {enc : TypeId × Value → H} {W : World} (n : Nat) (cs : List Value) (y : DataW H × List MemPlace) (h : Reads enc Tryz.prog W n 28 cs y) : ∃ (r0 : Rq) (l : List Rq), cs = rqC r0 ∧ (Rows.uptoBulk y.1 ≤ 1048576 → RqD (Old W) r0 l) := by
 obtain ⟨xs, m, -, rfl, hlen, hxs, hf⟩ := DataW.trod_struct Tryz.underlying28 h
 rw [show Tryz.prog.cellsOf 28 = 10 by kernel_rfl] at hlen
 obtain ⟨a0, a1, a2, a3, a4, a5, a6, a7, a8, a9, rfl⟩ : ∃ a0 a1 a2 a3 a4 a5 a6 a7 a8 a9, cs = [a0, a1, a2, a3, a4, a5, a6, a7, a8, a9] := by
  match cs, hlen with
  | [a0, a1, a2, a3, a4, a5, a6, a7, a8, a9], _ => exact ⟨a0, a1, a2, a3, a4, a5, a6, a7, a8, a9, rfl⟩
 obtain ⟨y0, y1, y2, y3, y4, y5, y6, y7, y8, y9, rfl⟩ : ∃ y0 y1 y2 y3 y4 y5 y6 y7 y8 y9, xs = [y0, y1, y2, y3, y4, y5, y6, y7, y8, y9] := by
  match xs, hxs with
  | [y0, y1, y2, y3, y4, y5, y6, y7, y8, y9], _ => exact ⟨y0, y1, y2, y3, y4, y5, y6, y7, y8, y9, rfl⟩
 try simp only [Rows.uptoBulk, Rows.uptoBulkAll, List.map_cons, List.map_nil]
 have g0 : Reads enc Tryz.prog W m 3 (([a0, a1, a2, a3, a4, a5, a6, a7, a8, a9] : List Value).drop 0 |>.take (Tryz.prog.cellsOf 3)) y0 := hf 0 _ rfl
 rw [show Tryz.prog.cellsOf 3 = 1 by kernel_rfl] at g0
 have p0 := bulk_pos y0.1
 obtain ⟨z0, e0, q0, r0⟩ := dec_intW Tryz.underlying3 g0
 try simp at e0
 have g1 : Reads enc Tryz.prog W m 3 (([a0, a1, a2, a3, a4, a5, a6, a7, a8, a9] : List Value).drop 1 |>.take (Tryz.prog.cellsOf 3)) y1 := hf 1 _ rfl
 rw [show Tryz.prog.cellsOf 3 = 1 by kernel_rfl] at g1
 have p1 := bulk_pos y1.1
 obtain ⟨z1, e1, q1, r1⟩ := dec_intW Tryz.underlying3 g1
 try simp at e1
 have g2 : Reads enc Tryz.prog W m 9 (([a0, a1, a2, a3, a4, a5, a6, a7, a8, a9] : List Value).drop 2 |>.take (Tryz.prog.cellsOf 9)) y2 := hf 2 _ rfl
 rw [show Tryz.prog.cellsOf 9 = 1 by kernel_rfl] at g2
 have p2 := bulk_pos y2.1
 obtain ⟨z2, e2, r2⟩ := dec_strW Tryz.underlying9 g2
 try simp at e2
 have g3 : Reads enc Tryz.prog W m 9 (([a0, a1, a2, a3, a4, a5, a6, a7, a8, a9] : List Value).drop 3 |>.take (Tryz.prog.cellsOf 9)) y3 := hf 3 _ rfl
 rw [show Tryz.prog.cellsOf 9 = 1 by kernel_rfl] at g3
 have p3 := bulk_pos y3.1
 obtain ⟨z3, e3, r3⟩ := dec_strW Tryz.underlying9 g3
 try simp at e3
 have g4 : Reads enc Tryz.prog W m 24 (([a0, a1, a2, a3, a4, a5, a6, a7, a8, a9] : List Value).drop 4 |>.take (Tryz.prog.cellsOf 24)) y4 := hf 4 _ rfl
 rw [show Tryz.prog.cellsOf 24 = 1 by kernel_rfl] at g4
 have p4 := bulk_pos y4.1
 obtain ⟨⟨v4, l4⟩, e4, k4, q4, c4, r4⟩ := dec_sliceW acC (fun a => I64 a.1) mAc Tryz.underlying24 (show Tryz.prog.cellsOf 85 = 2 by kernel_rfl) (by decide) (fun n cs y h => decAc n cs y h) g4
 dsimp only at e4 k4 q4 c4 r4
 have ck4 : isCell v4 = true := by obtain ⟨sa, sc, hs⟩ := rd_shape k4; rw [hs]; rfl
 have sh4 : ∃ a n c, v4 = .slice a n c := by obtain ⟨sa, sc, hs⟩ := rd_shape k4; exact ⟨_, _, _, hs⟩
 try simp at e4
 have g5 : Reads enc Tryz.prog W m 3 (([a0, a1, a2, a3, a4, a5, a6, a7, a8, a9] : List Value).drop 5 |>.take (Tryz.prog.cellsOf 3)) y5 := hf 5 _ rfl
 rw [show Tryz.prog.cellsOf 3 = 1 by kernel_rfl] at g5
 have p5 := bulk_pos y5.1
 obtain ⟨z5, e5, q5, r5⟩ := dec_intW Tryz.underlying3 g5
 try simp at e5
 have g6 : Reads enc Tryz.prog W m 3 (([a0, a1, a2, a3, a4, a5, a6, a7, a8, a9] : List Value).drop 6 |>.take (Tryz.prog.cellsOf 3)) y6 := hf 6 _ rfl
 rw [show Tryz.prog.cellsOf 3 = 1 by kernel_rfl] at g6
 have p6 := bulk_pos y6.1
 obtain ⟨z6, e6, q6, r6⟩ := dec_intW Tryz.underlying3 g6
 try simp at e6
 have g7 : Reads enc Tryz.prog W m 4 (([a0, a1, a2, a3, a4, a5, a6, a7, a8, a9] : List Value).drop 7 |>.take (Tryz.prog.cellsOf 4)) y7 := hf 7 _ rfl
 rw [show Tryz.prog.cellsOf 4 = 1 by kernel_rfl] at g7
 have p7 := bulk_pos y7.1
 obtain ⟨z7, e7⟩ := dec_bool Tryz.underlying4 g7
 try simp at e7
 have g8 : Reads enc Tryz.prog W m 25 (([a0, a1, a2, a3, a4, a5, a6, a7, a8, a9] : List Value).drop 8 |>.take (Tryz.prog.cellsOf 25)) y8 := hf 8 _ rfl
 rw [show Tryz.prog.cellsOf 25 = 1 by kernel_rfl] at g8
 have p8 := bulk_pos y8.1
 obtain ⟨⟨v8, l8⟩, e8, k8, q8, c8, r8⟩ := dec_sliceW rqC (fun r => RqG (Old W) r) mRq Tryz.underlying25 (show Tryz.prog.cellsOf 28 = 10 by kernel_rfl) (by decide) (fun n cs y h => decRq n cs y h) g8
 dsimp only at e8 k8 q8 c8 r8
 have ck8 : isCell v8 = true := by obtain ⟨sa, sc, hs⟩ := rd_shape k8; rw [hs]; rfl
 have sh8 : ∃ a n c, v8 = .slice a n c := by obtain ⟨sa, sc, hs⟩ := rd_shape k8; exact ⟨_, _, _, hs⟩
 try simp at e8
 have g9 : Reads enc Tryz.prog W m 26 (([a0, a1, a2, a3, a4, a5, a6, a7, a8, a9] : List Value).drop 9 |>.take (Tryz.prog.cellsOf 26)) y9 := hf 9 _ rfl
 rw [show Tryz.prog.cellsOf 26 = 1 by kernel_rfl] at g9
 have p9 := bulk_pos y9.1
 obtain ⟨z9, e9, s9⟩ : ∃ z : Value, a9 = z ∧ ∃ a n c, z = .slice a n c := ⟨_, rfl, slice_shape Tryz.underlying26 g9⟩
 have ck9 : isCell z9 = true := by obtain ⟨sa, sn, sc, hs⟩ := s9; rw [hs]; rfl
 try simp at e9
 subst e0
 subst e1
 subst e2
 subst e3
 subst e4
 subst e5
 subst e6
 subst e7
 subst e8
 subst e9
 refine ⟨⟨z0, z1, z2, z3, a4, l4, z5, z6, z7, a8, a9⟩, l8, rfl, fun hb => ⟨⟨⟨q0, q1, q5, q6, k4, sh4, q4, sh8, s9⟩, by unfold mRq; dsimp only; omega⟩, k8, fun x hx => ⟨q8 x hx, ?_⟩⟩⟩
 have h6 := sum_mem (m := mRq) hx
 omega
open Go Go.ChangeShapes Go.WideShapes Go.ChangeAt Go.RowKit
instance : Inhabited Wh := ⟨⟨0, false, nilV, [], ⟨0, 0, [], [], nilV, [], 0, 0, false, nilV, nilV⟩, []⟩⟩
theorem sum_at12 {l : List Nat} {i : Nat} (h : i < l.length) : l[i] ≤ l.sum := by
 have := sum_mem (m := id) (l := l) (List.getElem_mem h)
 simpa using this
structure WhQ (p : HP) (w : Wh) : Prop where
 ses : I64 w.ses
 ids : Ids p w.idv w.ids
 r : RqD p w.r w.subs
structure WhsQ (p : HP) (v : Value) (l : List Wh) : Prop where
 cells : ∀ h : Hp, p h → rdS 13 h v l.length (l.flatMap whC)
 len : l.length ≤ 1048576
 each : ∀ w ∈ l, WhQ p w
theorem WhsQ.A {p : HP} {v : Value} {l : List Wh} (h : WhsQ p v l) (hT : TabP p) : WhsA p v l := ⟨h.cells, h.len, fun w hw => ⟨(h.each w hw).ses, fun _ hs => (h.each w hw).r.wi hs (h.each w hw).ids hT⟩⟩
theorem dec_ids0 {H : Type} {enc : TypeId × Value → H} {W : World} {fuel : Nat} {cs : List Value} {x : DataW H × List MemPlace} (h : Reads enc Tryz.prog W fuel 23 cs x) : ∃ (v : Value) (l : List Bs), cs = [v] ∧ (Rows.uptoBulk x.1 ≤ 1048576 → Ids (Old W) v l) := by
 obtain ⟨⟨v, l⟩, h1, h2, h3, h4, h5⟩ := dec_sliceW (fun s : Bs => [vstr s]) (fun _ => True) (fun s => s.length + 1) Tryz.underlying23 (show Tryz.prog.cellsOf 9 = 1 by kernel_rfl) (by decide) (fun n cs y h => by obtain ⟨s, e, hs⟩ := dec_strW Tryz.underlying9 h; exact ⟨s, e, trivial, hs⟩) h
 dsimp only at h1 h2 h3 h4 h5
 refine ⟨v, l, h1, fun hb => ⟨fun h hp => by rw [← fm_strs]; exact h2 h hp, by omega, ?_⟩⟩
 rw [h1] at h
 exact slice_shape Tryz.underlying23 h
theorem decWh {H : Type} {enc : TypeId × Value → H} {W : World} (n : Nat) (cs : List Value) (y : DataW H × List MemPlace) (h : Reads enc Tryz.prog W n 67 cs y) : ∃ w : Wh, cs = whC w ∧ (Rows.uptoBulk y.1 ≤ 1048576 → WhQ (Old W) w) := by
 obtain ⟨xs, m, -, rfl, hlen, hxs, hf⟩ := DataW.trod_struct Tryz.underlying67 h
 rw [show Tryz.prog.cellsOf 67 = 13 by kernel_rfl] at hlen
 obtain ⟨a0, a1, a2, a3, a4, a5, a6, a7, a8, a9, a10, a11, a12, rfl⟩ : ∃ a0 a1 a2 a3 a4 a5 a6 a7 a8 a9 a10 a11 a12, cs = [a0, a1, a2, a3, a4, a5, a6, a7, a8, a9, a10, a11, a12] := by
  match cs, hlen with
  | [a0, a1, a2, a3, a4, a5, a6, a7, a8, a9, a10, a11, a12], _ => exact ⟨a0, a1, a2, a3, a4, a5, a6, a7, a8, a9, a10, a11, a12, rfl⟩
 obtain ⟨y0, y1, y2, y3, rfl⟩ : ∃ y0 y1 y2 y3, xs = [y0, y1, y2, y3] := by
  match xs, hxs with
  | [y0, y1, y2, y3], _ => exact ⟨y0, y1, y2, y3, rfl⟩
 try simp only [Rows.uptoBulk, Rows.uptoBulkAll, List.map_cons, List.map_nil]
 have g0 : Reads enc Tryz.prog W m 3 (([a0, a1, a2, a3, a4, a5, a6, a7, a8, a9, a10, a11, a12] : List Value).drop 0 |>.take (Tryz.prog.cellsOf 3)) y0 := hf 0 _ rfl
 rw [show Tryz.prog.cellsOf 3 = 1 by kernel_rfl] at g0
 have p0 := bulk_pos y0.1
 obtain ⟨z0, e0, q0, r0⟩ := dec_intW Tryz.underlying3 g0
 try simp at e0
 have g1 : Reads enc Tryz.prog W m 4 (([a0, a1, a2, a3, a4, a5, a6, a7, a8, a9, a10, a11, a12] : List Value).drop 1 |>.take (Tryz.prog.cellsOf 4)) y1 := hf 1 _ rfl
 rw [show Tryz.prog.cellsOf 4 = 1 by kernel_rfl] at g1
 have p1 := bulk_pos y1.1
 obtain ⟨z1, e1⟩ := dec_bool Tryz.underlying4 g1
 try simp at e1
 have g2 : Reads enc Tryz.prog W m 23 (([a0, a1, a2, a3, a4, a5, a6, a7, a8, a9, a10, a11, a12] : List Value).drop 2 |>.take (Tryz.prog.cellsOf 23)) y2 := hf 2 _ rfl
 rw [show Tryz.prog.cellsOf 23 = 1 by kernel_rfl] at g2
 have p2 := bulk_pos y2.1
 obtain ⟨v2, l2, e2, q2⟩ := dec_ids0 g2
 try simp at e2
 have g3 : Reads enc Tryz.prog W m 28 (([a0, a1, a2, a3, a4, a5, a6, a7, a8, a9, a10, a11, a12] : List Value).drop 3 |>.take (Tryz.prog.cellsOf 28)) y3 := hf 3 _ rfl
 rw [show Tryz.prog.cellsOf 28 = 10 by kernel_rfl] at g3
 have p3 := bulk_pos y3.1
 obtain ⟨r3, l3, e3, q3⟩ := decRqD _ _ _ g3
 try simp [ptC, enC, rqC] at e3
 subst e0
 subst e1
 subst e2
 obtain ⟨rfl, rfl, rfl, rfl, rfl, rfl, rfl, rfl, rfl, rfl⟩ := e3
 exact ⟨⟨z0, z1, a2, l2, r3, l3⟩, rfl, fun hb => ⟨q0, q2 (by omega), q3 (by omega)⟩⟩
theorem dec_whs12 {H : Type} {enc : TypeId × Value → H} {W : World} {fuel : Nat} {cs : List Value} {x : DataW H × List MemPlace} (h : Reads enc Tryz.prog W fuel 62 cs x) (hb : Rows.uptoBulk x.1 ≤ 1048576) : ∃ (v : Value) (xs : List Wh), cs = [v] ∧ WhsQ (Old W) v xs := by
 obtain ⟨⟨v, xs⟩, ws, h1, h2, h3, h4, h5, -, h7⟩ := dec_sliceQV (N := 1048576) whC (fun B o => B ≤ 1048576 → WhQ (Old W) o) Tryz.underlying62 (show Tryz.prog.cellsOf 67 = 13 by kernel_rfl) (by decide) (fun n cs y h => decWh n cs y h) h (by omega)
 dsimp only at h1 h2 h3 h4 h7
 refine ⟨v, xs, h1, h2, h3, fun o ho => ?_⟩
 obtain ⟨i, hi, rfl⟩ := List.mem_iff_getElem.1 ho
 have hw : i < ws.length := by omega
 exact h7 i hi hw (Nat.le_trans (sum_at12 hw) h5)
end Go.Proofs.YtkjlihfalfbmjaaGreatDoor
