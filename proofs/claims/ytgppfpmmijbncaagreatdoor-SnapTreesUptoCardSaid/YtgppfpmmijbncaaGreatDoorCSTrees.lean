/- Own work: snapTrees.proved: the given second form, from the walk in the other texts, for arguments of bounded bulk. -/
import Derived.Test.YtgppfpmmijbncaaGreatDoorCSTreesP3
import Derived.Test.YtgppfpmmijbncaaGreatDoorCSTreesP2
import Derived.Test.YtgppfpmmijbncaaGreatDoorCSTreesP1
import Derived.Test.YtgppfpmmijbncaaGreatDoorCSTreesP0
import Derived.Test.YtgppfpmmijbncaaGreatDoorRows
import Derived.WalkKit
import Derived.ProofKit
import Derived.OpenShut
import Derived.JoinedCond
import Derived.Carry
import Derived.Deep.Grids
import Derived.Handed
import Derived.Deep.Strs
import Derived.Test.YtgppfpmmijbncaaGreatDoorCards
import Derived.Test.YtgppfpmmijbncaaGreatDoorTie
import Derived.Deep.DeepHandedRow
import Derived.Lib.LaidTab
set_option maxRecDepth 100000
namespace Go.Proofs.YtgppfpmmijbncaaGreatDoor
open Go
theorem rfnumN_spec (r : Nat) (st : Rs) : Fn Tryz.prog 101 #[vptr r] [rfR r st] fun v L => v = vint (numR st).1 ∧ L = [rfR r (numR st).2] := rfnum_spec r st
theorem rftxtN_spec (r : Nat) (st : Rs) : Fn Tryz.prog 100 #[vptr r, vint 4096] [rfR r st] fun v L => v = vstr (txtR st).1 ∧ L = [rfR r (txtR st).2] := rftext_spec r 4096 (by decide) st
theorem rftxt4_spec (r : Nat) (st : Rs) : Fn Tryz.prog 100 #[vptr r, vint 4] [rfR r st] fun v L => v = vstr (txt4R st).1 ∧ L = [rfR r (txt4R st).2] := rftext_spec r 4 (by decide) st
theorem rfcntN_spec (r : Nat) (st : Rs) : Fn Tryz.prog 102 #[vptr r, vint 256] [rfR r st] fun v L => v = vint ((cntR st).1 : Nat) ∧ L = [rfR r (cntR st).2] := rfcount_spec r 256 (by decide) st
theorem stW_iff {s : Bs} {k : Nat} {e : Int} {st : Rs} (h : stW s k e = st) : e = 0 ↔ st ≠ none := by
 subst h
 unfold stW
 split
 ·rename_i h; exact ⟨fun _ => by simp, fun _ => h⟩
 ·rename_i h; exact ⟨fun g => absurd g h, fun g => absurd rfl g⟩
theorem many_fail {α : Type} {f : Rn α} (hs : Strict f) : ∀ (n j : Nat) (st : Rs), j ≤ n → (manyR f j st).2 = none → (manyR f n st).2 = none
 | 0, j, st, hj, h => by
  have : j = 0 := by omega
  subst this; exact h
 | n + 1, j, st, hj, h => by
  by_cases e : j = n + 1
  ·subst e; exact h
  ·show (f (manyR f n st).2).2 = none
   rw [many_fail hs n j st (by omega) h]; exact hs
theorem ints_getD {l : List Int} {c : Nat} (h : c < l.length) : (ints l)[c]? = some (vint (l.getD c 0)) := by simp [ints, h]
theorem seven_set {l : List Int} {k : Nat} (hk : k < 7) (hl : l.length = k) (n : Int) : (ints l ++ List.replicate (7 - k) (vint 0)).set (k * 1) (vint n) = ints (l ++ [n]) ++ List.replicate (7 - (k + 1)) (vint 0) := by
 have e : List.replicate (7 - k) (vint 0) = vint 0 :: List.replicate (7 - (k + 1)) (vint 0) := by rw [show 7 - k = (7 - (k + 1)) + 1 by omega]; rfl
 rw [e, Nat.mul_one, List.set_append_right _ _ (by simp [ints]; omega)]
 have : k - (ints l).length = 0 := by simp [ints]; omega
 rw [this]
 simp [ints]
theorem take_same8 {st : Rs} {l : List Ac} (h : l = (manyR acR (cntR (txtR (txtR st).2).2).1 (cntR (txtR (txtR st).2).2).2).1) : (((txtR st).1, (⟨(txtR (txtR st).2).1, l, st7 (manyR numR 7 (manyR acR (cntR (txtR (txtR st).2).2).1 (cntR (txtR (txtR st).2).2).2).2).1⟩ : Nd)) : PN) = (ndR st).1 := by rw [h]; rfl
theorem G.rfCastS {W : World} {n : Nat} {ds : List Deferred} {E : Env} {L R : List HP} {X : Act → World → Prop} {r : Nat} {st st' : Rs} (hL : Pick (rfR r st) L R) (hw : st = st') (h : G W n ds E (rfR r st' :: R) X) : G W n ds E L X := by
 subst hw; exact G.focus hL h
structure TakeZ (st : Rs) (z : Rno) : Prop where
 path : z.1 = (txtR st).1
 few : z.2.2.acl.length ≤ 256
 cell : isCell z.2.1 = true
 all : (ndR st).2 ≠ none → (z.1, z.2.2) = (ndR st).1
theorem rtake_spec (r : Nat) (st : Rs) : Fn Tryz.prog 103 #[vptr r] [rfR r st] fun v L => ∃ z : Rno, v = .agg (rnC z).toArray ∧ TakeZ st z ∧ L = [rfR r (ndR st).2, inA z] := by
 refine Fn.intro Tryz.func103 rfl rfl fun F W => ?_
 obtain ⟨na, hna⟩ : ∃ n, n = (cntR (txtR (txtR st).2).2).1 := ⟨_, rfl⟩
 have hna2 : na ≤ 256 := by rw [hna]; exact cntR_le _
 refine .sr (.oq (.allocA ze_129) ?_)
 rintro v L' ⟨b2, rfl, rfl⟩
 refine .nt (.sr (.q (.to (v' := .agg ([vstr [], vstr [], .slice none 0 0, vint 0, vint 0, vint 0, vint 0, vint 0, vint 0, vint 0, vint 0, vint 0] : List Value).toArray) (.buildN (pl := [(0, 1), (1, 1), (2, 1), (3, 9)]) (us := []) (cells := [vstr [], vstr [], .slice none 0 0, vint 0, vint 0, vint 0, vint 0, vint 0, vint 0, vint 0, vint 0, vint 0]) Tryz.underlying129 (by kernel_rfl) ze_129 rfl rfl) rfl) rfl (.oq (.allocA ze_129) ?_)))
 rintro v L' ⟨b3, rfl, rfl⟩
 refine .oq (.storeA rfl rfl ?c6 sz_129 ?c9 ?c7 (nfz0 _ _)) ?_
 case c6 => simp [isCell]
 case c9 => rfl
 case c7 => simp
 rintro v L' rfl
 refine .nil (.ptCast (b := b3) (l' := [vstr [], vstr [], .slice none 0 0, vint 0, vint 0, vint 0, vint 0, vint 0, vint 0, vint 0, vint 0, vint 0]) (by repeat' constructor) rfl (.then_n (.sm rfl (.cv Tryz.func100 [_, _] (rftxtN_spec r st) ?_))))
 refine .u (.fieldAddr rfl fo_129_0) (.st rfl rfl rfl sz_9 ?_)
 refine .nt (.sm rfl (.cv Tryz.func100 [_, _] (rftxtN_spec r (txtR st).2) ?_))
 refine .u (.fieldAddr rfl fo_129_1) (.st rfl rfl rfl sz_9 ?_)
 refine .nil (.ptCast (b := b3) (l' := [vstr (txtR st).1, vstr (txtR (txtR st).2).1, .slice none 0 0, vint 0, vint 0, vint 0, vint 0, vint 0, vint 0, vint 0, vint 0, vint 0]) (by repeat' constructor) rfl (.then_n (.sm rfl (.oq (.c Tryz.func102 [_, _] (rfcntN_spec r (txtR (txtR st).2).2)) ?_))))
 rintro v L' ⟨rfl, rfl⟩; rw [show (cntR (txtR (txtR st).2).2).1 = na from hna.symm]
 refine .a rfl (.nil (.add (slR_nil 90 2) (.then_n (.seq (.joinK (ι := Value × (List Ac)) (fun q E => E) (fun q => [rfR r (manyR acR (cntR (txtR (txtR st).2).2).1 (cntR (txtR (txtR st).2).2).2).2, ptc b3 ([vstr (txtR st).1, vstr (txtR (txtR st).2).1, q.1, vint 0, vint 0, vint 0, vint 0, vint 0, vint 0, vint 0, vint 0, vint 0]) 129, slR 90 2 q.1 q.2.length (q.2.flatMap acC)]) (fun q => (∃ a c, q.1 = .slice a q.2.length c) ∧ q.2.length ≤ 256 ∧ ((manyR acR (cntR (txtR (txtR st).2).2).1 (cntR (txtR (txtR st).2).2).2).2 ≠ none → q.2 = (manyR acR (cntR (txtR (txtR st).2).2).1 (cntR (txtR (txtR st).2).2).2).1)) (pre := [rfR r (cntR (txtR (txtR st).2).2).2, ptc b3 ([vstr (txtR st).1, vstr (txtR (txtR st).2).1, .slice none 0 0, vint 0, vint 0, vint 0, vint 0, vint 0, vint 0, vint 0, vint 0, vint 0]) 129, slR 90 2 (.slice none 0 0) 0 []]) (ts := [0, 2, 3]) (.cons rfl (.cons rfl (.cons rfl (.nil)))) (by repeat' constructor) ?_ ?_)))))
 ·refine .sr (.an rfl (.block (.loopK (ι := Nat × Value) (fun q E => (5, vint q.1) :: E) (fun q => [rfR r (manyR acR q.1 (cntR (txtR (txtR st).2).2).2).2, ptc b3 ([vstr (txtR st).1, vstr (txtR (txtR st).2).1, q.2, vint 0, vint 0, vint 0, vint 0, vint 0, vint 0, vint 0, vint 0, vint 0]) 129, slR 90 2 q.2 q.1 ((manyR acR q.1 (cntR (txtR (txtR st).2).2).2).1.flatMap acC)]) (fun q => q.1 ≤ na ∧ ∃ a c, q.2 = .slice a q.1 c) (fun q => na - q.1) (0, .slice none 0 0) (ts := [0, 2, 3, 4]) (.cons rfl (.cons rfl (.cons rfl (.cons rfl (.nil))))) (⟨Nat.zero_le _, none, 0, rfl⟩) ⟨rfl, rfl, rfl, rfl, rfl, trivial⟩ (by repeat' constructor) ?_)))
  rintro ⟨i, u⟩ ⟨hi, au, cu, hu⟩
  dsimp only
  dsimp only at hi hu
  subst hu
  refine .seq (.sm rfl (.m rfl (.ui rfl rfl rfl (.m rfl (.dec (t := 22) rfl (fun h6_22 => ?_) (fun h6_22 => ?_))))))
  ·refine .kDT (t := 21) rfl h6_22 (.rfLook (by repeat' constructor) fun s k e hst hkl hsz => ?_)
   have hee := stW_iff hst
   refine .grun (t := 22) rfl rfl rfl (.m rfl (.grun (t := 22) rfl rfl rfl (.u (.nilp rfl) (.grun (t := 22) rfl rfl rfl (.u (.fieldAddr rfl fo_175_2) (.grun (t := 22) rfl rfl rfl (.u (.ld rfl ag_31) (.grun (t := 22) rfl rfl rfl (.ui rfl rfl rfl (.u (.pickT rfl rfl) (.nil (.rfFold (r := r) s k e (by repeat' constructor) rfl hkl hsz (.rfUpF (by repeat' constructor) hst (.then_n (.condD rfl (fun h28 => ?_) (fun h28 => ?_))))))))))))))))
   ·refine .sk (.seq (.block (.sm rfl (.cv Tryz.func101 [_] (rfnumN_spec r _) ?_))))
    refine .an rfl (.sm rfl (.cv Tryz.func100 [_, _] (rftxtN_spec r _) ?_))
    refine .an rfl (.region (.u (.fieldAddr rfl fo_129_2) (.u (.ld rfl ag_34) (.m rfl (.m rfl (.q (.to (v' := .agg (acC (acR (manyR acR i (cntR (txtR (txtR st).2).2).2).2).1).toArray) (.build (us := [(0, _), (1, _)]) fl_90 ze_90 rfl rfl (by simp [isCell])) rfl) rfl (.oq (.buildSlice (vs := [_]) el_34 ze_90 rfl rfl rfl rfl (by first | (simp [Value.cells]; done) | (intro v hv; simp only [List.mem_cons, List.not_mem_nil, or_false] at hv; (repeat (first | (subst hv; rfl) | (rcases hv with hv | hv; (subst hv; rfl)))))) (by decide)) ?_)))))))
    rintro v L' ⟨b19, rfl, rfl⟩
    refine .oq (.append1 rfl rfl rfl el_34 ze_90 rfl rfl ?c48 ?c49 (Nat.le_refl _) ?c50 (by decide)) ?_
    case c48 => simp only [List.map_cons, List.map_nil, List.flatten_cons, List.flatten_nil, List.append_nil]; simp [Value.cells, acC, isCell]
    case c49 => rfl
    case c50 => omega
    rintro v L' ⟨⟨a5, c5, rfl⟩, rfl⟩
    refine .u (.fieldAddr rfl fo_129_2) (.oq (.store rfl rfl rfl sz_34 ?c54 (nfz0 _ _)) ?_)
    case c54 => simp
    rintro v L' rfl
    refine .nil (.blk_n (.then_n (.region (.m rfl (.q (.add rfl rfl (by omega)) rfl (.an rfl (.slCast (T := 90) (sz := 2) (m' := i + 1) (xs' := (manyR acR (i + 1) (cntR (txtR (txtR st).2).2).2).1.flatMap acC) (by repeat' constructor) (by exact rfl) (by show _ = ((manyR acR i (cntR (txtR (txtR st).2).2).2).1 ++ [_]).flatMap acC; rw [List.flatMap_append]; simp [Value.cells, acC]) (.ptCast (b := b3) (l' := [vstr (txtR st).1, vstr (txtR (txtR st).2).1, .slice a5 (i + 1) c5, vint 0, vint 0, vint 0, vint 0, vint 0, vint 0, vint 0, vint 0, vint 0]) (by repeat' constructor) rfl ?_))))))))
    exact .rk ((i + 1, .slice a5 (i + 1) c5)) (⟨by dsimp only; omega, _, _, rfl⟩) (by dsimp only; omega) ⟨rfl, rfl, rfl, rfl, rfl, trivial⟩
   refine .exit (.then_e (.then_e (.blk_e (.then_n ?_))))
   have hsl : (manyR acR i (cntR (txtR (txtR st).2).2).2).1.length = i := manyL _ _ _
   have hsn : (manyR acR i (cntR (txtR (txtR st).2).2).2).2 = none := by apply Classical.byContradiction; intro g; exact h28 (hee.2 g)
   have hs4 : (manyR acR (cntR (txtR (txtR st).2).2).1 (cntR (txtR (txtR st).2).2).2).2 = none := many_fail strict_ac _ i _ (by omega) hsn
   refine .rfCastS (st' := (manyR acR (cntR (txtR (txtR st).2).2).1 (cntR (txtR (txtR st).2).2).2).2) (by repeat' constructor) (by rw [hsn, hs4]) (.slCast (T := 90) (sz := 2) (m' := (manyR acR i (cntR (txtR (txtR st).2).2).2).1.length) (xs' := (manyR acR i (cntR (txtR (txtR st).2).2).2).1.flatMap acC) (by repeat' constructor) hsl.symm rfl ?_)
   exact .mk ((.slice au i cu, (manyR acR i (cntR (txtR (txtR st).2).2).2).1)) (⟨⟨au, cu, by dsimp only; rw [hsl]⟩, by dsimp only; omega, fun g => absurd hs4 g⟩) ⟨rfl, rfl, rfl, trivial⟩
  refine .kDF (t := 21) rfl h6_22 (.gk (.gk (.gk (.gk (.gk (.u (.pickF rfl rfl) (.nt (.condF rfl (.exit (.then_e (.then_e (.blk_e (.then_n ?_)))))))))))))
  have hii : i = na := by omega
  have hsl : (manyR acR i (cntR (txtR (txtR st).2).2).2).1.length = i := manyL _ _ _
  refine .rfCastS (st' := (manyR acR (cntR (txtR (txtR st).2).2).1 (cntR (txtR (txtR st).2).2).2).2) (by repeat' constructor) (by rw [hii, hna]) (.slCast (T := 90) (sz := 2) (m' := (manyR acR i (cntR (txtR (txtR st).2).2).2).1.length) (xs' := (manyR acR i (cntR (txtR (txtR st).2).2).2).1.flatMap acC) (by repeat' constructor) hsl.symm rfl ?_)
  exact .mk ((.slice au i cu, (manyR acR i (cntR (txtR (txtR st).2).2).2).1)) (⟨⟨au, cu, by dsimp only; rw [hsl]⟩, by dsimp only; omega, fun _ => by dsimp only; rw [hii, hna]⟩) ⟨rfl, rfl, rfl, trivial⟩
 rintro ⟨u, l⟩ ⟨⟨au, cu, hu⟩, hl256, hlA⟩
 dsimp only
 dsimp only at hu hl256 hlA
 subst hu
 refine .sr (.oq (.make rfl rfl el_45 ze_3 rfl ⟨by simp, by simp; rfl⟩ ?c60) ?_)
 case c60 => omega
 rintro v L' ⟨b7, rfl, rfl⟩
 refine .an rfl (.seq (.seq (.slMake (b := b7) (n := 7) (c := 7) (xs := (ints (manyR numR 0 (manyR acR (cntR (txtR (txtR st).2).2).1 (cntR (txtR (txtR st).2).2).2).2).1 ++ List.replicate (7 - 0) (vint 0))) (by repeat' constructor) (by decide) (by simp) (by simp [manyR]) (.region (.an rfl (.block (.loopK (ι := Nat) (fun q E => (9, vint q) :: E) (fun q => [rfR r (manyR numR q (manyR acR (cntR (txtR (txtR st).2).2).1 (cntR (txtR (txtR st).2).2).2).2).2, slR 3 1 (.slice (some ⟨b7, 0, none⟩) 7 7) 7 (ints (manyR numR q (manyR acR (cntR (txtR (txtR st).2).2).1 (cntR (txtR (txtR st).2).2).2).2).1 ++ List.replicate (7 - q) (vint 0))]) (fun q => q ≤ 7) (fun q => 7 - q) (0) (ts := [0, 2, 3, 8]) (.cons rfl (.cons rfl (.cons rfl (.cons rfl (.nil))))) (Nat.zero_le _) ⟨rfl, rfl, rfl, rfl, rfl, trivial⟩ (by repeat' constructor) ?_)))))))
 rintro k hk
 refine .seq (.sm rfl (.ui rfl rfl rfl (.nt (.condD rfl (fun h45 => ?_) (fun h45 => ?_)))))
 ·have hk2 : k < 7 := by omega
  refine .sk (.seq (.block (.region (.m rfl (.m rfl (.m rfl (.cv Tryz.func101 [_] (rfnumN_spec r _) ?_)))))))
  refine .q (.indexAddr rfl rfl el_45 (by omega)) rfl (.oq (.storeRd (sz := 1) (j := k * 1) rfl rfl rfl sz_3 ?ho72 ?hi73) ?_)
  case ho72 => omega
  case hi73 => omega
  rintro v L' rfl
  refine .nil (.blk_n (.then_n (.region (.m rfl (.q (.add rfl rfl (by omega)) rfl (.an rfl (.slCast (T := 3) (sz := 1) (m' := 7) (xs' := (ints (manyR numR (k + 1) (manyR acR (cntR (txtR (txtR st).2).2).1 (cntR (txtR (txtR st).2).2).2).2).1 ++ List.replicate (7 - (k + 1)) (vint 0))) (by repeat' constructor) rfl (seven_set hk2 (manyL _ _ _) _) ?_)))))))
  exact .rk (k + 1) (by omega) (by omega) ⟨rfl, rfl, rfl, rfl, rfl, trivial⟩
 have hkk : k = 7 := by omega
 subst hkk
 have h7 : (manyR numR 7 (manyR acR (cntR (txtR (txtR st).2).2).1 (cntR (txtR (txtR st).2).2).2).2).1.length = 7 := manyL _ _ _
 refine .slCast (T := 3) (sz := 1) (m' := 7) (xs' := ints (manyR numR 7 (manyR acR (cntR (txtR (txtR st).2).2).1 (cntR (txtR (txtR st).2).2).2).2).1) (by repeat' constructor) rfl (by simp) (.exit (.then_e (.then_e (.blk_e (.then_n (.seq (.draw [23] [[0, 1, 2, 3, 4, 5, 6, 7, 8, 9, 10, 11, 12, 13, 14, 15, 16, 17, 18, 19, 20, 21, 22, 23]] mixed (by kernel_rfl) (.g0 (.mv rfl rfl (.kv rfl (.indexAddr rfl rfl el_45 (by omega)) (.kv rfl (.loadRd (sz := 1) (j := 0) (p := slR 3 1 _ 7 (ints (manyR numR 7 (manyR acR (cntR (txtR (txtR st).2).2).1 (cntR (txtR (txtR st).2).2).2).2).1)) (v := vint ((manyR numR 7 (manyR acR (cntR (txtR (txtR st).2).2).1 (cntR (txtR (txtR st).2).2).2).2).1.getD 0 0)) rfl ag_3 (by repeat' constructor) (fun h hp => slR_rd hp) (by omega) (ints_getD (by rw [h7]; decide))) (.mv rfl rfl ?_))))))))))))
 refine D.kv rfl (.indexAddr rfl rfl el_45 (by omega)) (.kv rfl (.loadRd (sz := 1) (j := 1) (p := slR 3 1 _ 7 (ints (manyR numR 7 (manyR acR (cntR (txtR (txtR st).2).2).1 (cntR (txtR (txtR st).2).2).2).2).1)) (v := vint ((manyR numR 7 (manyR acR (cntR (txtR (txtR st).2).2).1 (cntR (txtR (txtR st).2).2).2).2).1.getD 1 0)) rfl ag_3 (by repeat' constructor) (fun h hp => slR_rd hp) (by omega) (ints_getD (by rw [h7]; decide))) (.mv rfl rfl (.kv rfl (.indexAddr rfl rfl el_45 (by omega)) (.kv rfl (.loadRd (sz := 1) (j := 2) (p := slR 3 1 _ 7 (ints (manyR numR 7 (manyR acR (cntR (txtR (txtR st).2).2).1 (cntR (txtR (txtR st).2).2).2).2).1)) (v := vint ((manyR numR 7 (manyR acR (cntR (txtR (txtR st).2).2).1 (cntR (txtR (txtR st).2).2).2).2).1.getD 2 0)) rfl ag_3 (by repeat' constructor) (fun h hp => slR_rd hp) (by omega) (ints_getD (by rw [h7]; decide))) ?_))))
 refine D.mv rfl rfl (.kv rfl (.indexAddr rfl rfl el_45 (by omega)) (.kv rfl (.loadRd (sz := 1) (j := 3) (p := slR 3 1 _ 7 (ints (manyR numR 7 (manyR acR (cntR (txtR (txtR st).2).2).1 (cntR (txtR (txtR st).2).2).2).2).1)) (v := vint ((manyR numR 7 (manyR acR (cntR (txtR (txtR st).2).2).1 (cntR (txtR (txtR st).2).2).2).2).1.getD 3 0)) rfl ag_3 (by repeat' constructor) (fun h hp => slR_rd hp) (by omega) (ints_getD (by rw [h7]; decide))) (.mv rfl rfl (.kv rfl (.indexAddr rfl rfl el_45 (by omega)) (.kv rfl (.loadRd (sz := 1) (j := 4) (p := slR 3 1 _ 7 (ints (manyR numR 7 (manyR acR (cntR (txtR (txtR st).2).2).1 (cntR (txtR (txtR st).2).2).2).2).1)) (v := vint ((manyR numR 7 (manyR acR (cntR (txtR (txtR st).2).2).1 (cntR (txtR (txtR st).2).2).2).2).1.getD 4 0)) rfl ag_3 (by repeat' constructor) (fun h hp => slR_rd hp) (by omega) (ints_getD (by rw [h7]; decide))) ?_)))))
 refine D.mv rfl rfl (.kv rfl (.indexAddr rfl rfl el_45 (by omega)) (.kv rfl (.loadRd (sz := 1) (j := 5) (p := slR 3 1 _ 7 (ints (manyR numR 7 (manyR acR (cntR (txtR (txtR st).2).2).1 (cntR (txtR (txtR st).2).2).2).2).1)) (v := vint ((manyR numR 7 (manyR acR (cntR (txtR (txtR st).2).2).1 (cntR (txtR (txtR st).2).2).2).2).1.getD 5 0)) rfl ag_3 (by repeat' constructor) (fun h hp => slR_rd hp) (by omega) (ints_getD (by rw [h7]; decide))) (.mv rfl rfl (.kv rfl (.indexAddr rfl rfl el_45 (by omega)) (.kv rfl (.loadRd (sz := 1) (j := 6) (p := slR 3 1 _ 7 (ints (manyR numR 7 (manyR acR (cntR (txtR (txtR st).2).2).1 (cntR (txtR (txtR st).2).2).2).2).1)) (v := vint ((manyR numR 7 (manyR acR (cntR (txtR (txtR st).2).2).1 (cntR (txtR (txtR st).2).2).2).2).1.getD 6 0)) rfl ag_3 (by repeat' constructor) (fun h hp => slR_rd hp) (by omega) (ints_getD (by rw [h7]; decide))) ?_)))))
 refine D.kv rfl (.to (v' := .agg (stC (st7 (manyR numR 7 (manyR acR (cntR (txtR (txtR st).2).2).1 (cntR (txtR (txtR st).2).2).2).2).1)).toArray) (.build (us := [(0, _), (1, _), (2, _), (3, _), (4, _), (5, _), (6, _)]) fl_92 ze_92 rfl rfl (by simp [isCell])) rfl) (.kv rfl (.fieldAddr rfl fo_129_3) (.hh rfl (.storeA rfl rfl ?c100 sz_92 ?c103 ?c101 (nfz0 _ _)) ?_))
 case c100 => intro v hv; simp only [stC, List.mem_cons, List.not_mem_nil, or_false] at hv; rcases hv with rfl | rfl | rfl | rfl | rfl | rfl | rfl | rfl | rfl <;> rfl
 case c103 => rfl
 case c101 => simp [stC]
 rintro v L' rfl
 refine D.ph (.fin (.ptCast (b := b3) (l' := rnC (((txtR st).1, (.slice au l.length cu, (⟨(txtR (txtR st).2).1, l, st7 (manyR numR 7 (manyR acR (cntR (txtR (txtR st).2).2).1 (cntR (txtR (txtR st).2).2).2).2).1⟩ : Nd))) : Rno)) (by repeat' constructor) rfl (.then_n (.sr (.q (.loadAs (vs := rnC (((txtR st).1, (.slice au l.length cu, (⟨(txtR (txtR st).2).1, l, st7 (manyR numR 7 (manyR acR (cntR (txtR (txtR st).2).2).1 (cntR (txtR (txtR st).2).2).2).2).1⟩ : Nd))) : Rno)) rfl ag_129 (by repeat' constructor) (by simp [rnC]) rfl) rfl (.oq (.storeA rfl rfl ?c106 sz_129 ?c109 ?c107 (nfz0 _ _)) ?_))))))
 case c106 => exact rn_cells rfl
 case c109 => rfl
 case c107 => simp [rnC]
 rintro v L' rfl
 refine .nt (.ret (.ptCast (b := b2) (l' := rnC (((txtR st).1, (.slice au l.length cu, (⟨(txtR (txtR st).2).1, l, st7 (manyR numR 7 (manyR acR (cntR (txtR (txtR st).2).2).1 (cntR (txtR (txtR st).2).2).2).2).1⟩ : Nd))) : Rno)) (by repeat' constructor) (by exact rfl) (.toRd (m := l.length) (by repeat' constructor) ?_)))
 exact .d1 rfl (.cellA rfl ag_129 (by repeat' constructor) (by simp [rnC]) rfl) ⟨(((txtR st).1, (.slice au l.length cu, (⟨(txtR (txtR st).2).1, l, st7 (manyR numR 7 (manyR acR (cntR (txtR (txtR st).2).2).1 (cntR (txtR (txtR st).2).2).2).2).1⟩ : Nd))) : Rno), rfl, ⟨rfl, hl256, rfl, fun g => by rw [take_same8 (hlA (fun e => g (by show (manyR numR 7 (manyR acR (cntR (txtR (txtR st).2).2).1 (cntR (txtR (txtR st).2).2).2).2).2 = none; rw [e]; exact many_ne (.run _ _) 7)))]⟩, rfl⟩
def r3Z (s : Bs) : Rs := (cntR (numR (txt4R (some s)).2).2).2
def rmZ (s : Bs) : Nat := (cntR (numR (txt4R (some s)).2).2).1
structure Ref8 (s : Bs) (τ : Tr) : Prop where
 head : (txt4R (some s)).1 = headB
 zx : τ.zx = (numR (txt4R (some s)).2).1
 m : τ.nodes.length = rmZ s
 n : manyR ndR (rmZ s) (r3Z s) = (τ.nodes, (manyR ndR (rmZ s) (r3Z s)).2)
 n4 : (manyR ndR (rmZ s) (r3Z s)).2 ≠ none
 okn : okN τ.nodes
 ne : τ.nodes ≠ []
 k : τ.sess.length = (cntR (manyR ndR (rmZ s) (r3Z s)).2).1
 ss : manyR ssR (cntR (manyR ndR (rmZ s) (r3Z s)).2).1 (cntR (manyR ndR (rmZ s) (r3Z s)).2).2 = (τ.sess, some [])
 oks : okS τ.sess
theorem ref8_iff {s : Bs} {τ : Tr} : readZ s = some τ ↔ Ref8 s τ := by
 rw [read_good]
 constructor
 ·rintro ⟨hN, hS, hne, r1, r2, r3, r4, r5, h1, h2, h3, h4, h5, h6⟩
  have eM : rmZ s = τ.nodes.length := by unfold rmZ; rw [h1, h2]; dsimp only; rw [h3]
  have e3 : r3Z s = some r3 := by unfold r3Z; rw [h1, h2]; dsimp only; rw [h3]
  have e4 : manyR ndR (rmZ s) (r3Z s) = (τ.nodes, some r4) := by rw [eM, e3, h4]
  refine ⟨by rw [h1], by rw [h1, h2], eM.symm, by rw [e4], by rw [e4]; simp, hN, hne, by rw [e4, h5], by rw [e4, h5]; exact h6, hS⟩
 ·rintro ⟨h1, h2, h3, h4, h5, h6, h7, h8, h9, h10⟩
  obtain ⟨r4, e4⟩ : ∃ r, (manyR ndR (rmZ s) (r3Z s)).2 = some r := Option.ne_none_iff_exists'.1 h5
  obtain ⟨r3, e3⟩ := rs_some (.many strict_nd _) e4
  have e3' := e3
  unfold r3Z at e3'
  obtain ⟨r2, e2⟩ := rs_some (f := cntR) (.run _ _) e3'
  obtain ⟨r1, e1⟩ := rs_some (f := numR) (.run _ _) e2
  have e6 : (manyR ssR (cntR (manyR ndR (rmZ s) (r3Z s)).2).1 (cntR (manyR ndR (rmZ s) (r3Z s)).2).2).2 = some [] := by rw [h9]
  obtain ⟨r5, e5⟩ := rs_some (.many strict_ss _) e6
  refine ⟨h6, h10, h7, r1, r2, r3, r4, r5, ?_, ?_, ?_, ?_, ?_, ?_⟩
  ·rw [← h1, ← e1]
  ·rw [h2, ← e1, ← e2]
  ·rw [h3, ← e2, ← e3]; rfl
  ·rw [h3, ← e3, h4, e4]
  ·rw [h8, ← e4, ← e5]
  ·rw [h8, ← e5]; exact h9
theorem ref8_bad {s : Bs} {j : Nat} (hj : j < rmZ s) (hbad : ¬ nextN (lastP (manyR ndR j (r3Z s)).1) (ndR (manyR ndR j (r3Z s)).2).1.1) : readZ s = none := by
 cases h : readZ s with
 | none => rfl
 | some τ =>
  have g := ref8_iff.1 h
  refine absurd ?_ hbad
  have e0 : (manyR ndR (rmZ s) (r3Z s)).1 = τ.nodes := by rw [g.n]
  have h1 := g.okn j (by rw [g.m]; exact hj)
  have e1 : τ.nodes.take j = (manyR ndR j (r3Z s)).1 := by rw [← e0]; exact many_take _ _ _ _ (by omega)
  have e2 : τ.nodes.take (j + 1) = (manyR ndR (j + 1) (r3Z s)).1 := by rw [← e0]; exact many_take _ _ _ _ (by omega)
  rw [List.take_succ_eq_append_getElem (by rw [g.m]; exact hj), e1] at e2
  have e3 : [τ.nodes[j]'(by rw [g.m]; exact hj)] = [(ndR (manyR ndR j (r3Z s)).2).1] := List.append_cancel_left e2
  rw [e1, List.cons.inj e3 |>.1] at h1
  exact h1
theorem ref8_stop {s : Bs} {j : Nat} (hj : j ≤ rmZ s) (h : (manyR ndR j (r3Z s)).2 = none) : readZ s = none := by
 cases h2 : readZ s with
 | none => rfl
 | some τ => exact absurd (many_fail strict_nd _ _ _ hj h) (ref8_iff.1 h2).n4
def r4Z (s : Bs) : Rs := (manyR ndR (rmZ s) (r3Z s)).2
theorem ref8_badS {s : Bs} {j : Nat} (hj : j < (cntR (r4Z s)).1) (hbad : ¬ nextS (lastI (manyR ssR j (cntR (r4Z s)).2).1) (ssR (manyR ssR j (cntR (r4Z s)).2).2).1.1) : readZ s = none := by
 cases h : readZ s with
 | none => rfl
 | some τ =>
  have g := ref8_iff.1 h
  refine absurd ?_ hbad
  have e0 : (manyR ssR (cntR (r4Z s)).1 (cntR (r4Z s)).2).1 = τ.sess := by rw [show manyR ssR (cntR (r4Z s)).1 (cntR (r4Z s)).2 = _ from g.ss]
  have hk : j < τ.sess.length := by rw [g.k]; exact hj
  have h1 := g.oks j hk
  have e1 : τ.sess.take j = (manyR ssR j (cntR (r4Z s)).2).1 := by rw [← e0]; exact many_take _ _ _ _ (by omega)
  have e2 : τ.sess.take (j + 1) = (manyR ssR (j + 1) (cntR (r4Z s)).2).1 := by rw [← e0]; exact many_take _ _ _ _ (by omega)
  rw [List.take_succ_eq_append_getElem hk, e1] at e2
  have e3 : [τ.sess[j]] = [(ssR (manyR ssR j (cntR (r4Z s)).2).2).1] := List.append_cancel_left e2
  rw [e1, List.cons.inj e3 |>.1] at h1
  exact h1
theorem ref8_stopS {s : Bs} {j : Nat} (hj : j ≤ (cntR (r4Z s)).1) (h : (manyR ssR j (cntR (r4Z s)).2).2 = none) : readZ s = none := by
 cases h2 : readZ s with
 | none => rfl
 | some τ =>
  have g := ref8_iff.1 h2
  have e := many_fail strict_ss _ _ _ hj h
  rw [show manyR ssR (cntR (r4Z s)).1 (cntR (r4Z s)).2 = _ from g.ss] at e
  cases e
theorem okN_first {l : List PN} (h : okN l) (hl : 0 < l.length) : l[0].1 = [47] := ((h 0 hl).2.2).1 rfl
theorem last_at {l : List PN} {i : Nat} (hl : l.length = i + 1) : lastP l = (l[i]'(by omega)).1 := by
 have : l = l.take i ++ [l[i]'(by omega)] := by rw [← List.take_succ_eq_append_getElem (by omega), List.take_of_length_le (by omega)]
 conv => lhs; rw [this]
 exact lastP_snoc _ _
theorem lastI_at {l : List SN} {i : Nat} (hl : l.length = i + 1) : lastI l = (l[i]'(by omega)).1 := by
 have : l = l.take i ++ [l[i]'(by omega)] := by rw [← List.take_succ_eq_append_getElem (by omega), List.take_of_length_le (by omega)]
 conv => lhs; rw [this]
 exact lastI_snoc _ _
theorem next_doc {l : List PN} (h : okN l) (hl : 0 < l.length) {p : Bs} (hc : checkZ p = 0) (hlt : lastP l < p) : nextN (lastP l) p := by
 obtain ⟨k, hk⟩ : ∃ k, l.length = k + 1 := ⟨l.length - 1, by omega⟩
 have h1 := last_at hk
 have hne : lastP l ≠ [] := fun e => by
  have := okN_able h _ (List.getElem_mem (l := l) (n := k) (by omega))
  rw [← h1, e] at this; exact absurd this (by decide)
 refine ⟨hc, hlt, fun e => absurd e hne, fun e => ?_⟩
 exfalso
 have h0 := okN_first h hl
 have hs := (okN_sorted h).2 _ (List.getElem_mem (l := l) (n := 0) hl)
 rw [h0, ← e] at hs
 exact hs hlt
theorem take_next {s : Bs} {j : Nat} {l : List Rno} {z : Rno} (hI : (manyR ndR j (r3Z s)).2 ≠ none → ndsZ l = (manyR ndR j (r3Z s)).1 ∧ okN (ndsZ l)) (hz : TakeZ (manyR ndR j (r3Z s)).2 z) (hnx : nextN (lastP (manyR ndR j (r3Z s)).1) (ndR (manyR ndR j (r3Z s)).2).1.1) (g : (manyR ndR (j + 1) (r3Z s)).2 ≠ none) : ndsZ (l ++ [z]) = (manyR ndR (j + 1) (r3Z s)).1 ∧ okN (ndsZ (l ++ [z])) := by
 have g1 : (ndR (manyR ndR j (r3Z s)).2).2 ≠ none := g
 have g2 : (manyR ndR j (r3Z s)).2 ≠ none := fun e => g1 (by rw [e]; exact strict_nd)
 obtain ⟨h1, h2⟩ := hI g2
 have h3 := hz.all g1
 have e : ndsZ (l ++ [z]) = (manyR ndR (j + 1) (r3Z s)).1 := by
  show (l ++ [z]).map _ = (manyR ndR j (r3Z s)).1 ++ [(ndR (manyR ndR j (r3Z s)).2).1]
  rw [List.map_append, ← h1, ← h3]; rfl
 refine ⟨e, ?_⟩
 rw [e]
 refine okN_snoc.2 ⟨by rw [← h1]; exact h2, hnx⟩
theorem sess_some {st : Rs} {i : Nat} (h : (manyR ssR i (cntR st).2).2 ≠ none) : st ≠ none := fun e => h (by rw [e]; exact many_ne strict_ss i)
theorem sess_stop {s : Bs} {st : Rs} {i : Nat} (h1 : st = none → readZ s = none) (h2 : st ≠ none → st = r4Z s) (hi : i ≤ (cntR st).1) (h : (manyR ssR i (cntR st).2).2 = none) : readZ s = none := by
 by_cases e : st = none
 ·exact h1 e
 ·rw [h2 e] at hi h
  exact ref8_stopS hi h
theorem read_all {s : Bs} {st : Rs} {l : List Rno} {ls : List SN} (hh : (txt4R (some s)).1 = headB) (h1 : st = none → readZ s = none) (hg : st ≠ none → st = r4Z s ∧ ndsZ l = (manyR ndR (rmZ s) (r3Z s)).1 ∧ okN (ndsZ l)) (q1 : st = r4Z s) (q2 : (manyR ssR (cntR (r4Z s)).1 (cntR (r4Z s)).2).2 = some []) (q3 : ls = (manyR ssR (cntR (r4Z s)).1 (cntR (r4Z s)).2).1) (q4 : okS ls) (hl : l.length ≠ 0) : readZ s = some ⟨ndsZ l, ls, (numR (txt4R (some s)).2).1⟩ := by
 have hst : st ≠ none := fun e => by
  rw [← q1, e] at q2
  rw [show (manyR ssR (cntR none).1 (cntR none).2).2 = none from many_ne strict_ss _] at q2
  cases q2
 obtain ⟨-, p2, p3⟩ := hg hst
 have hnl : (ndsZ l).length = rmZ s := by rw [p2]; exact manyL _ _ _
 have hsl : ls.length = (cntR (r4Z s)).1 := by rw [q3]; exact manyL _ _ _
 refine ref8_iff.2 ⟨hh, rfl, hnl, by dsimp only; rw [p2], by show r4Z s ≠ none; rw [← q1]; exact hst, p3, fun e => hl ?_, hsl, ?_, q4⟩
 ·have := congrArg List.length e
  simpa [ndsZ] using this
 ·show manyR ssR (cntR (r4Z s)).1 (cntR (r4Z s)).2 = (ls, some [])
  rw [q3, ← q2]
def RTreeOr (o : Option Tr) (v : Value) (L : List HP) : Prop := (o = none ∧ v = .tuple #[.pointer none, .bool false] ∧ L = []) ∨ ∃ τ x, o = some τ ∧ v = .tuple #[vptr x, .bool true] ∧ L = [refR x τ]
set_option maxHeartbeats 1000000 in
theorem rread8_spec (s : Bs) (hs : s.length ≤ 70368744177664) : Fn Tryz.prog 56 #[vstr s] [] (RTreeOr (readZ s)) := by
 refine Fn.intro Tryz.func56 rfl rfl fun F W => ?_
 obtain ⟨m, hm⟩ : ∃ m, m = rmZ s := ⟨_, rfl⟩
 have hm256 : m ≤ 256 := by rw [hm]; exact cntR_le _
 refine .sr (.a rfl (.an rfl (.sm rfl (.q (.to (v' := .agg ([vstr s, vint 0, vint 0] : List Value).toArray) (.build (us := [(0, _)]) fl_175 ze_175 rfl rfl (by simp [isCell])) rfl) rfl (.oq (.box rfl) ?_)))))
 rintro v L' ⟨r, rfl, rfl⟩
 refine .a rfl (.nil (.ptCast (b := r) (l' := [vstr s, vint ((0 : Nat) : Int), vint 0]) (by repeat' constructor) rfl (.rfFold (r := r) s 0 0 (by repeat' constructor) rfl (Nat.zero_le _) hs (.rfUpF (st := some s) (by repeat' constructor) rfl (.then_n (.sr (.q (.to (v' := .agg ([.slice none 0 0, .slice none 0 0, vint 0] : List Value).toArray) (.build (us := []) fl_87 ze_87 rfl rfl (by simp [isCell])) rfl) rfl (.oq (.box rfl) ?_))))))))
 rintro v L' ⟨x, rfl, rfl⟩
 refine .a rfl (.nil (.ptCast (b := x) (l' := [.slice none 0 0, .slice none 0 0, vint 0]) (by repeat' constructor) rfl (.then_n (.sm rfl (.cv Tryz.func100 [_, _] (rftxt4_spec r (some s)) ?_)))))
 refine .an rfl (.sm rfl (.m rfl (.cv Tryz.func101 [_] (rfnumN_spec r _) ?_)))
 refine .nf rfl fo_87_2 (.st rfl rfl rfl sz_3 ?_)
 refine .nil (.ptCast (b := x) (l' := [.slice none 0 0, .slice none 0 0, vint (numR (txt4R (some s)).2).1]) (by repeat' constructor) rfl (.then_n (.sm rfl (.oq (.c Tryz.func102 [_, _] (rfcntN_spec r _)) ?_))))
 rintro v L' ⟨rfl, rfl⟩; rw [show (cntR (numR (txt4R (some s)).2).2).1 = m from hm.symm]
 refine .a rfl (.nil (.add (slR_nil 129 12) (.add (slR_nil 127 3) (.add (p := bigR inA []) big_nil (.then_n (.seq (.joinK (ι := Value × (List Rno) × Rs) (fun q E => E) (fun q => [rfR r q.2.2, ptc x [q.1, .slice none 0 0, vint (numR (txt4R (some s)).2).1] 87, rnR (q.1) q.2.1, bigR inA q.2.1]) (fun q => (∃ a c, q.1 = .slice a q.2.1.length c) ∧ q.2.1.length ≤ 256 ∧ (q.2.2 = none → readZ s = none) ∧ (q.2.2 ≠ none → q.2.2 = r4Z s ∧ ndsZ q.2.1 = (manyR ndR (rmZ s) (r3Z s)).1 ∧ okN (ndsZ q.2.1))) (pre := [rfR r (r3Z s), ptc x [.slice none 0 0, .slice none 0 0, vint (numR (txt4R (some s)).2).1] 87, slR 129 12 (.slice none 0 0) 0 [], bigR inA []]) (ts := [4, 5, 6, 7]) (.cons rfl (.cons rfl (.cons rfl (.cons rfl (.nil))))) (by repeat' constructor) ?_ ?_)))))))
 ·refine .sr (.an rfl (.block (.loopK (ι := Nat × Value × (List Rno)) (fun q E => (8, vint q.1) :: E) (fun q => [rfR r (manyR ndR q.1 (r3Z s)).2, ptc x [q.2.1, .slice none 0 0, vint (numR (txt4R (some s)).2).1] 87, rnR (q.2.1) q.2.2, bigR inA q.2.2]) (fun q => q.1 ≤ m ∧ (∃ a c, q.2.1 = .slice a q.2.2.length c) ∧ q.2.2.length = q.1 ∧ ((manyR ndR q.1 (r3Z s)).2 ≠ none → ndsZ q.2.2 = (manyR ndR q.1 (r3Z s)).1 ∧ okN (ndsZ q.2.2))) (fun q => m - q.1) (0, .slice none 0 0, []) (ts := [4, 5, 6, 7]) (.cons rfl (.cons rfl (.cons rfl (.cons rfl (.nil))))) (⟨Nat.zero_le _, ⟨none, 0, rfl⟩, rfl, fun _ => ⟨rfl, okN_nil⟩⟩) ⟨rfl, rfl, rfl, rfl, rfl, trivial⟩ (by repeat' constructor) ?_)))
  rintro ⟨j, u, l⟩ ⟨hj, ⟨au, cu, hu⟩, hlj, hI⟩
  dsimp only
  dsimp only at hj hu hlj hI
  subst hu
  refine .seq (.sm rfl (.m rfl (.ui rfl rfl rfl (.m rfl (.dec (t := 31) rfl (fun h7_31 => ?_) (fun h7_31 => ?_))))))
  ·refine .kDT (t := 30) rfl h7_31 (.rfLook (by repeat' constructor) fun s2 k2 e2 hst hkl hsz => ?_)
   have hee := stW_iff hst
   refine .grun (t := 31) rfl rfl rfl (.m rfl (.grun (t := 31) rfl rfl rfl (.u (.nilp rfl) (.grun (t := 31) rfl rfl rfl (.u (.fieldAddr rfl fo_175_2) (.grun (t := 31) rfl rfl rfl (.u (.ld rfl ag_31) (.grun (t := 31) rfl rfl rfl (.ui rfl rfl rfl (.u (.pickT rfl rfl) (.nil (.rfFold (r := r) s2 k2 e2 (by repeat' constructor) rfl hkl hsz (.rfUpF (by repeat' constructor) hst (.then_n (.condD rfl (fun h37 => ?_) (fun h37 => ?_))))))))))))))))
   ·have hj2m : j < m := by omega
    have hj2 : j < rmZ s := by omega
    have hsj : (manyR ndR j (r3Z s)).2 ≠ none := hee.1 h37
    obtain ⟨hnl, hok⟩ := hI hsj
    refine .sk (.seq (.block (.sr ?_)))
    rcases Nat.eq_zero_or_pos j with hj0 | hj0
    ·have hlast : lastP (manyR ndR j (r3Z s)).1 = [] := by rw [hj0]; rfl
     refine .m rfl (.oq (.c Tryz.func103 [_] (rtake_spec r _)) ?_)
     rintro v L' ⟨z, rfl, hz, rfl⟩; have hzp := hz.path; have hzl : z.1.length ≤ 4096 := by rw [hzp]; exact txtR_le8 _
     refine .oq (.allocA ze_129) ?_
     rintro v L' ⟨b9, rfl, rfl⟩
     refine .oq (.storeA rfl rfl ?c35 sz_129 ?c38 ?c36 (nfz0 _ _)) ?_
     case c35 => exact rn_cells hz.cell
     case c38 => rfl
     case c36 => simp [rnC]
     rintro v L' rfl
     refine .nil (.ptCast (b := b9) (l' := rnC z) (by repeat' constructor) rfl (.then_n (.seq (.seq (.draw [] [[0, 1, 2, 3, 4, 5, 6, 7, 8, 9, 10, 11, 12, 13, 14, 15, 16, 17, 18, 19, 20, 21, 22, 23, 24, 25, 26, 27, 28, 29, 30]] mixed (by kernel_rfl) (.go [ptc b9 _ _, ptc x _ _, rnR _ l] (by repeat' constructor) (.kv rfl (.fieldAddr rfl fo_129_0) (.kv rfl (.load rfl ag_9 (by repeat' constructor) rfl) (.m rfl (by kernel_rfl) (.c Tryz.func104 [_] (rcheck_spec z.1 (by omega))) (by repeat' constructor) ?_)))))))))
     refine D.kv rfl (.int rfl rfl rfl) (.mv rfl rfl (.ndec (t := 46) rfl (fun h10_46 => ?_) (fun h10_46 => ?_)))
     ·refine D.kNT (t := 45) rfl h10_46 (.gz rfl (.gz rfl (.gz rfl (.gsU (t := 49) rfl rfl rfl (by kernel_rfl) (.gsU (t := 49) rfl rfl rfl (by kernel_rfl) (.gsU (t := 49) rfl rfl rfl (by kernel_rfl) (.gz rfl (.kv rfl (.pickT rfl rfl) (.mv rfl rfl (.gz rfl (.gz rfl (.gz rfl (.gsU (t := 58) rfl rfl rfl (by kernel_rfl) (.gsU (t := 58) rfl rfl rfl (by kernel_rfl) (.gsU (t := 58) rfl rfl rfl (by kernel_rfl) (.gsU (t := 58) rfl rfl rfl (by kernel_rfl) (.gsU (t := 58) rfl rfl rfl (by kernel_rfl) (.gsU (t := 58) rfl rfl rfl (by kernel_rfl) (.gsU (t := 58) rfl rfl rfl (by kernel_rfl) (.gsU (t := 58) rfl rfl rfl (by kernel_rfl) (.gsU (t := 58) rfl rfl rfl (by kernel_rfl) (.gsU (t := 58) rfl rfl rfl (by kernel_rfl) (.gsU (t := 58) rfl rfl rfl (by kernel_rfl) (.gsU (t := 58) rfl rfl rfl (by kernel_rfl) (.gz rfl (.kv rfl (.pickT rfl rfl) ?_))))))))))))))))))))))))))
      refine D.pf (.condT rfl (.seq ?_))
      have hbadz : readZ s = none := ref8_bad hj2 (fun g => h10_46 (by rw [hzp]; exact g.1))
      refine .region (.a rfl (.an rfl (.rt (.blk_r (.then_r (.then_r (.blk_r (.then_r ?_))))))))
      exact .dn rfl rfl (.inl ⟨hbadz, rfl, rfl⟩)
     refine D.kNF (t := 45) rfl h10_46 (.gv rfl (.move rfl) (.gv rfl (.as (v' := .bool true) (by simp [hj0]) (.int rfl rfl rfl)) (.gv rfl (.move rfl) (.gv rfl (.fieldAddr rfl fo_129_0) (.gv rfl (.ld rfl ag_9) (.gv rfl (.strne rfl rfl) (.gv rfl (.pickT rfl rfl) (.kv rfl (.pickF rfl rfl) (.mv rfl rfl (.ndec (t := 55) rfl (fun h10_55 => ?_) (fun h10_55 => ?_)))))))))))
     ·refine D.kNT (t := 52) rfl h10_55 (.kNT (t := 53) rfl h10_55 (.kNT (t := 54) rfl h10_55 (.gz rfl (.gz rfl (.gz rfl (.gsU (t := 58) rfl rfl rfl (by kernel_rfl) (.gsU (t := 58) rfl rfl rfl (by kernel_rfl) (.gsU (t := 58) rfl rfl rfl (by kernel_rfl) (.gsU (t := 58) rfl rfl rfl (by kernel_rfl) (.gsU (t := 58) rfl rfl rfl (by kernel_rfl) (.gsU (t := 58) rfl rfl rfl (by kernel_rfl) (.gsU (t := 58) rfl rfl rfl (by kernel_rfl) (.gsU (t := 58) rfl rfl rfl (by kernel_rfl) (.gsU (t := 58) rfl rfl rfl (by kernel_rfl) (.gsU (t := 58) rfl rfl rfl (by kernel_rfl) (.gsU (t := 58) rfl rfl rfl (by kernel_rfl) (.gsU (t := 58) rfl rfl rfl (by kernel_rfl) (.gz rfl (.kv rfl (.pickT rfl rfl) (.pf (.condT rfl (.seq ?_))))))))))))))))))))))
      have hbadz : readZ s = none := ref8_bad hj2 (fun g => h10_55 (by rw [hzp]; exact g.2.2.1 hlast))
      refine .region (.a rfl (.an rfl (.rt (.blk_r (.then_r (.then_r (.blk_r (.then_r ?_))))))))
      exact .dn rfl rfl (.inl ⟨hbadz, rfl, rfl⟩)
     refine D.kNF (t := 52) rfl h10_55 (.kNF (t := 53) rfl h10_55 (.kNF (t := 54) rfl h10_55 (.gv rfl (.move rfl) (.gv rfl (.as (v' := .bool false) (by simp [hj0]) (.int rfl rfl rfl)) (.gv rfl (.move rfl) (.gz rfl (.gz rfl (.gz rfl (.gz rfl (.gz rfl (.gz rfl (.gz rfl (.gz rfl (.gz rfl (.gz rfl (.gz rfl (.gz rfl (.gv rfl (.pickF rfl rfl) (.kv rfl (.pickF rfl rfl) (.pf (.condF rfl (.sk ?_))))))))))))))))))))))
     have hck : checkZ (txtR (manyR ndR j (r3Z s)).2).1 = 0 := by rw [← hzp]; exact h10_46
     have hnx : nextN (lastP (manyR ndR j (r3Z s)).1) (ndR (manyR ndR j (r3Z s)).2).1.1 := by rw [hlast]; have h47 : (txtR (manyR ndR j (r3Z s)).2).1 = [47] := (by rw [← hzp]; exact h10_55); exact ⟨hck, by show ([] : Bs) < (txtR (manyR ndR j (r3Z s)).2).1; rw [h47]; decide, fun _ => h47, fun _ => rfl⟩
     refine .draw [6, 7, 10] [[0, 1, 2, 3, 4, 5, 6, 7], [8, 9, 10]] mixed (by kernel_rfl) (.go [ptc b9 _ _, ptc x _ _] (by repeat' constructor) (.k rfl (.move rfl) (.k rfl (.move rfl) (.k rfl (.nilp rfl) (.k rfl (.fieldAddr rfl fo_87_0) (.k rfl (.ld rfl ag_73) (.kv rfl (.loadAs (vs := rnC z) rfl ag_129 (by repeat' constructor) (by simp [rnC]) rfl) (.hh rfl (.buildSlice (vs := [_]) el_73 ze_129 rfl rfl rfl rfl (by first | (simp [Value.cells]; done) | (intro v hv; simp only [List.mem_cons, List.not_mem_nil, or_false] at hv; (repeat (first | (subst hv; rfl) | (rcases hv with hv | hv; (subst hv; rfl)))))) (by decide)) ?_))))))))
     rintro v L' ⟨b12_6, rfl, rfl⟩
     refine D.hh rfl (.append1 rfl rfl rfl el_73 ze_129 rfl rfl ?c68 ?c69 (Nat.le_refl _) ?c70 (by decide)) ?_
     case c68 => first | exact rn_cells hz.cell | (simp only [List.map_cons, List.map_nil, List.flatten_cons, List.flatten_nil, List.append_nil]; exact rn_cells hz.cell)
     case c69 => rfl
     case c70 => first | omega | (simp; omega)
     rintro v L' ⟨⟨a12_7, c12_7, rfl⟩, rfl⟩
     refine D.ph (.g0 (.nf rfl rfl rfl fo_87_0 (.hh rfl (.store rfl rfl rfl sz_73 ?c75 (nfz0 _ _)) ?_)))
     case c75 => first | decide | (simp; omega) | simp
     rintro v L' rfl
     refine D.ph (.fin (.blk_n (.then_n (.region (.m rfl (.q (.add rfl rfl (by omega)) rfl (.an rfl (.bigSnoc (l := l) z (p := inA z) rfl (by repeat' constructor) ?_))))))))
     rw [show l.length + 1 = (l ++ [z]).length by rw [List.length_append]; rfl]
     refine .slCast (T := 129) (sz := 12) (m' := (l ++ [z]).length) (xs' := (l ++ [z]).flatMap rnC) (by repeat' constructor) rfl (by rw [List.flatMap_append]; simp; rfl) (.ptCast (b := x) (l' := [.slice a12_7 (l ++ [z]).length c12_7, .slice none 0 0, vint (numR (txt4R (some s)).2).1]) (by repeat' constructor) rfl ?_)
     exact .rk ((j + 1, .slice a12_7 (l ++ [z]).length c12_7, l ++ [z])) (⟨by dsimp only; omega, ⟨_, _, rfl⟩, by dsimp only; rw [List.length_append, hlj]; rfl, fun g => by dsimp only at g ⊢; exact take_next hI hz hnx g⟩) (by dsimp only; omega) ⟨rfl, rfl, rfl, rfl, rfl, trivial⟩
    have hlast : lastP (manyR ndR j (r3Z s)).1 = (l[j - 1]'(by omega)).1 := by rw [← hnl, last_at (i := j - 1) (by show (l.map _).length = _; rw [List.length_map]; omega)]; simp [ndsZ]
    refine .m rfl (.oq (.c Tryz.func103 [_] (rtake_spec r _)) ?_)
    rintro v L' ⟨z, rfl, hz, rfl⟩; have hzp := hz.path; have hzl : z.1.length ≤ 4096 := by rw [hzp]; exact txtR_le8 _
    refine .oq (.allocA ze_129) ?_
    rintro v L' ⟨b9, rfl, rfl⟩
    refine .oq (.storeA rfl rfl ?c85 sz_129 ?c88 ?c86 (nfz0 _ _)) ?_
    case c85 => exact rn_cells hz.cell
    case c88 => rfl
    case c86 => simp [rnC]
    rintro v L' rfl
    refine .nil (.ptCast (b := b9) (l' := rnC z) (by repeat' constructor) rfl (.then_n (.seq (.seq (.slShape (T := 129) (sz := 12) (v := .slice au l.length cu) (xs := l.flatMap rnC) (by repeat' constructor) (by omega) fun bn bn' e0 mbn _ => ?_)))))
    simp only [Value.slice.injEq, true_and] at e0
    obtain ⟨rfl, rfl⟩ := e0
    refine .draw [] [[0, 1, 2, 3, 4, 5, 6, 7, 8, 9, 10, 11, 12, 13, 14, 15, 16, 17, 18, 19, 20, 21, 22, 23, 24, 25, 26, 27, 28, 29, 30]] mixed (by kernel_rfl) (.go [ptc b9 _ _, ptc x _ _, rnR _ l] (by repeat' constructor) (.kv rfl (.fieldAddr rfl fo_129_0) (.kv rfl (.load rfl ag_9 (by repeat' constructor) rfl) (.m rfl (by kernel_rfl) (.c Tryz.func104 [_] (rcheck_spec z.1 (by omega))) (by repeat' constructor) ?_))))
    refine D.kv rfl (.int rfl rfl rfl) (.mv rfl rfl (.ndec (t := 46) rfl (fun h10_46 => ?_) (fun h10_46 => ?_)))
    ·refine D.kNT (t := 45) rfl h10_46 (.gz rfl (.gz rfl (.gz rfl (.gsU (t := 49) rfl rfl rfl (by kernel_rfl) (.gsU (t := 49) rfl rfl rfl (by kernel_rfl) (.gsU (t := 49) rfl rfl rfl (by kernel_rfl) (.gz rfl (.kv rfl (.pickT rfl rfl) (.mv rfl rfl (.gz rfl (.gz rfl (.gz rfl (.gsU (t := 58) rfl rfl rfl (by kernel_rfl) (.gsU (t := 58) rfl rfl rfl (by kernel_rfl) (.gsU (t := 58) rfl rfl rfl (by kernel_rfl) (.gsU (t := 58) rfl rfl rfl (by kernel_rfl) (.gsU (t := 58) rfl rfl rfl (by kernel_rfl) (.gsU (t := 58) rfl rfl rfl (by kernel_rfl) (.gsU (t := 58) rfl rfl rfl (by kernel_rfl) (.gsU (t := 58) rfl rfl rfl (by kernel_rfl) (.gsU (t := 58) rfl rfl rfl (by kernel_rfl) (.gsU (t := 58) rfl rfl rfl (by kernel_rfl) (.gsU (t := 58) rfl rfl rfl (by kernel_rfl) (.gsU (t := 58) rfl rfl rfl (by kernel_rfl) (.gz rfl (.kv rfl (.pickT rfl rfl) ?_))))))))))))))))))))))))))
     refine D.pf (.condT rfl (.seq ?_))
     have hbadz : readZ s = none := ref8_bad hj2 (fun g => h10_46 (by rw [hzp]; exact g.1))
     refine .region (.a rfl (.an rfl (.rt (.blk_r (.then_r (.then_r (.blk_r (.then_r ?_))))))))
     exact .dn rfl rfl (.inl ⟨hbadz, rfl, rfl⟩)
    refine D.kNF (t := 45) rfl h10_46 (.gv rfl (.move rfl) (.gv rfl (.as (v' := .bool false) (by simp; omega) (.int rfl rfl rfl)) (.gv rfl (.move rfl) (.gz rfl (.gz rfl (.gz rfl (.gv rfl (.pickF rfl rfl) (.kv rfl (.pickF rfl rfl) (.mv rfl rfl (.gv rfl (.move rfl) (.gv rfl (.as (v' := .bool true) (by simp; omega) (.int rfl rfl rfl)) (.gv rfl (.move rfl) (.gv rfl (.fieldAddr rfl fo_129_0) (.gv rfl (.ld rfl ag_9) (.gv rfl (.move rfl) (.gv rfl (.nilp rfl) (.gv rfl (.fieldAddr rfl fo_87_0) (.gv rfl (.ld rfl ag_73) (.gv rfl (.move rfl) (.gv rfl (.sub rfl rfl (by omega)) (.gv rfl (.indexAddr rfl rfl el_73 (by omega)) (.gv rfl (.fieldAddr rfl fo_129_0) (.gv rfl (.loadRd (sz := 12) (j := (j - 1) * 12 + 0) (p := rnR _ l) (v := vstr (l[j - 1]'(by omega)).1) rfl ag_9 (by repeat' constructor) (fun h hp => slR_rd hp) (by omega) ((rn_cell (l := l) (i := j - 1) (k := 0) (by omega) (by decide)).trans rfl)) ?_)))))))))))))))))))))))
    refine D.gv rfl (.strle rfl rfl) (.gv rfl (.pickT rfl rfl) (.kv rfl (.pickF rfl rfl) (.pf (.condD rfl (fun h72 => ?_) (fun h72 => ?_)))))
    ·refine .seq ?_
     have hbadz : readZ s = none := ref8_bad hj2 (fun g => h72 (by rw [hzp, ← hlast]; exact g.2.1))
     refine .region (.a rfl (.an rfl (.rt (.blk_r (.then_r (.then_r (.blk_r (.then_r ?_))))))))
     exact .dn rfl rfl (.inl ⟨hbadz, rfl, rfl⟩)
    refine .sk ?_
    have hck : checkZ (txtR (manyR ndR j (r3Z s)).2).1 = 0 := by rw [← hzp]; exact h10_46
    have hnx : nextN (lastP (manyR ndR j (r3Z s)).1) (ndR (manyR ndR j (r3Z s)).2).1.1 := by exact next_doc (by rw [← hnl]; exact hok) (by rw [manyL]; omega) hck (by have h9 : lastP (manyR ndR j (r3Z s)).1 < z.1 := (by rw [hlast]; exact Decidable.not_not.1 h72); rw [hzp] at h9; exact h9)
    refine .draw [6, 7, 10] [[0, 1, 2, 3, 4, 5, 6, 7], [8, 9, 10]] mixed (by kernel_rfl) (.go [ptc b9 _ _, ptc x _ _] (by repeat' constructor) (.k rfl (.move rfl) (.k rfl (.move rfl) (.k rfl (.nilp rfl) (.k rfl (.fieldAddr rfl fo_87_0) (.k rfl (.ld rfl ag_73) (.kv rfl (.loadAs (vs := rnC z) rfl ag_129 (by repeat' constructor) (by simp [rnC]) rfl) (.hh rfl (.buildSlice (vs := [_]) el_73 ze_129 rfl rfl rfl rfl (by first | (simp [Value.cells]; done) | (intro v hv; simp only [List.mem_cons, List.not_mem_nil, or_false] at hv; (repeat (first | (subst hv; rfl) | (rcases hv with hv | hv; (subst hv; rfl)))))) (by decide)) ?_))))))))
    rintro v L' ⟨b12_6, rfl, rfl⟩
    refine D.hh rfl (.append1 rfl rfl rfl el_73 ze_129 rfl rfl ?c126 ?c127 (Nat.le_refl _) ?c128 (by decide)) ?_
    case c126 => first | exact rn_cells hz.cell | (simp only [List.map_cons, List.map_nil, List.flatten_cons, List.flatten_nil, List.append_nil]; exact rn_cells hz.cell)
    case c127 => rfl
    case c128 => first | omega | (simp; omega)
    rintro v L' ⟨⟨a12_7, c12_7, rfl⟩, rfl⟩
    refine D.ph (.g0 (.nf rfl rfl rfl fo_87_0 (.hh rfl (.store rfl rfl rfl sz_73 ?c133 (nfz0 _ _)) ?_)))
    case c133 => first | decide | (simp; omega) | simp
    rintro v L' rfl
    refine D.ph (.fin (.blk_n (.then_n (.region (.m rfl (.q (.add rfl rfl (by omega)) rfl (.an rfl (.bigSnoc (l := l) z (p := inA z) rfl (by repeat' constructor) ?_))))))))
    rw [show l.length + 1 = (l ++ [z]).length by rw [List.length_append]; rfl]
    refine .slCast (T := 129) (sz := 12) (m' := (l ++ [z]).length) (xs' := (l ++ [z]).flatMap rnC) (by repeat' constructor) rfl (by rw [List.flatMap_append]; simp; rfl) (.ptCast (b := x) (l' := [.slice a12_7 (l ++ [z]).length c12_7, .slice none 0 0, vint (numR (txt4R (some s)).2).1]) (by repeat' constructor) rfl ?_)
    exact .rk ((j + 1, .slice a12_7 (l ++ [z]).length c12_7, l ++ [z])) (⟨by dsimp only; omega, ⟨_, _, rfl⟩, by dsimp only; rw [List.length_append, hlj]; rfl, fun g => by dsimp only at g ⊢; exact take_next hI hz hnx g⟩) (by dsimp only; omega) ⟨rfl, rfl, rfl, rfl, rfl, trivial⟩
   refine .exit (.then_e (.then_e (.blk_e (.then_n ?_))))
   have hsn : (manyR ndR j (r3Z s)).2 = none := by apply Classical.byContradiction; intro g; exact h37 (hee.2 g)
   exact .mk ((.slice au l.length cu, l, (manyR ndR j (r3Z s)).2)) (⟨⟨au, cu, rfl⟩, by dsimp only; omega, fun g => ref8_stop (by omega) g, fun g => absurd hsn g⟩) ⟨rfl, rfl, rfl, rfl, trivial⟩
  refine .kDF (t := 30) rfl h7_31 (.gk (.gk (.gk (.gk (.gk (.u (.pickF rfl rfl) (.nt (.condF rfl (.exit (.then_e (.then_e (.blk_e (.then_n ?_)))))))))))))
  have hjm : j = m := by omega
  exact .mk ((.slice au l.length cu, l, (manyR ndR j (r3Z s)).2)) (⟨⟨au, cu, rfl⟩, by dsimp only; omega, fun g => ref8_stop (by omega) g, fun g => ⟨by dsimp only; unfold r4Z; rw [← hm, ← hjm], by dsimp only; rw [← hm, ← hjm]; exact (hI g).1, (hI g).2⟩⟩) ⟨rfl, rfl, rfl, rfl, trivial⟩
 rintro ⟨u, l, st⟩ ⟨⟨au, cu, hu⟩, hl256, hbad1, hgood1⟩
 dsimp only
 dsimp only at hu hl256 hbad1 hgood1
 subst hu
 refine .sm rfl (.oq (.c Tryz.func102 [_, _] (rfcntN_spec r st)) ?_)
 rintro v L' ⟨rfl, rfl⟩; have hk256 := cntR_le st
 refine .an rfl (.seq (.joinK (ι := Value × (List SN) × Rs) (fun q E => E) (fun q => [rfR r q.2.2, ptc x [.slice au l.length cu, q.1, vint (numR (txt4R (some s)).2).1] 87, slR 127 3 q.1 q.2.1.length (q.2.1.flatMap rsC)]) (fun q => (∃ a c, q.1 = .slice a q.2.1.length c) ∧ q.2.1.length ≤ 256 ∧ (q.2.2 = none → readZ s = none) ∧ (q.2.2 ≠ none → st = r4Z s ∧ q.2.2 = (manyR ssR (cntR (r4Z s)).1 (cntR (r4Z s)).2).2 ∧ q.2.1 = (manyR ssR (cntR (r4Z s)).1 (cntR (r4Z s)).2).1 ∧ okS q.2.1)) (pre := [rfR r (cntR st).2, ptc x [.slice au l.length cu, .slice none 0 0, vint (numR (txt4R (some s)).2).1] 87, slR 127 3 (.slice none 0 0) 0 []]) (ts := [4, 5, 6]) (.cons rfl (.cons rfl (.cons rfl (.nil)))) (by repeat' constructor) ?_ ?_))
 ·refine .sr (.an rfl (.block (.loopK (ι := Nat × Value) (fun q E => (10, vint q.1) :: E) (fun q => [rfR r (manyR ssR q.1 (cntR st).2).2, ptc x [.slice au l.length cu, q.2, vint (numR (txt4R (some s)).2).1] 87, slR 127 3 q.2 q.1 ((manyR ssR q.1 (cntR st).2).1.flatMap rsC)]) (fun q => q.1 ≤ (cntR st).1 ∧ (∃ a c, q.2 = .slice a q.1 c) ∧ okS (manyR ssR q.1 (cntR st).2).1) (fun q => (cntR st).1 - q.1) (0, .slice none 0 0) (ts := [4, 5, 6, 7]) (.cons rfl (.cons rfl (.cons rfl (.cons rfl (.nil))))) (⟨Nat.zero_le _, ⟨none, 0, rfl⟩, okS_nil⟩) ⟨rfl, rfl, rfl, rfl, rfl, trivial⟩ (by repeat' constructor) ?_)))
  rintro ⟨i, us⟩ ⟨hi, ⟨as1, cs1, hus⟩, hoks⟩
  dsimp only
  dsimp only at hi hus hoks
  subst hus
  have hli : (manyR ssR i (cntR st).2).1.length = i := manyL _ _ _
  refine .seq (.sm rfl (.m rfl (.ui rfl rfl rfl (.m rfl (.dec (t := 88) rfl (fun h15_88 => ?_) (fun h15_88 => ?_))))))
  ·refine .kDT (t := 87) rfl h15_88 (.rfLook (by repeat' constructor) fun s2 k2 e2 hst hkl hsz => ?_)
   have hee := stW_iff hst
   refine .grun (t := 88) rfl rfl rfl (.m rfl (.grun (t := 88) rfl rfl rfl (.u (.nilp rfl) (.grun (t := 88) rfl rfl rfl (.u (.fieldAddr rfl fo_175_2) (.grun (t := 88) rfl rfl rfl (.u (.ld rfl ag_31) (.grun (t := 88) rfl rfl rfl (.ui rfl rfl rfl (.u (.pickT rfl rfl) (.nil (.rfFold (r := r) s2 k2 e2 (by repeat' constructor) rfl hkl hsz (.rfUpF (by repeat' constructor) hst (.then_n (.condD rfl (fun h94 => ?_) (fun h94 => ?_))))))))))))))))
   ·have hi2 : i < (cntR st).1 := by omega
    have hst4 : st = r4Z s := (hgood1 (sess_some (hee.1 h94))).1
    refine .sk (.seq (.block (.sm rfl (.cv Tryz.func101 [_] (rfnumN_spec r _) ?_))))
    refine .an rfl (.sm rfl (.cv Tryz.func101 [_] (rfnumN_spec r _) ?_))
    refine .an rfl (.sm rfl (.cv Tryz.func100 [_, _] (rftxtN_spec r _) ?_))
    refine .an rfl (.seq (.sm rfl (.ui rfl rfl rfl (.m rfl (.dec (t := 105) rfl (fun h20_105 => ?_) (fun h20_105 => ?_))))))
    ·refine .kDT (t := 104) rfl h20_105 (.gk (.gk (.gk (.gskipU (t := 108) rfl rfl rfl (.gskipU (t := 108) rfl rfl rfl (.gskipU (t := 108) rfl rfl rfl (.gskipU (t := 108) rfl rfl rfl (.gskipU (t := 108) rfl rfl rfl (.gskipU (t := 108) rfl rfl rfl (.gskipU (t := 108) rfl rfl rfl (.gskipU (t := 108) rfl rfl rfl (.gskipU (t := 108) rfl rfl rfl (.gskipU (t := 108) rfl rfl rfl (.gskipU (t := 108) rfl rfl rfl (.gk (.u (.pickT rfl rfl) (.nt (.condT rfl (.seq ?_)))))))))))))))))))
     have hbadz : readZ s = none := ref8_badS (j := i) (by rw [← hst4]; exact hi2) (by rw [← hst4]; exact fun g => by have g1 : lastI (manyR ssR i (cntR st).2).1 < (numR (manyR ssR i (cntR st).2).2).1 := g; have := (okS_pos hoks).1; omega)
     refine .region (.a rfl (.an rfl (.rt (.blk_r (.then_r (.then_r (.blk_r (.then_r ?_))))))))
     exact .dn rfl rfl (.inl ⟨hbadz, rfl, rfl⟩)
    refine .kDF (t := 104) rfl h20_105 (.grun (t := 105) rfl rfl rfl (.m rfl (.grun (t := 105) rfl rfl rfl (.ui rfl rfl rfl (.grun (t := 105) rfl rfl rfl (.m rfl (.dec (t := 108) rfl (fun h20_108 => ?_) (fun h20_108 => ?_))))))))
    ·refine .kDT (t := 107) rfl h20_108 (.grun (t := 108) rfl rfl rfl (.m rfl (.grun (t := 108) rfl rfl rfl (.m rfl (.grun (t := 108) rfl rfl rfl (.u (.nilp rfl) (.grun (t := 108) rfl rfl rfl (.u (.fieldAddr rfl fo_87_1) (.grun (t := 108) rfl rfl rfl (.u (.ld rfl ag_59) (.grun (t := 108) rfl rfl rfl (.m rfl (.grun (t := 108) rfl rfl rfl (.q (.sub rfl rfl (by omega)) rfl (.slShape (T := 127) (sz := 3) (v := .slice as1 i cs1) (xs := (manyR ssR i (cntR st).2).1.flatMap rsC) (by repeat' constructor) (by omega) fun bs bs' e0 mbs _ => ?_)))))))))))))))
     simp only [Value.slice.injEq, true_and] at e0
     obtain ⟨rfl, rfl⟩ := e0
     refine .grun (t := 108) rfl rfl rfl (.q (.indexAddr rfl rfl el_59 (by omega)) rfl (.grun (t := 108) rfl rfl rfl (.u (.fieldAddr rfl fo_127_0) (.grun (t := 108) rfl rfl rfl (.q (.loadRd (sz := 3) (j := (i - 1) * 3 + 0) (p := slR 127 3 _ i ((manyR ssR i (cntR st).2).1.flatMap rsC)) (v := vint ((manyR ssR i (cntR st).2).1[i - 1]'(by omega)).1) rfl ag_3 (by repeat' constructor) (fun h hp => slR_rd hp) (by omega) ((rs_cell (l := (manyR ssR i (cntR st).2).1) (i := i - 1) (k := 0) (by omega) (by decide)).trans rfl)) rfl (.grun (t := 108) rfl rfl rfl (.ui rfl rfl rfl (.grun (t := 105) rfl rfl rfl (.u (.pickT rfl rfl) (.u (.pickF rfl rfl) (.nt (.condD rfl (fun h121 => ?_) (fun h121 => ?_)))))))))))))
     ·refine .seq ?_
      have hbadz : readZ s = none := ref8_badS (j := i) (by rw [← hst4]; exact hi2) (by rw [← hst4]; exact fun g => by have g1 : lastI (manyR ssR i (cntR st).2).1 < (numR (manyR ssR i (cntR st).2).2).1 := g; rw [lastI_at (i := i - 1) (by omega)] at g1; omega)
      refine .region (.a rfl (.an rfl (.rt (.blk_r (.then_r (.then_r (.blk_r (.then_r ?_))))))))
      exact .dn rfl rfl (.inl ⟨hbadz, rfl, rfl⟩)
     refine .sk ?_
     have hnx : nextS (lastI (manyR ssR i (cntR st).2).1) ((ssR (manyR ssR i (cntR st).2).2).1).1 := by show lastI (manyR ssR i (cntR st).2).1 < (numR (manyR ssR i (cntR st).2).2).1; rw [lastI_at (i := i - 1) (by omega)]; omega
     refine .region (.m rfl (.m rfl (.nf rfl fo_87_1 (.u (.ld rfl ag_59) (.m rfl (.m rfl (.m rfl (.q (.to (v' := .agg (rsC (ssR (manyR ssR i (cntR st).2).2).1).toArray) (.build (us := [(0, _), (1, _), (2, _)]) fl_127 ze_127 rfl rfl (by simp [isCell])) rfl) rfl (.oq (.buildSlice (vs := [_]) el_59 ze_127 rfl rfl rfl rfl (by first | (simp [Value.cells]; done) | (intro v hv; simp only [List.mem_cons, List.not_mem_nil, or_false] at hv; (repeat (first | (subst hv; rfl) | (rcases hv with hv | hv; (subst hv; rfl)))))) (by decide)) ?_)))))))))
     rintro v L' ⟨b22_9, rfl, rfl⟩
     refine .oq (.append1 rfl rfl rfl el_59 ze_127 rfl rfl ?c186 ?c187 (Nat.le_refl _) ?c188 (by decide)) ?_
     case c186 => simp only [List.map_cons, List.map_nil, List.flatten_cons, List.flatten_nil, List.append_nil]; simp [Value.cells, rsC, isCell]
     case c187 => rfl
     case c188 => first | omega | (simp; omega)
     rintro v L' ⟨⟨a22_10, c22_10, rfl⟩, rfl⟩
     refine .nf rfl fo_87_1 (.st rfl rfl rfl sz_59 ?_)
     refine .nil (.blk_n (.then_n (.region (.m rfl (.q (.add rfl rfl (by omega)) rfl (.an rfl (.slCast (T := 127) (sz := 3) (m' := i + 1) (xs' := (manyR ssR (i + 1) (cntR st).2).1.flatMap rsC) (by repeat' constructor) rfl (by show _ = ((manyR ssR i (cntR st).2).1 ++ [(ssR (manyR ssR i (cntR st).2).2).1]).flatMap rsC; rw [List.flatMap_append]; simp; rfl) (.ptCast (b := x) (l' := [.slice au l.length cu, .slice a22_10 (i + 1) c22_10, vint (numR (txt4R (some s)).2).1]) (by repeat' constructor) rfl ?_))))))))
     exact .rk ((i + 1, .slice a22_10 (i + 1) c22_10)) (⟨by dsimp only; omega, ⟨_, _, rfl⟩, okS_snoc.2 ⟨hoks, hnx⟩⟩) (by dsimp only; omega) ⟨rfl, rfl, rfl, rfl, rfl, trivial⟩
    refine .kDF (t := 107) rfl h20_108 (.gk (.gk (.gk (.gk (.gk (.gk (.gk (.gk (.gk (.gk (.gk (.grun (t := 105) rfl rfl rfl (.u (.pickF rfl rfl) (.u (.pickF rfl rfl) (.nt (.condF rfl (.sk ?_)))))))))))))))))
    have hnx : nextS (lastI (manyR ssR i (cntR st).2).1) ((ssR (manyR ssR i (cntR st).2).2).1).1 := by show lastI (manyR ssR i (cntR st).2).1 < (numR (manyR ssR i (cntR st).2).2).1; have hi0 : i = 0 := (by omega); subst hi0; show (0 : Int) < _; omega
    refine .region (.m rfl (.m rfl (.nf rfl fo_87_1 (.u (.ld rfl ag_59) (.m rfl (.m rfl (.m rfl (.q (.to (v' := .agg (rsC (ssR (manyR ssR i (cntR st).2).2).1).toArray) (.build (us := [(0, _), (1, _), (2, _)]) fl_127 ze_127 rfl rfl (by simp [isCell])) rfl) rfl (.oq (.buildSlice (vs := [_]) el_59 ze_127 rfl rfl rfl rfl (by first | (simp [Value.cells]; done) | (intro v hv; simp only [List.mem_cons, List.not_mem_nil, or_false] at hv; (repeat (first | (subst hv; rfl) | (rcases hv with hv | hv; (subst hv; rfl)))))) (by decide)) ?_)))))))))
    rintro v L' ⟨b22_9, rfl, rfl⟩
    refine .oq (.append1 rfl rfl rfl el_59 ze_127 rfl rfl ?c207 ?c208 (Nat.le_refl _) ?c209 (by decide)) ?_
    case c207 => simp only [List.map_cons, List.map_nil, List.flatten_cons, List.flatten_nil, List.append_nil]; simp [Value.cells, rsC, isCell]
    case c208 => rfl
    case c209 => first | omega | (simp; omega)
    rintro v L' ⟨⟨a22_10, c22_10, rfl⟩, rfl⟩
    refine .nf rfl fo_87_1 (.st rfl rfl rfl sz_59 ?_)
    refine .nil (.blk_n (.then_n (.region (.m rfl (.q (.add rfl rfl (by omega)) rfl (.an rfl (.slCast (T := 127) (sz := 3) (m' := i + 1) (xs' := (manyR ssR (i + 1) (cntR st).2).1.flatMap rsC) (by repeat' constructor) rfl (by show _ = ((manyR ssR i (cntR st).2).1 ++ [(ssR (manyR ssR i (cntR st).2).2).1]).flatMap rsC; rw [List.flatMap_append]; simp; rfl) (.ptCast (b := x) (l' := [.slice au l.length cu, .slice a22_10 (i + 1) c22_10, vint (numR (txt4R (some s)).2).1]) (by repeat' constructor) rfl ?_))))))))
    exact .rk ((i + 1, .slice a22_10 (i + 1) c22_10)) (⟨by dsimp only; omega, ⟨_, _, rfl⟩, okS_snoc.2 ⟨hoks, hnx⟩⟩) (by dsimp only; omega) ⟨rfl, rfl, rfl, rfl, rfl, trivial⟩
   refine .exit (.then_e (.then_e (.blk_e (.then_n ?_))))
   have hsn : (manyR ssR i (cntR st).2).2 = none := by apply Classical.byContradiction; intro g; exact h94 (hee.2 g)
   refine .slCast (T := 127) (sz := 3) (m' := (manyR ssR i (cntR st).2).1.length) (xs' := (manyR ssR i (cntR st).2).1.flatMap rsC) (by repeat' constructor) hli.symm rfl ?_
   exact .mk ((.slice as1 i cs1, (manyR ssR i (cntR st).2).1, (manyR ssR i (cntR st).2).2)) (⟨⟨as1, cs1, by dsimp only; rw [hli]⟩, by dsimp only; omega, fun g => sess_stop hbad1 (fun g => (hgood1 g).1) (by omega) g, fun g => absurd hsn g⟩) ⟨rfl, rfl, rfl, trivial⟩
  refine .kDF (t := 87) rfl h15_88 (.gk (.gk (.gk (.gk (.gk (.u (.pickF rfl rfl) (.nt (.condF rfl (.exit (.then_e (.then_e (.blk_e (.then_n ?_)))))))))))))
  have hik : i = (cntR st).1 := by omega
  refine .slCast (T := 127) (sz := 3) (m' := (manyR ssR i (cntR st).2).1.length) (xs' := (manyR ssR i (cntR st).2).1.flatMap rsC) (by repeat' constructor) hli.symm rfl ?_
  exact .mk ((.slice as1 i cs1, (manyR ssR i (cntR st).2).1, (manyR ssR i (cntR st).2).2)) (⟨⟨as1, cs1, by dsimp only; rw [hli]⟩, by dsimp only; omega, fun g => sess_stop hbad1 (fun g => (hgood1 g).1) (by omega) g, fun g => by have e4 := (hgood1 (sess_some g)).1; dsimp only at g ⊢; exact ⟨e4, by rw [hik, e4], by rw [hik, e4], hoks⟩⟩) ⟨rfl, rfl, rfl, trivial⟩
 rintro ⟨us, ls, sf⟩ ⟨⟨as1, cs1, hus⟩, hs256, hbad2, hgood2⟩
 dsimp only
 dsimp only at hus hs256 hbad2 hgood2
 subst hus
 refine .seq (.sm rfl (.oq (.c Tryz.func105 [_] (rfend_spec r _)) ?_))
 rintro v L' ⟨e1, he1, rfl, st', rfl⟩
 refine .ui rfl rfl rfl (.m rfl (.ndec (t := 138) rfl (fun h23_138 => ?_) (fun h23_138 => ?_)))
 ·refine .kNT (t := 137) rfl h23_138 (.gk (.gk (.u (.pickT rfl rfl) (.m rfl (.gk (.gk (.gk (.gk (.gk (.gk (.u (.pickT rfl rfl) (.nt (.condT rfl (.seq ?_))))))))))))))
  have hbadz : readZ s = none := by
    cases hr : readZ s with
    | none => rfl
    | some τ =>
      have g8 := ref8_iff.1 hr
      have hsf : sf ≠ none := fun g => by rw [hbad2 g] at hr; cases hr
      obtain ⟨q1, q2, q3, q4⟩ := hgood2 hsf
      have e6 : sf = some [] := by rw [q2, show manyR ssR (cntR (r4Z s)).1 (cntR (r4Z s)).2 = _ from g8.ss]
      exact absurd (he1.2 e6) h23_138
  refine .region (.a rfl (.an rfl (.rt ?_)))
  exact .dn rfl rfl (.inl ⟨hbadz, rfl, rfl⟩)
 refine .kNF (t := 137) rfl h23_138 (.grun (t := 138) rfl rfl rfl (.m rfl (.grun (t := 138) rfl rfl rfl (.u (.strne rfl rfl) (.u (.pickF rfl rfl) (.m rfl (.ndec (t := 142) rfl (fun h23_142 => ?_) (fun h23_142 => ?_))))))))
 ·refine .kNT (t := 140) rfl h23_142 (.kNT (t := 141) rfl h23_142 (.gk (.gk (.gk (.gk (.gk (.gk (.u (.pickT rfl rfl) (.nt (.condT rfl (.seq ?_)))))))))))
  have hbadz : readZ s = none := by
    cases hr : readZ s with
    | none => rfl
    | some τ =>
      have g8 := ref8_iff.1 hr
      have hsf : sf ≠ none := fun g => by rw [hbad2 g] at hr; cases hr
      obtain ⟨q1, q2, q3, q4⟩ := hgood2 hsf
      have e6 : sf = some [] := by rw [q2, show manyR ssR (cntR (r4Z s)).1 (cntR (r4Z s)).2 = _ from g8.ss]
      exact absurd g8.head h23_142
  refine .region (.a rfl (.an rfl (.rt ?_)))
  exact .dn rfl rfl (.inl ⟨hbadz, rfl, rfl⟩)
 refine .kNF (t := 140) rfl h23_142 (.kNF (t := 141) rfl h23_142 (.grun (t := 142) rfl rfl rfl (.m rfl (.grun (t := 142) rfl rfl rfl (.u (.nilp rfl) (.grun (t := 142) rfl rfl rfl (.u (.fieldAddr rfl fo_87_0) (.grun (t := 142) rfl rfl rfl (.u (.ld rfl ag_73) (.grun (t := 142) rfl rfl rfl (.q (.slen rfl Tryz.underlying73 rfl) rfl (.grun (t := 142) rfl rfl rfl (.ui rfl rfl rfl (.u (.pickF rfl rfl) (.nt (.condD rfl (fun h149 => ?_) (fun h149 => ?_)))))))))))))))))
 ·refine .seq ?_
  have hbadz : readZ s = none := by
    cases hr : readZ s with
    | none => rfl
    | some τ =>
      have g8 := ref8_iff.1 hr
      have hsf : sf ≠ none := fun g => by rw [hbad2 g] at hr; cases hr
      obtain ⟨q1, q2, q3, q4⟩ := hgood2 hsf
      have e6 : sf = some [] := by rw [q2, show manyR ssR (cntR (r4Z s)).1 (cntR (r4Z s)).2 = _ from g8.ss]
      have hst : st ≠ none := fun g => by rw [hbad1 g] at hr; cases hr
      obtain ⟨-, p2, -⟩ := hgood1 hst
      have e7 : τ.nodes = ndsZ l := by rw [p2, g8.n]
      exact absurd (by rw [e7]; unfold ndsZ; rw [List.eq_nil_of_length_eq_zero (l := l) (by omega)]; rfl) g8.ne
  refine .region (.a rfl (.an rfl (.rt ?_)))
  exact .dn rfl rfl (.inl ⟨hbadz, rfl, rfl⟩)
 refine .sk (.seq ?_)
 have hsf0 : sf = some [] := he1.1 h23_138
 have hsf : sf ≠ none := by rw [hsf0]; simp
 obtain ⟨q1, q2, q3, q4⟩ := hgood2 hsf
 have hr : readZ s = some ⟨ndsZ l, ls, (numR (txt4R (some s)).2).1⟩ := read_all h23_142 hbad1 hgood1 q1 (by rw [← q2]; exact hsf0) q3 q4 (by have := h149; omega)
 refine .region (.m rfl (.a rfl (.an rfl (.ret (.rtFold (x := x) (τ := ⟨ndsZ l, ls, (numR (txt4R (some s)).2).1⟩) (l := l) rfl (by repeat' constructor) rfl rfl rfl rfl rfl ?_)))))
 exact .dn rfl rfl (.inr ⟨_, x, hr, rfl, rfl⟩)
theorem okN_later {l : List PN} (h : okN l) {i : Nat} (hi : i < l.length) (h1 : 1 ≤ i) : l[i].1 ≠ [47] := by
 intro e
 have h2 := ((h i hi).2.2).2 e
 have hl : (l.take i).length = (i - 1) + 1 := by rw [List.length_take]; omega
 rw [last_at hl, List.getElem_take] at h2
 have h3 := (h (i - 1) (by omega)).1
 rw [h2] at h3
 exact absurd h3 (by decide)
theorem right_sesB {τ : Tr} (h : RightT τ) : SesB τ := fun y hy => (h.ss y hy).1.2
def RTreeZ (o : Option Tr) (e : Int) (v : Value) (L : List HP) : Prop := (o = none ∧ v = .tuple #[.pointer none, vint e] ∧ L = []) ∨ ∃ τ x, o = some τ ∧ v = .tuple #[vptr x, vint 0] ∧ L = [refR x τ]
theorem rdecode8_spec (s : Bs) (hs : s.length ≤ 70368744177664) : Fn Tryz.prog 77 #[vstr s] [] (RTreeZ (decZ s) 70) := by
 refine Fn.intro Tryz.func77 rfl rfl fun F W => ?_
 refine .sr (.a rfl (.an rfl (.sm rfl (.oq (.c Tryz.func56 [_] (rread8_spec s hs)) ?_))))
 rintro v L' (⟨hz, rfl, rfl⟩ | ⟨τ, x, hz, rfl, rfl⟩)
 ·refine .m rfl (.u (.extract rfl rfl) (.u (.extract rfl rfl) (.a rfl (.an rfl (.seq (.sm rfl (.q (.as (v' := .bool true) (by rfl) (.not rfl)) rfl (.nt (.condT rfl (.sr (.a rfl (.an rfl (.rt ?_)))))))))))))
  exact .dn rfl rfl (.inl ⟨dec_none hz, rfl, rfl⟩)
 have hR := (read_form hz).1
 have ho := right_ok hR
 have hfew := ho.few
 have hpos : 0 < τ.nodes.length := List.length_pos_iff.2 hR.some'
 refine .m rfl (.u (.extract rfl rfl) (.u (.extract rfl rfl) (.a rfl (.an rfl (.seq (.sm rfl (.q (.as (v' := .bool false) (by rfl) (.not rfl)) rfl (.nt (.condF rfl (.sk (.seq (.sr (.an rfl (.block (.loopK (ι := Nat) (fun q E => (6, vint q) :: E) (fun q => [refR x τ]) (fun q => 1 ≤ q ∧ q ≤ τ.nodes.length ∧ ∀ k (hk : k < τ.nodes.length), k < q → τ.nodes[k].1 = [47] ∨ thereT τ (parentZ τ.nodes[k].1)) (fun q => τ.nodes.length - q) (1) (ts := [4]) (.cons rfl (.nil)) (⟨Nat.le_refl _, hpos, fun k hk h => .inl (by have h0 : k = 0 := (by omega); subst h0; exact okN_first hR.n hk)⟩) ⟨rfl, rfl, trivial⟩ (by repeat' constructor) ?_)))))))))))))))
 rintro i ⟨hi1, hi, hno⟩
 refine .seq (.seq (.rtOpen (x := x) (τ := τ) (by repeat' constructor) fun an cn as1 cs l hl => ?_))
 have hll := nds_len hl
 refine .region (.m rfl (.m rfl (.nf rfl fo_87_0 (.u (.ld rfl ag_73) (.q (.slen rfl Tryz.underlying73 rfl) rfl (.ui rfl rfl rfl (.nil (.rtFold (x := x) (τ := τ) (l := l) hl (by repeat' constructor) rfl rfl rfl rfl rfl (.then_n (.condD rfl (fun h20 => ?_) (fun h20 => ?_)))))))))))
 ·refine .sk (.seq (.block (.seq ?_)))
  have hi2 : i < τ.nodes.length := by omega
  have hpl := able_len (ho.able _ (List.getElem_mem hi2))
  refine .rtOpen (x := x) (τ := τ) (by repeat' constructor) fun an cn as1 cs l hl => ?_
  have hll := nds_len hl
  have hpi : τ.nodes[i].1 = (l[i]'(by omega)).1 := congrArg Prod.fst (nds_get hl (i := i) (by omega))
  refine .slShape (T := 129) (sz := 12) (v := .slice an l.length cn) (xs := l.flatMap rnC) (by repeat' constructor) (by omega) fun bn bn' e0 mbn _ => ?_
  simp only [Value.slice.injEq, true_and] at e0
  obtain ⟨rfl, rfl⟩ := e0
  refine .region (.m rfl (.m rfl (.nf rfl fo_87_0 (.u (.ld rfl ag_73) (.m rfl (.q (.indexAddr rfl rfl el_73 (by omega)) rfl (.u (.fieldAddr rfl fo_129_0) (.q (.loadRd (sz := 12) (j := i * 12 + 0) (p := rnR _ l) rfl ag_9 (by repeat' constructor) (fun h hp => slR_rd hp) (by omega) ((rn_cell (l := l) (i := i) (k := 0) (by omega) (by decide)).trans rfl)) rfl (.rtFold (x := x) (τ := τ) (l := l) hl (by repeat' constructor) rfl rfl rfl rfl rfl (.cv Tryz.func83 [_] (rparent_spec (l[i]'(by omega)).1 (by rw [← hpi]; omega)) ?_))))))))))
  refine .cv Tryz.func82 [_, _] (rplace_spec x τ (parentZ (l[i]'(by omega)).1) (by omega)) ?_
  refine .ui rfl rfl rfl (.nt (.condD rfl (fun h34 => ?_) (fun h34 => ?_)))
  ·refine .sr (.a rfl (.an rfl (.ret (.blk_r (.then_r (.then_r (.blk_r (.then_r ?_))))))))
   exact .dn rfl rfl (.inl ⟨dec_not hz (fun g => by rcases g _ (List.mem_map_of_mem (List.getElem_mem hi2)) with g1 | g1; exact okN_later hR.n hi2 hi1 g1; rw [hpi] at g1; have g2 := place_iff.2 g1; unfold placeZ at h34; omega), rfl, rfl⟩)
  refine .skip (.blk_n (.then_n (.region (.m rfl (.q (.add rfl rfl (by omega)) rfl (.an rfl ?_))))))
  exact .rk (i + 1) (⟨by omega, by omega, fun k hk hki => by by_cases e : k = i; (subst e; right; rw [hpi]; exact place_iff.1 (by unfold placeZ at h34; omega)); exact hno k hk (by omega)⟩) (by omega) ⟨rfl, rfl, trivial⟩
 refine .exit (.then_e (.then_e (.blk_e (.then_n (.sm rfl (.a rfl (.an rfl (.ret ?_))))))))
 exact .dn rfl rfl (.inr ⟨τ, x, dec_some hz (fun p hp => by obtain ⟨y, hy, rfl⟩ := List.mem_map.1 hp; obtain ⟨k, hk, rfl⟩ := List.mem_iff_getElem.1 hy; exact hno k hk (by omega)), rfl, rfl⟩)
theorem reads8_spec (s : Bs) (hs : s.length ≤ 70368744177664) : Fn Tryz.prog 28 #[vstr s] [] fun v L => v = .bool true ∧ L = [] := by
 refine Fn.intro Tryz.func28 rfl rfl fun F W => ?_
 refine .sr (.an rfl (.sm rfl (.oq (.c Tryz.func77 [_] (rdecode8_spec s hs)) ?_)))
 rintro v L' (⟨hz, rfl, rfl⟩ | ⟨τ, x, hz, rfl, rfl⟩)
 ·refine .m rfl (.u (.extract rfl rfl) (.u (.extract rfl rfl) (.a rfl (.an rfl (.sm rfl (.oq (.c Tryz.func13 [_] (sdecode_spec s hs)) ?_))))))
  rintro v L' (⟨-, rfl, rfl⟩ | ⟨υ, u, g, -, -⟩); rotate_left; (rw [hz] at g; cases g)
  refine .m rfl (.u (.extract rfl rfl) (.u (.extract rfl rfl) (.a rfl (.an rfl (.sm rfl (.oq (.c Tryz.func13 [_] (sdecode_spec s hs)) ?_))))))
  rintro v L' (⟨-, rfl, rfl⟩ | ⟨υ, u, g, -, -⟩); rotate_left; (rw [hz] at g; cases g)
  refine .m rfl (.u (.extract rfl rfl) (.u (.extract rfl rfl) (.a rfl (.an rfl (.seq (.sm rfl (.m rfl (.q (.as (v' := .bool false) (by rfl) (.int rfl rfl rfl)) rfl (.m rfl (.grun (t := 27) rfl rfl rfl (.m rfl (.grun (t := 27) rfl rfl rfl (.m rfl (.grun (t := 27) rfl rfl rfl (.q (.as (v' := .bool false) (by rfl) (.int rfl rfl rfl)) rfl (.u (.pickF rfl rfl) (.m rfl (.grun (t := 32) rfl rfl rfl (.m rfl (.grun (t := 32) rfl rfl rfl (.q (.as (v' := .bool true) (by rfl) (.ptreq rfl rfl Tryz.underlying28)) rfl (.grun (t := 32) rfl rfl rfl (.m rfl (.grun (t := 32) rfl rfl rfl (.q (.as (v' := .bool true) (by rfl) (.ptreq rfl rfl Tryz.underlying25)) rfl (.grun (t := 32) rfl rfl rfl (.q (.as (v' := .bool false) (by rfl) (.boolne rfl rfl Tryz.underlying4)) rfl ?_)))))))))))))))))))))))))))
  refine .u (.pickF rfl rfl) (.m rfl (.grun (t := 39) rfl rfl rfl (.m rfl (.grun (t := 39) rfl rfl rfl (.q (.as (v' := .bool true) (by rfl) (.ptreq rfl rfl Tryz.underlying28)) rfl (.grun (t := 39) rfl rfl rfl (.m rfl (.grun (t := 39) rfl rfl rfl (.q (.as (v' := .bool true) (by rfl) (.ptreq rfl rfl Tryz.underlying25)) rfl (.grun (t := 39) rfl rfl rfl (.q (.as (v' := .bool false) (by rfl) (.boolne rfl rfl Tryz.underlying4)) rfl (.u (.pickF rfl rfl) (.nt (.condF rfl (.sk (.seq (.sm rfl (.q (.as (v' := .bool true) (by rfl) (.ptreq rfl rfl Tryz.underlying25)) rfl (.nt (.condT rfl (.sr (.an rfl (.rt ?_)))))))))))))))))))))))
  exact .vv
 have hR := (read_form (dec_read hz).1).1
 have ho := right_ok hR
 have hsb := right_sesB hR
 refine .m rfl (.u (.extract rfl rfl) (.u (.extract rfl rfl) (.a rfl (.an rfl (.sm rfl (.oq (.c Tryz.func13 [_] (sdecode_spec s hs)) ?_))))))
 rintro v L' (⟨g, -, -⟩ | ⟨υ, t5, g, rfl, rfl⟩); (rw [hz] at g; cases g); obtain rfl : τ = υ := by rw [hz] at g; exact Option.some.inj g
 refine .m rfl (.u (.extract rfl rfl) (.u (.extract rfl rfl) (.a rfl (.an rfl (.sm rfl (.oq (.c Tryz.func13 [_] (sdecode_spec s hs)) ?_))))))
 rintro v L' (⟨g, -, -⟩ | ⟨υ, t7, g, rfl, rfl⟩); (rw [hz] at g; cases g); obtain rfl : τ = υ := by rw [hz] at g; exact Option.some.inj g
 refine .m rfl (.u (.extract rfl rfl) (.u (.extract rfl rfl) (.a rfl (.an rfl (.seq (.sm rfl (.m rfl (.q (.as (v' := .bool false) (by rfl) (.int rfl rfl rfl)) rfl (.m rfl (.grun (t := 27) rfl rfl rfl (.m rfl (.grun (t := 27) rfl rfl rfl (.m rfl (.grun (t := 27) rfl rfl rfl (.q (.as (v' := .bool false) (by rfl) (.int rfl rfl rfl)) rfl (.u (.pickF rfl rfl) (.m rfl (.grun (t := 32) rfl rfl rfl (.m rfl (.grun (t := 32) rfl rfl rfl (.q (.as (v' := .bool false) (by rfl) (.ptreq rfl rfl Tryz.underlying28)) rfl (.grun (t := 32) rfl rfl rfl (.m rfl (.grun (t := 32) rfl rfl rfl (.q (.as (v' := .bool false) (by rfl) (.ptreq rfl rfl Tryz.underlying25)) rfl (.grun (t := 32) rfl rfl rfl (.q (.as (v' := .bool false) (by rfl) (.boolne rfl rfl Tryz.underlying4)) rfl ?_)))))))))))))))))))))))))))
 refine .u (.pickF rfl rfl) (.m rfl (.grun (t := 39) rfl rfl rfl (.m rfl (.grun (t := 39) rfl rfl rfl (.q (.as (v' := .bool false) (by rfl) (.ptreq rfl rfl Tryz.underlying28)) rfl (.grun (t := 39) rfl rfl rfl (.m rfl (.grun (t := 39) rfl rfl rfl (.q (.as (v' := .bool false) (by rfl) (.ptreq rfl rfl Tryz.underlying25)) rfl (.grun (t := 39) rfl rfl rfl (.q (.as (v' := .bool false) (by rfl) (.boolne rfl rfl Tryz.underlying4)) rfl (.u (.pickF rfl rfl) (.nt (.condF rfl (.sk (.seq (.sm rfl (.q (.as (v' := .bool false) (by rfl) (.ptreq rfl rfl Tryz.underlying25)) rfl (.nt (.condF rfl (.sk (.seq (.add (p := nilA) nilA_ok (.region (.m rfl (.q (.to (v' := .agg (ptC (ptS 3 [47] [111, 118, 101, 114] (-1))).toArray) (.build (us := [(0, _), (1, _), (2, _), (5, _)]) fl_37 ze_37 rfl rfl (by simp [isCell])) rfl) rfl ?_))))))))))))))))))))))))))
 refine .q (.buildN (pl := [(0, 1), (1, 1), (2, 1), (3, 8)]) (us := [(0, vint 1), (3, .agg (ptC (ptS 3 [47] [111, 118, 101, 114] (-1))).toArray)]) (cells := [vint 1, vint 0, vint 0] ++ ptC (ptS 3 [47] [111, 118, 101, 114] (-1))) Tryz.underlying39 (by kernel_rfl) ze_39 rfl (fill_entry _ _ _ _ _ _ _ _ _)) rfl (.oq (.call Tryz.func12 rfl rfl (vs := [_, _]) rfl (trapply_spec t5 τ 1 0 0 (ptS 3 [47] [111, 118, 101, 114] (-1)) [] nilA (txS_ok _ (by decide)) 256 ho (by decide))) ?_)
 rintro v L' ⟨u, e, rfl, -, ⟨a1, c1, rfl⟩, rfl⟩
 refine .nt (.sm rfl (.m rfl (.cv Tryz.func26 [_, _] (alike7_spec t7 x τ 256 ho (by decide) hsb) ?_)))
 refine .an rfl (.ret ?_)
 exact .vv
theorem nums8_len {ns : List Int} (h : ∀ n ∈ ns, I64 n) : (ns.flatMap numB).length ≤ ns.length * 10 := fm_most8 fun n hn => numB_len8 (h n hn)
def nd8 (z : Rno) : Bs := ndB (z.1, z.2.2)
theorem nd8_all (l : List Rno) : l.flatMap nd8 = (ndsZ l).flatMap ndB := by unfold ndsZ; rw [List.flatMap_map]; rfl
theorem nd8_len {l : List Rno} (h : ∀ z ∈ l, PnW (z.1, z.2.2)) (hl : l.length ≤ 1048576) : (l.flatMap nd8).length ≤ 36909875200000 := by
 rw [nd8_all]
 exact nodes_len8 (fun y hy => by obtain ⟨z, hz, rfl⟩ := List.mem_map.1 hy; exact h z hz) (by unfold ndsZ; rw [List.length_map]; exact hl)
theorem lay_all {zx : Int} {l : List Rno} {ss : SsM} : txtB headB ++ numB zx ++ cntB l.length ++ l.flatMap nd8 ++ cntB ss.length ++ ss.flatMap ssB = layB zx (ndsZ l) ss := by
 unfold layB nodesB sessB
 rw [nd8_all, show (ndsZ l).length = l.length from List.length_map _]
 simp only [List.append_assoc]
theorem nd8_step (t : Bs) (z : Rno) : t ++ txtB z.1 ++ txtB z.2.2.data ++ cntB z.2.2.acl.length ++ z.2.2.acl.flatMap acB ++ (nums7 z.2.2.st).flatMap numB = t ++ nd8 z := by
 unfold nd8 ndB aclB
 simp only [List.append_assoc]
theorem ss8_step (t : Bs) (x : SN) : t ++ [x.1, x.2.1].flatMap numB ++ txtB x.2.2 = t ++ ssB x := by
 unfold ssB
 simp [List.append_assoc]
theorem r8nums_spec (va : Value) (ns : List Int) (p : HP) (hp : ∀ h : Hp, p h → rdS 1 h va ns.length (ints ns)) (hi : ∀ n ∈ ns, I64 n) (hl : ns.length ≤ 1048576) : Fn Tryz.prog 118 #[va] [p] fun v L => v = vstr (ns.flatMap numB) ∧ L = [p] := by
 refine Fn.intro Tryz.func118 rfl rfl fun F W => ?_
 have hnl := nums8_len hi
 refine .rdAny (p := p) hp (by repeat' constructor) fun aa ca e _ => ?_
 subst e
 refine .sr (.an rfl (.sr (.an rfl (.seq (.sr (.an rfl (.block (.loopK (ι := Nat × Bs) (fun q E => (4, vint q.1) :: (3, vstr q.2) :: E) (fun q => []) (fun q => q.1 ≤ ns.length ∧ q.2 = (ns.take q.1).flatMap numB) (fun q => ns.length - q.1) (0, []) (ts := [0, 2]) (.cons rfl (.cons rfl (.nil))) (⟨Nat.zero_le _, rfl⟩) ⟨rfl, rfl, rfl, rfl, trivial⟩ (by repeat' constructor) ?_))))))))
 rintro ⟨i, t⟩ ⟨hj, ht⟩
 dsimp only
 dsimp only at hj ht
 have hft := fm_take numB ns i
 rw [← ht] at hft
 refine .seq (.sm rfl (.m rfl (.q (.slen rfl Tryz.underlying45 rfl) rfl (.ui rfl rfl rfl (.nt (.condD rfl (fun h8 => ?_) (fun h8 => ?_)))))))
 ·have hi2 : i < ns.length := by omega
  have h64 := hi _ (List.getElem_mem hi2)
  have hb10 := numB_len8 h64
  refine .rdShape (p := p) hp (by repeat' constructor) (by omega) fun ba oa e => ?_
  subst e
  refine .sk (.seq (.block (.region (.m rfl (.m rfl (.m rfl (.q (.indexAddr rfl rfl el_45 (by omega)) rfl (.q (.loadEl (p := p) (i := i * 1) (v := vint ns[i]) rfl ag_3 (by repeat' constructor) hp (by rw [Nat.mul_one]; simp [ints, hi2])) rfl (.cv Tryz.func116 [_] (r1num_spec ns[i] h64) ?_)))))))))
  refine .q (.concat rfl rfl (by omega)) rfl (.a rfl (.nil (.blk_n (.then_n (.region (.m rfl (.q (.add rfl rfl (by omega)) rfl (.an rfl ?_))))))))
  exact .rk ((i + 1, t ++ numB ns[i])) (⟨by dsimp only; omega, by dsimp only; rw [fm_step numB hi2, ht]⟩) (by dsimp only; omega) ⟨rfl, rfl, rfl, rfl, trivial⟩
 have hie : i = ns.length := by omega
 have hfin : t = ns.flatMap numB := by rw [ht, hie, List.take_length]
 subst hfin
 refine .exit (.then_e (.then_e (.blk_e (.then_n (.sm rfl (.an rfl (.ret ?_)))))))
 exact .vv
set_option maxHeartbeats 1000000 in
theorem rlay8_spec (zx : Int) (u us : Value) (l : List Rno) (ss : SsM) (hzx : I64 zx) (hl : l.length ≤ 1048576) (hw : ∀ z ∈ l, PnW (z.1, z.2.2)) (hsl0 : ss.length ≤ 1048576) (hsw : ∀ x ∈ ss, SnW x) : Fn Tryz.prog 76 #[vint zx, u, us] [rnR u l, rsR us ss, bigR inA l] fun v L => v = vstr (layB zx (ndsZ l) ss) ∧ L = [rnR u l, rsR us ss, bigR inA l] := by
 refine Fn.intro Tryz.func76 rfl rfl fun F W => ?_
 refine .slAny (v := u) (by repeat' constructor) fun an cn e0 _ => ?_
 subst e0
 refine .slAny (v := us) (by repeat' constructor) fun as1 cs e0 _ => ?_
 subst e0
 obtain ⟨hd, hhd⟩ : ∃ hd, hd = txtB headB ++ numB zx ++ cntB l.length := ⟨_, rfl⟩
 have h64 : U64 = 18446744073709551616 := rfl
 have hb1 := txtB_len8 (s := headB) (by decide)
 have hb2 := numB_len8 hzx
 have hb3 : (cntB l.length).length ≤ 10 := sev_len10 (by omega)
 have hb4 : (cntB ss.length).length ≤ 10 := sev_len10 (by omega)
 have hhl : hd.length ≤ 1048606 := by rw [hhd, List.length_append, List.length_append]; omega
 have hnl := nd8_len hw hl
 have hsl : (ss.flatMap ssB).length ≤ 1099550000000 := sess_len8 hsw hsl0
 refine .sr (.an rfl (.sr (.cv Tryz.func115 [_] (r1txt_spec headB (by decide)) ?_)))
 refine .m rfl (.cv Tryz.func116 [_] (r1num_spec zx hzx) ?_)
 refine .q (.concat rfl rfl (by first | omega | (simp only [List.length_append]; omega) | (simp only [List.length_append] at *; omega))) rfl (.m rfl (.q (.slen rfl Tryz.underlying73 rfl) rfl (.cv Tryz.func117 [_] (r1cnt_spec l.length (by omega)) ?_)))
 refine .q (.concat rfl rfl (by first | omega | (simp only [List.length_append]; omega) | (simp only [List.length_append] at *; omega))) rfl (.a rfl (.nil ?_))
 rw [← hhd]
 refine .then_n (.seq (.sr (.an rfl (.block (.loopK (ι := Nat × Bs) (fun q E => (8, vint q.1) :: (7, vstr q.2) :: E) (fun q => []) (fun q => q.1 ≤ l.length ∧ q.2 = hd ++ (l.take q.1).flatMap nd8) (fun q => l.length - q.1) (0, hd) (ts := [1, 2, 6]) (.cons rfl (.cons rfl (.cons rfl (.nil)))) (⟨Nat.zero_le _, by simp⟩) ⟨rfl, rfl, rfl, rfl, rfl, trivial⟩ (by repeat' constructor) ?_)))))
 rintro ⟨i, t⟩ ⟨hi, ht⟩
 dsimp only
 dsimp only at hi ht
 have htl : t.length = hd.length + ((l.take i).flatMap nd8).length := by rw [ht, List.length_append]
 refine .seq (.sm rfl (.m rfl (.q (.slen rfl Tryz.underlying73 rfl) rfl (.ui rfl rfl rfl (.nt (.condD rfl (fun h23 => ?_) (fun h23 => ?_)))))))
 ·have hi2 : i < l.length := by omega
  have hfs := fm_stepL nd8 hi2
  have hz := hw _ (List.getElem_mem hi2)
  refine .rdAny (p := bigR inA l) (big_rd hi2) (by repeat' constructor) fun aa ca ea _ => ?_
  have hrd : ∀ h : Hp, bigR inA l h → rdS 2 h (.slice aa l[i].2.2.acl.length ca) l[i].2.2.acl.length (l[i].2.2.acl.flatMap acC) := fun h hp => by have g := big_rd hi2 h hp; rw [ea] at g; exact g
  have hzl := hz.len
  have hzp := txtB_len8 (s := l[i].1) (by have := hz.p; dsimp only at this; omega)
  have hzd := txtB_len8 (s := l[i].2.2.data) hz.d
  have hzf : l[i].2.2.acl.length ≤ 1048576 := hz.acl.few
  have hzc : (cntB l[i].2.2.acl.length).length ≤ 10 := sev_len10 (by omega)
  have hza : (l[i].2.2.acl.flatMap acB).length ≤ 33000000 := by have h := hz.acl.long; unfold aclB at h; rw [List.length_append] at h; dsimp only at h; omega
  have hzn := nums8_len hz.st
  have hzn7 : (nums7 l[i].2.2.st).length = 7 := rfl
  try dsimp only at hzn
  refine .slShape (T := 129) (sz := 12) (v := .slice an l.length cn) (xs := l.flatMap rnC) (by repeat' constructor) (by omega) fun bn bn' e0 mbn _ => ?_
  simp only [Value.slice.injEq, true_and] at e0
  obtain ⟨rfl, rfl⟩ := e0
  refine .sk (.seq (.block (.seq (.draw [] [[0, 1, 2, 3, 4, 5, 6, 7, 8, 9, 10, 11, 12, 13, 14, 15, 16, 17, 18, 19, 20, 21, 22, 23]] mixed (by kernel_rfl) (.go [rnR _ l] (by repeat' constructor) (.mv rfl rfl (.mv rfl rfl (.mv rfl rfl (.kv rfl (.indexAddr rfl rfl el_73 (by omega)) (.kv rfl (.fieldAddr rfl fo_129_0) (.kv rfl (.loadRd (sz := 12) (j := i * 12 + 0) (p := rnR _ l) rfl ag_9 (by repeat' constructor) (fun h hp => slR_rd hp) (by omega) ((rn_cell (l := l) (i := i) (k := 0) (by omega) (by decide)).trans rfl)) (.m rfl (by kernel_rfl) (.c Tryz.func115 [_] (r1txt_spec l[i].1 (by have := hz.p; dsimp only at this; omega))) (by repeat' constructor) ?_))))))))))))
  refine D.kv rfl (.concat rfl rfl (by first | omega | (simp only [List.length_append]; omega) | (simp only [List.length_append] at *; omega))) (.mv rfl rfl (.mv rfl rfl (.kv rfl (.indexAddr rfl rfl el_73 (by omega)) (.kv rfl (.fieldAddr rfl fo_129_1) (.kv rfl (.loadRd (sz := 12) (j := i * 12 + 1) (p := rnR _ l) rfl ag_9 (by repeat' constructor) (fun h hp => slR_rd hp) (by omega) ((rn_cell (l := l) (i := i) (k := 1) (by omega) (by decide)).trans rfl)) (.m rfl (by kernel_rfl) (.c Tryz.func115 [_] (r1txt_spec l[i].2.2.data (by have := hz.d; dsimp only at this; omega))) (by repeat' constructor) ?_))))))
  refine D.kv rfl (.concat rfl rfl (by first | omega | (simp only [List.length_append]; omega) | (simp only [List.length_append] at *; omega))) (.mv rfl rfl (.mv rfl rfl (.kv rfl (.indexAddr rfl rfl el_73 (by omega)) (.kv rfl (.fieldAddr rfl fo_129_2) (.kv rfl (.to (v' := .slice aa l[i].2.2.acl.length ca) (.loadRd (sz := 12) (j := i * 12 + 2) (p := rnR _ l) rfl ag_34 (by repeat' constructor) (fun h hp => slR_rd hp) (by omega) ((rn_cell (l := l) (i := i) (k := 2) (by omega) (by decide)).trans rfl)) ea) (.kv rfl (.slen rfl Tryz.underlying34 rfl) (.m rfl (by kernel_rfl) (.c Tryz.func117 [_] (r1cnt_spec l[i].2.2.acl.length (by omega))) (by repeat' constructor) ?_)))))))
  refine D.kv rfl (.concat rfl rfl (by first | omega | (simp only [List.length_append]; omega) | (simp only [List.length_append] at *; omega))) (.kv rfl (.assign rfl) (.pf (.seq (.sr (.an rfl (.block (.loopK (ι := Nat × Bs) (fun q E => (9, vint q.1) :: (7, vstr q.2) :: E) (fun q => []) (fun q => q.1 ≤ l[i].2.2.acl.length ∧ q.2 = (t ++ txtB l[i].1 ++ txtB l[i].2.2.data ++ cntB l[i].2.2.acl.length) ++ (l[i].2.2.acl.take q.1).flatMap acB) (fun q => l[i].2.2.acl.length - q.1) (0, (t ++ txtB l[i].1 ++ txtB l[i].2.2.data ++ cntB l[i].2.2.acl.length)) (ts := [1, 2, 6, 8, 20, 21, 22, 23, 26, 27, 28, 29, 30, 31, 32, 33, 34, 35, 36, 37, 38, 39, 40, 41, 42, 43, 44, 45, 46, 47, 48]) (.cons rfl (.cons rfl (.cons rfl (.cons rfl (.cons rfl (.cons rfl (.cons rfl (.cons rfl (.cons rfl (.cons rfl (.cons rfl (.cons rfl (.cons rfl (.cons rfl (.cons rfl (.cons rfl (.cons rfl (.cons rfl (.cons rfl (.cons rfl (.cons rfl (.cons rfl (.cons rfl (.cons rfl (.cons rfl (.cons rfl (.cons rfl (.cons rfl (.cons rfl (.cons rfl (.cons rfl (.nil)))))))))))))))))))))))))))))))) (⟨Nat.zero_le _, by simp⟩) ⟨rfl, rfl, rfl, rfl, rfl, rfl, rfl, rfl, rfl, rfl, rfl, rfl, rfl, rfl, rfl, rfl, rfl, rfl, rfl, rfl, rfl, rfl, rfl, rfl, rfl, rfl, rfl, rfl, rfl, rfl, rfl, rfl, rfl, trivial⟩ (by repeat' constructor) ?_)))))))
  rintro ⟨j, s⟩ ⟨hj, hs⟩
  dsimp only
  dsimp only at hj hs
  have hfj := fm_take acB l[i].2.2.acl j
  have hsl2 : s.length ≤ 36912000000000 := by rw [hs]; simp only [List.length_append]; omega
  refine .seq (.sm rfl (.m rfl (.m rfl (.q (.indexAddr rfl rfl el_73 (by omega)) rfl (.u (.fieldAddr rfl fo_129_2) (.q (.to (v' := .slice aa l[i].2.2.acl.length ca) (.loadRd (sz := 12) (j := i * 12 + 2) (p := rnR _ l) rfl ag_34 (by repeat' constructor) (fun h hp => slR_rd hp) (by omega) ((rn_cell (l := l) (i := i) (k := 2) (by omega) (by decide)).trans rfl)) ea) rfl (.q (.slen rfl Tryz.underlying34 rfl) rfl (.ui rfl rfl rfl (.nt (.condD rfl (fun h56 => ?_) (fun h56 => ?_)))))))))))
  ·have hj2 : j < l[i].2.2.acl.length := by omega
   have hai := (hz.acl.each _ (List.getElem_mem hj2)).1
   have has := (hz.acl.each _ (List.getElem_mem hj2)).2
   have hn64 := hai.n
   try dsimp only at hn64 has
   have hnb := numB_len8 hn64
   have htb := txtB_len8 has
   refine .rdShape (p := bigR inA l) hrd (by repeat' constructor) (by omega) fun ba oa e1 => ?_
   subst e1
   refine .sk (.seq (.block (.draw [] [[0, 1, 2, 3, 4, 5, 6, 7, 8, 9, 10, 11, 12, 13, 14, 15, 16, 17, 18, 19, 20, 21, 22, 23]] mixed (by kernel_rfl) (.go [rnR _ l, bigR inA l] (by repeat' constructor) (.mv rfl rfl (.mv rfl rfl (.mv rfl rfl (.kv rfl (.indexAddr rfl rfl el_73 (by omega)) (.kv rfl (.fieldAddr rfl fo_129_2) (.kv rfl (.to (v' := .slice (some ⟨ba, oa, none⟩) l[i].2.2.acl.length ca) (.loadRd (sz := 12) (j := i * 12 + 2) (p := rnR _ l) rfl ag_34 (by repeat' constructor) (fun h hp => slR_rd hp) (by omega) ((rn_cell (l := l) (i := i) (k := 2) (by omega) (by decide)).trans rfl)) ea) (.mv rfl rfl (.kv rfl (.indexAddr rfl rfl el_34 (by omega)) (.kv rfl (.fieldAddr rfl fo_90_0) (.kv rfl (.loadRd (sz := 2) (j := j * 2 + 0) (p := bigR inA l) (v := vint l[i].2.2.acl[j].1) rfl ag_3 (by repeat' constructor) hrd (by simp) ((flatMap_cell (f := acC) (sz := 2) (k := 0) (fun _ _ => rfl) hj2 (by decide)).trans rfl)) ?_))))))))))))))
   refine D.m rfl (by kernel_rfl) (.c Tryz.func116 [_] (r1num_spec l[i].2.2.acl[j].1 hn64)) (by repeat' constructor) ?_
   refine D.kv rfl (.concat rfl rfl (by first | omega | (simp only [List.length_append]; omega) | (simp only [List.length_append] at *; omega))) (.mv rfl rfl (.mv rfl rfl (.kv rfl (.indexAddr rfl rfl el_73 (by omega)) (.kv rfl (.fieldAddr rfl fo_129_2) (.kv rfl (.to (v' := .slice (some ⟨ba, oa, none⟩) l[i].2.2.acl.length ca) (.loadRd (sz := 12) (j := i * 12 + 2) (p := rnR _ l) rfl ag_34 (by repeat' constructor) (fun h hp => slR_rd hp) (by omega) ((rn_cell (l := l) (i := i) (k := 2) (by omega) (by decide)).trans rfl)) ea) (.mv rfl rfl (.kv rfl (.indexAddr rfl rfl el_34 (by omega)) (.kv rfl (.fieldAddr rfl fo_90_1) (.kv rfl (.loadRd (sz := 2) (j := j * 2 + 1) (p := bigR inA l) (v := vstr l[i].2.2.acl[j].2) rfl ag_9 (by repeat' constructor) hrd (by simp; omega) ((flatMap_cell (f := acC) (sz := 2) (k := 1) (fun _ _ => rfl) hj2 (by decide)).trans rfl)) (.m rfl (by kernel_rfl) (.c Tryz.func115 [_] (r1txt_spec l[i].2.2.acl[j].2 (by omega))) (by repeat' constructor) ?_))))))))))
   refine D.kv rfl (.concat rfl rfl (by first | omega | (simp only [List.length_append]; omega) | (simp only [List.length_append] at *; omega))) (.kv rfl (.assign rfl) (.ph (.fin (.blk_n (.then_n (.region (.m rfl (.q (.add rfl rfl (by omega)) rfl (.an rfl ?_)))))))))
   exact .rk ((j + 1, s ++ numB l[i].2.2.acl[j].1 ++ txtB l[i].2.2.acl[j].2)) (⟨by dsimp only; omega, by dsimp only; rw [fm_step acB hj2, hs]; unfold acB; simp only [List.append_assoc]⟩) (by dsimp only; omega) ⟨rfl, rfl, rfl, rfl, rfl, rfl, rfl, rfl, rfl, rfl, rfl, rfl, rfl, rfl, rfl, rfl, rfl, rfl, rfl, rfl, rfl, rfl, rfl, rfl, rfl, rfl, rfl, rfl, rfl, rfl, rfl, rfl, rfl, trivial⟩
  have hje : j = l[i].2.2.acl.length := by omega
  refine .exit (.then_e (.then_e (.blk_e (.then_n (.sm rfl (.m rfl (.q (.indexAddr rfl rfl el_73 (by omega)) rfl (.u (.fieldAddr rfl fo_129_3) (.q (.loadRdA (sz := 12) (j := i * 12 + 3) (k := 9) (p := rnR _ l) (vs := stC l[i].2.2.st) rfl ag_92 (by repeat' constructor) (fun h hp => slR_rd hp) (by simp) (by omega) (by omega) (rn_stat hi2)) rfl (.oq (.allocA ze_92) ?_))))))))))
  rintro v L' ⟨b10, rfl, rfl⟩
  refine .oq (.storeA rfl rfl ?c87 sz_92 ?c90 ?c88 (nfz0 _ _)) ?_
  case c87 => intro v hv; simp only [stC, List.mem_cons, List.not_mem_nil, or_false] at hv; rcases hv with rfl | rfl | rfl | rfl | rfl | rfl | rfl | rfl | rfl <;> rfl
  case c90 => rfl
  case c88 => simp [stC]
  rintro v L' rfl
  refine .nil (.ptCast (b := b10) (l' := stC l[i].2.2.st) (by repeat' constructor) rfl (.then_n (.region (.m rfl (.u (.fieldAddr rfl fo_92_0) (.u (.ld rfl ag_3) (.u (.fieldAddr rfl fo_92_1) (.u (.ld rfl ag_3) (.u (.fieldAddr rfl fo_92_2) (.u (.ld rfl ag_3) (.u (.fieldAddr rfl fo_92_3) (.u (.ld rfl ag_3) (.u (.fieldAddr rfl fo_92_4) (.u (.ld rfl ag_3) (.u (.fieldAddr rfl fo_92_5) (.u (.ld rfl ag_3) (.u (.fieldAddr rfl fo_92_6) (.u (.ld rfl ag_3) (.oq (.buildSlice1 (vs := [_, _, _, _, _, _, _]) el_45 ze_3 rfl rfl rfl rfl rfl (by decide)) ?_)))))))))))))))))))
  rintro v L' ⟨b11, rfl, rfl⟩
  refine .oq (.call Tryz.func118 rfl rfl (vs := [_]) rfl (r8nums_spec _ (nums7 l[i].2.2.st) (ptc b11 (ints (nums7 l[i].2.2.st)) 3) (fun h hp => slR_rd (slR_pt hp rfl)) hz.st (by rw [hzn7]; decide))) ?_
  rintro v L' ⟨rfl, rfl⟩
  refine .q (.concat rfl rfl (by first | omega | (simp only [List.length_append]; omega) | (simp only [List.length_append] at *; omega))) rfl (.a rfl (.nil (.blk_n (.then_n (.region (.m rfl (.q (.add rfl rfl (by omega)) rfl (.an rfl ?_))))))))
  exact .rk ((i + 1, s ++ (nums7 l[i].2.2.st).flatMap numB)) (⟨by dsimp only; omega, by dsimp only; rw [fm_step nd8 hi2, ← List.append_assoc, ← ht, hs, hje, List.take_length]; exact nd8_step t l[i]⟩) (by dsimp only; omega) ⟨rfl, rfl, rfl, rfl, rfl, trivial⟩
 have hie : i = l.length := by omega
 have hfin : t = hd ++ l.flatMap nd8 := by rw [ht, hie, List.take_length]
 subst hfin
 refine .exit (.then_e (.then_e (.blk_e (.then_n (.sm rfl (.m rfl (.q (.slen rfl Tryz.underlying59 rfl) rfl (.cv Tryz.func117 [_] (r1cnt_spec ss.length (by omega)) ?_))))))))
 refine .q (.concat rfl rfl (by first | omega | (simp only [List.length_append]; omega) | (simp only [List.length_append] at *; omega))) rfl (.an rfl (.seq (.sr (.an rfl (.block (.loopK (ι := Nat × Bs) (fun q E => (11, vint q.1) :: (7, vstr q.2) :: E) (fun q => []) (fun q => q.1 ≤ ss.length ∧ q.2 = (hd ++ l.flatMap nd8 ++ cntB ss.length) ++ (ss.take q.1).flatMap ssB) (fun q => ss.length - q.1) (0, (hd ++ l.flatMap nd8 ++ cntB ss.length)) (ts := [2, 6]) (.cons rfl (.cons rfl (.nil))) (⟨Nat.zero_le _, by simp⟩) ⟨rfl, rfl, rfl, rfl, trivial⟩ (by repeat' constructor) ?_))))))
 rintro ⟨q, s⟩ ⟨hq, hs⟩
 dsimp only
 dsimp only at hq hs
 have hfq := fm_take ssB ss q
 have hsl2 : s.length ≤ 38200000000000 := by rw [hs]; simp only [List.length_append]; omega
 refine .seq (.sm rfl (.m rfl (.q (.slen rfl Tryz.underlying59 rfl) rfl (.ui rfl rfl rfl (.nt (.condD rfl (fun h113 => ?_) (fun h113 => ?_)))))))
 ·have hq2 : q < ss.length := by omega
  have hx := hsw _ (List.getElem_mem hq2)
  have hxi := hx.i
  have hxt := hx.t
  have hxs := hx.s
  have hx64 : ∀ n ∈ ([ss[q].1, ss[q].2.1]), I64 n := fun n hn => by simp only [List.mem_cons, List.not_mem_nil, or_false] at hn; rcases hn with rfl | rfl; exact hxi; exact hxt
  have hxn := nums8_len hx64
  have hxb := txtB_len8 hxs
  have hx2 : ([ss[q].1, ss[q].2.1]).length = 2 := rfl
  refine .slShape (T := 127) (sz := 3) (v := .slice as1 ss.length cs) (xs := ss.flatMap rsC) (by repeat' constructor) (by omega) fun bs bs' e0 mbs _ => ?_
  simp only [Value.slice.injEq, true_and] at e0
  obtain ⟨rfl, rfl⟩ := e0
  refine .sk (.seq (.block (.draw [11, 12] [[0, 1, 2, 3, 4, 5, 6, 7, 8, 9, 10, 14, 15, 16, 17, 18, 11, 12, 13, 19], [20, 21]] mixed (by kernel_rfl) (.go [rsR _ ss] (by repeat' constructor) (.k rfl (.move rfl) (.mv rfl rfl (.mv rfl rfl (.kv rfl (.indexAddr rfl rfl el_59 (by omega)) (.kv rfl (.fieldAddr rfl fo_127_0) (.kv rfl (.loadRd (sz := 3) (j := q * 3 + 0) (p := rsR _ ss) rfl ag_3 (by repeat' constructor) (fun h hp => slR_rd hp) (by omega) ((rs_cell (l := ss) (i := q) (k := 0) (by omega) (by decide)).trans rfl)) (.mv rfl rfl (.mv rfl rfl (.kv rfl (.indexAddr rfl rfl el_59 (by omega)) (.kv rfl (.fieldAddr rfl fo_127_1) (.kv rfl (.loadRd (sz := 3) (j := q * 3 + 1) (p := rsR _ ss) rfl ag_3 (by repeat' constructor) (fun h hp => slR_rd hp) (by omega) ((rs_cell (l := ss) (i := q) (k := 1) (by omega) (by decide)).trans rfl)) ?_)))))))))))))))
  refine D.k rfl (.move rfl) (.k rfl (.move rfl) (.k rfl (.indexAddr rfl rfl el_59 (by omega)) (.k rfl (.fieldAddr rfl fo_127_2) (.k rfl (.loadRd (sz := 3) (j := q * 3 + 2) (p := rsR _ ss) rfl ag_9 (by repeat' constructor) (fun h hp => slR_rd hp) (by omega) ((rs_cell (l := ss) (i := q) (k := 2) (by omega) (by decide)).trans rfl)) (.hh rfl (.buildSlice1 (vs := [_, _]) el_45 ze_3 rfl rfl rfl rfl rfl (by decide)) ?_)))))
  rintro v L' ⟨b16, rfl, rfl⟩
  refine D.hh rfl (.call Tryz.func118 rfl rfl (vs := [_]) rfl (r8nums_spec _ ([ss[q].1, ss[q].2.1]) (ptc b16 (ints ([ss[q].1, ss[q].2.1])) 3) (fun h hp => slR_rd (slR_pt hp rfl)) hx64 (by rw [hx2]; decide))) ?_
  rintro v L' ⟨rfl, rfl⟩
  refine D.kv rfl (.concat rfl rfl (by first | omega | (simp only [List.length_append]; omega) | (simp only [List.length_append] at *; omega))) (.m rfl (by kernel_rfl) (.c Tryz.func115 [_] (r1txt_spec ss[q].2.2 (by omega))) (by repeat' constructor) ?_)
  refine D.ph (.g0 (.kv rfl (.concat rfl rfl (by first | omega | (simp only [List.length_append]; omega) | (simp only [List.length_append] at *; omega))) (.kv rfl (.assign rfl) (.ph (.fin (.blk_n (.then_n (.region (.m rfl (.q (.add rfl rfl (by omega)) rfl (.an rfl ?_)))))))))))
  exact .rk ((q + 1, s ++ ([ss[q].1, ss[q].2.1]).flatMap numB ++ txtB ss[q].2.2)) (⟨by dsimp only; omega, by dsimp only; rw [fm_step ssB hq2, ← List.append_assoc, ← hs]; exact ss8_step s ss[q]⟩) (by dsimp only; omega) ⟨rfl, rfl, rfl, rfl, trivial⟩
 have hqe : q = ss.length := by omega
 have hfin : s = layB zx (ndsZ l) ss := by rw [hs, hqe, List.take_length, hhd]; exact lay_all
 subst hfin
 refine .exit (.then_e (.then_e (.blk_e (.then_n (.sm rfl (.an rfl (.ret ?_)))))))
 exact .vv
theorem rencode8_spec (x : Nat) (τ : Tr) (N : Nat) (ho : τ.Ok N) (hN : N ≤ 1048576) (hw : TrW τ) : Fn Tryz.prog 27 #[vptr x] [refR x τ] fun v L => v = vstr (encZ τ) ∧ L = [refR x τ] := by
 refine Fn.intro Tryz.func27 rfl rfl fun F W => ?_
 refine .rtOpen (x := x) (τ := τ) (by repeat' constructor) fun an cn as1 cs l hl => ?_
 have hll := nds_len hl
 have hlw : ∀ z ∈ l, PnW (z.1, z.2.2) := fun z hz => hw.nd _ (by rw [← hl]; exact List.mem_map_of_mem hz)
 have hfew := ho.few
 have hsf := ho.sfew
 refine .sr (.an rfl (.seq (.draw [12] [[0, 1, 2, 3, 4, 5, 6, 7, 8, 9, 10, 11, 12], [13]] mixed (by kernel_rfl) (.g0 (.mv rfl rfl (.nf rfl rfl rfl fo_87_2 (.kv rfl (.ld rfl ag_3) (.mv rfl rfl (.nf rfl rfl rfl fo_87_0 (.kv rfl (.ld rfl ag_73) (.mv rfl rfl (.nf rfl rfl rfl fo_87_1 (.kv rfl (.ld rfl ag_59) (.hh rfl (.call Tryz.func76 rfl rfl (vs := [_, _, _]) rfl (rlay8_spec τ.zx _ _ l τ.sess hw.zx (by omega) hlw (by omega) hw.ss)) ?_))))))))))))))
 rintro v L' ⟨rfl, rfl⟩
 refine D.ph (.g0 (.kv rfl (.assign rfl) (.pf (.ret (.rtFold (x := x) (τ := τ) (l := l) hl (by repeat' constructor) rfl rfl rfl rfl rfl ?_)))))
 rw [hl]
 exact .vv
def rawN (τ : Tr) (z : Rno) : Tr := layZ τ z.1 z.2.2.data z.2.2.acl z.2.2.st
def rawS (τ : Tr) (x : SN) : Tr := layS τ x.1 x.2.1 x.2.2
def rawNs (l : List Rno) : Tr := l.foldl rawN newT
def rawSs (l : List Rno) (ss : SsM) : Tr := ss.foldl rawS (rawNs l)
def rawZ (l : List Rno) (ss : SsM) (zx : Int) : Tr := zxT (rawSs l ss) zx
theorem rawN_step {l : List Rno} {i : Nat} (hi : i < l.length) : rawNs (l.take (i + 1)) = rawN (rawNs (l.take i)) l[i] := by
 unfold rawNs; rw [List.take_succ_eq_append_getElem hi, List.foldl_append]; rfl
theorem rawS_step (l : List Rno) {ss : SsM} {i : Nat} (hi : i < ss.length) : rawSs l (ss.take (i + 1)) = rawS (rawSs l (ss.take i)) ss[i] := by
 unfold rawSs; rw [List.take_succ_eq_append_getElem hi, List.foldl_append]; rfl
structure RnW (z : Rno) : Prop where
 d : z.2.2.data.length ≤ 1048576
 p : z.1.length ≤ 1048576
 acl : AclW z.2.2.acl
 st : ∀ n ∈ nums7 z.2.2.st, I64 n
structure RawA (p : HP) (u us : Value) (l : List Rno) (ss : SsM) (zx : Int) : Prop where
 cN : ∀ h : Hp, p h → rdS 12 h u l.length (l.flatMap rnC)
 cS : ∀ h : Hp, p h → rdS 3 h us ss.length (ss.flatMap rsC)
 acl : ∀ z ∈ l, ∀ h : Hp, p h → rdS 2 h z.2.1 z.2.2.acl.length (z.2.2.acl.flatMap acC)
 cell : ∀ z ∈ l, isCell z.2.1 = true
 few : 1 + l.length + ss.length ≤ 1048576
 w : ∀ z ∈ l, RnW z
 sw : ∀ x ∈ ss, SnW x
 num : I64 zx
theorem TrW.rawN {τ : Tr} (h : TrW τ) {z : Rno} (hz : RnW z) : TrW (Go.Proofs.YtgppfpmmijbncaaGreatDoor.rawN τ z) := by
 unfold Go.Proofs.YtgppfpmmijbncaaGreatDoor.rawN layZ
 split
 ·rename_i hc
  refine ⟨fun y hy => ?_, h.ss, h.zx⟩
  rcases sset_mem hy with rfl | hy
  ·exact ⟨able_len (check_able hc), hz.d, hz.acl, fun n hn => hz.st n hn, rfl, rfl⟩
  ·exact h.nd y hy
 ·exact h
theorem TrW.rawS {τ : Tr} (h : TrW τ) {x : SN} (hx : SnW x) : TrW (Go.Proofs.YtgppfpmmijbncaaGreatDoor.rawS τ x) := by
 unfold Go.Proofs.YtgppfpmmijbncaaGreatDoor.rawS layS
 split
 ·refine ⟨h.nd, fun y hy => ?_, h.zx⟩
  rcases sset_mem hy with rfl | hy
  ·exact hx
  ·exact h.ss y hy
 ·exact h
theorem rawNs_w : ∀ {l : List Rno} {τ : Tr} {N : Nat}, τ.Ok N → TrW τ → (∀ z ∈ l, RnW z) → (l.foldl rawN τ).Ok (N + l.length) ∧ TrW (l.foldl rawN τ)
 | [], _, _, h, hw, _ => ⟨h, hw⟩
 | z :: l, τ, N, h, hw, hl => by
  have h1 : (rawN τ z).Ok (N + 1) := h.layZ _ _ _ (hl z List.mem_cons_self).acl.few
  have h2 := rawNs_w (l := l) h1 (hw.rawN (hl z List.mem_cons_self)) (fun x hx => hl x (List.mem_cons_of_mem _ hx))
  exact ⟨h2.1.more (by rw [List.length_cons]; omega), h2.2⟩
theorem rawSs_w : ∀ {l : SsM} {τ : Tr} {N : Nat}, τ.Ok N → TrW τ → (∀ x ∈ l, SnW x) → (l.foldl rawS τ).Ok (N + l.length) ∧ TrW (l.foldl rawS τ)
 | [], _, _, h, hw, _ => ⟨h, hw⟩
 | x :: l, τ, N, h, hw, hl => by
  have h1 : (rawS τ x).Ok (N + 1) := by
   unfold rawS layS
   split
   ·rename_i hi; exact h.openS hi _ _
   ·exact h.more (by omega)
  have h2 := rawSs_w (l := l) h1 (hw.rawS (hl x List.mem_cons_self)) (fun y hy => hl y (List.mem_cons_of_mem _ hy))
  exact ⟨h2.1.more (by rw [List.length_cons]; omega), h2.2⟩
theorem RawA.nok {p : HP} {u us : Value} {l : List Rno} {ss : SsM} {zx : Int} (h : RawA p u us l ss zx) (i : Nat) : (rawNs (l.take i)).Ok 1048576 := by
 have h1 := (rawNs_w (l := l.take i) newT_ok TrW.new (fun z hz => h.w z (List.mem_of_mem_take hz))).1
 have h2 := h.few
 exact h1.more (by rw [List.length_take]; omega)
theorem RawA.sok {p : HP} {u us : Value} {l : List Rno} {ss : SsM} {zx : Int} (h : RawA p u us l ss zx) (i : Nat) : (rawSs l (ss.take i)).Ok 1048576 := by
 have h0 := rawNs_w (l := l) newT_ok TrW.new h.w
 have h1 := (rawSs_w (l := ss.take i) h0.1 h0.2 (fun z hz => h.sw z (List.mem_of_mem_take hz))).1
 have h2 := h.few
 exact h1.more (by rw [List.length_take]; omega)
theorem RawA.ok {p : HP} {u us : Value} {l : List Rno} {ss : SsM} {zx : Int} (h : RawA p u us l ss zx) : (rawZ l ss zx).Ok 1048576 := by
 have h1 := h.sok ss.length
 rw [List.take_length] at h1
 exact h1.zx zx
theorem RawA.tw {p : HP} {u us : Value} {l : List Rno} {ss : SsM} {zx : Int} (h : RawA p u us l ss zx) : TrW (rawZ l ss zx) := by
 have h0 := rawNs_w (l := l) newT_ok TrW.new h.w
 exact ((rawSs_w (l := ss) h0.1 h0.2 h.sw).2).zxT h.num
theorem TrW.sesB {τ : Tr} (h : TrW τ) : SesB τ := fun y hy => (h.ss y hy).i.2
theorem laid8_spec (u us : Value) (l : List Rno) (ss : SsM) (zx : Int) (p : HP) (hr : RawA p u us l ss zx) : Fn Tryz.prog 25 #[.agg ([u, us, vint zx] : List Value).toArray] [p] fun v L => ∃ t x, v = .tuple #[vptr t, vptr x] ∧ L = [treeR t (rawZ l ss zx), refR x (rawZ l ss zx), p] := by
 refine Fn.intro Tryz.func25 rfl rfl fun F W => ?_
 refine .rdAny (p := p) hr.cN (by repeat' constructor) fun ua uc e0 _ => ?_
 subst e0
 refine .rdAny (p := p) hr.cS (by repeat' constructor) fun ub ud e0 _ => ?_
 subst e0
 have hrf := hr.few
 refine .sr (.oq (.box rfl) ?_)
 rintro v L' ⟨b0, rfl, rfl⟩
 refine .a rfl (.a rfl (.nil (.ptCast (b := b0) (l' := [.slice ua l.length uc, .slice ub ss.length ud, vint zx]) (by repeat' constructor) rfl (.then_n (.sr (.oq (.c Tryz.func11 [] (trnew_spec)) ?_))))))
 rintro v L' ⟨t, rfl, rfl⟩
 refine .an rfl (.sr (.oq (.c Tryz.func34 [] (rfnew_spec)) ?_))
 rintro v L' ⟨x, rfl, rfl⟩
 refine .an rfl (.seq (.sm rfl (.q (.as (v' := .bool false) (by rfl) (.ptreq rfl rfl Tryz.underlying28)) rfl (.nt (.condF rfl (.sk (.seq (.sr (.an rfl (.block (.trCast (t := t) (τ' := (rawNs (l.take 0))) (by repeat' constructor) (by rw [List.take_zero]; rfl) (.rfCast (x := x) (τ' := (rawNs (l.take 0))) (by repeat' constructor) (by rw [List.take_zero]; rfl) (.loopK (ι := Nat) (fun q E => (6, vint q) :: E) (fun q => [treeR t (rawNs (l.take q)), refR x (rawNs (l.take q))]) (fun q => q ≤ l.length) (fun q => l.length - q) (0) (ts := [1, 2, 3, 4, 5]) (.cons rfl (.cons rfl (.cons rfl (.cons rfl (.cons rfl (.nil)))))) (Nat.zero_le _) ⟨rfl, rfl, rfl, rfl, rfl, rfl, trivial⟩ (by repeat' constructor) ?_)))))))))))))
 rintro i hi
 refine .seq (.sm rfl (.u (.fieldAddr rfl fo_61_0) (.u (.ld rfl ag_58) (.q (.slen rfl Tryz.underlying58 rfl) rfl (.ui rfl rfl rfl (.nt (.condD rfl (fun h19 => ?_) (fun h19 => ?_))))))))
 ·have hi2 : i < l.length := by omega
  have hok := hr.nok i
  have hz := hr.w _ (List.getElem_mem hi2)
  have hzc := hr.cell _ (List.getElem_mem hi2)
  have hza := hr.acl _ (List.getElem_mem hi2)
  refine .rdShape (p := p) hr.cN (by repeat' constructor) (by omega) fun bn on e1 => ?_
  subst e1
  refine .sk (.seq (.block (.sr (.u (.fieldAddr rfl fo_61_0) (.u (.ld rfl ag_58) (.m rfl (.q (.indexAddr rfl rfl el_58 (by omega)) rfl (.q (.loadRdA (sz := 12) (j := i * 12) (k := 12) (p := p) (vs := rnC l[i]) rfl ag_124 (by repeat' constructor) hr.cN (by simp) (by omega) (by omega) (flatMap_at (f := rnC) (sz := 12) (fun _ _ => rfl) (by omega))) rfl (.oq (.allocA ze_124) ?_)))))))))
  rintro v L' ⟨b8, rfl, rfl⟩
  refine .oq (.storeA rfl rfl ?c23 sz_124 ?c26 ?c24 (nfz0 _ _)) ?_
  case c23 => exact rn_cells hzc
  case c26 => rfl
  case c24 => simp [rnC]
  rintro v L' rfl
  refine .nil (.ptCast (b := b8) (l' := rnC l[i]) (by repeat' constructor) (by exact rfl) (.then_n (.sm rfl (.u (.fieldAddr rfl fo_124_0) (.u (.ld rfl ag_9) (.u (.fieldAddr rfl fo_124_1) (.u (.ld rfl ag_9) (.u (.fieldAddr rfl fo_124_2) (.u (.ld rfl ag_34) (.u (.fieldAddr rfl fo_124_3) (.q (.loadAs (vs := stC l[i].2.2.st) rfl ag_92 (by repeat' constructor) (by simp [rnC, stC]) rfl) rfl (.cv Tryz.func59 [_, _, _, _, _] (trlay_spec t (rawNs (l.take i)) l[i].1 l[i].2.2.data l[i].2.1 l[i].2.2.acl l[i].2.2.st p hza hz.acl.few hz.p) ?_))))))))))))
  refine .nt (.region (.m rfl (.u (.fieldAddr rfl fo_124_0) (.u (.ld rfl ag_9) (.u (.fieldAddr rfl fo_124_1) (.u (.ld rfl ag_9) (.u (.fieldAddr rfl fo_124_2) (.u (.ld rfl ag_34) (.u (.fieldAddr rfl fo_124_3) (.q (.loadAs (vs := stC l[i].2.2.st) rfl ag_92 (by repeat' constructor) (by simp [rnC, stC]) rfl) rfl (.cv Tryz.func60 [_, _, _, _, _] (rlaynode_spec x (rawNs (l.take i)) l[i].1 l[i].2.2.data l[i].2.1 l[i].2.2.acl l[i].2.2.st p hza hz.acl.few hz.p 1048576 hok (by decide)) ?_)))))))))))
  refine .nil (.blk_n (.then_n (.region (.m rfl (.q (.add rfl rfl (by omega)) rfl (.an rfl (.trCast (t := t) (τ' := (rawNs (l.take (i + 1)))) (by repeat' constructor) (by rw [rawN_step hi2]; rfl) (.rfCast (x := x) (τ' := (rawNs (l.take (i + 1)))) (by repeat' constructor) (by rw [rawN_step hi2]; rfl) ?_))))))))
  exact .rk (i + 1) (by omega) (by omega) ⟨rfl, rfl, rfl, rfl, rfl, rfl, trivial⟩
 have hii : i = l.length := by omega
 rw [hii, List.take_length]
 refine .exit (.then_e (.then_e (.blk_e (.then_n (.seq (.sr (.an rfl (.block (.trCast (t := t) (τ' := (rawSs l (ss.take 0))) (by repeat' constructor) (by rw [List.take_zero]; rfl) (.rfCast (x := x) (τ' := (rawSs l (ss.take 0))) (by repeat' constructor) (by rw [List.take_zero]; rfl) (.loopK (ι := Nat) (fun q E => (8, vint q) :: E) (fun q => [treeR t (rawSs l (ss.take q)), refR x (rawSs l (ss.take q))]) (fun q => q ≤ ss.length) (fun q => ss.length - q) (0) (ts := [1, 2, 3, 4, 5]) (.cons rfl (.cons rfl (.cons rfl (.cons rfl (.cons rfl (.nil)))))) (Nat.zero_le _) ⟨rfl, rfl, rfl, rfl, rfl, rfl, trivial⟩ (by repeat' constructor) ?_)))))))))))
 rintro i hi
 refine .seq (.sm rfl (.u (.fieldAddr rfl fo_61_1) (.u (.ld rfl ag_59) (.q (.slen rfl Tryz.underlying59 rfl) rfl (.ui rfl rfl rfl (.nt (.condD rfl (fun h51 => ?_) (fun h51 => ?_))))))))
 ·have hi2 : i < ss.length := by omega
  have hok := hr.sok i
  refine .rdShape (p := p) hr.cS (by repeat' constructor) (by omega) fun bs os e1 => ?_
  subst e1
  refine .sk (.seq (.block (.sr (.u (.fieldAddr rfl fo_61_1) (.u (.ld rfl ag_59) (.m rfl (.q (.indexAddr rfl rfl el_59 (by omega)) rfl (.q (.loadRdA (sz := 3) (j := i * 3) (k := 3) (p := p) (vs := rsC ss[i]) rfl ag_127 (by repeat' constructor) hr.cS (by simp) (by omega) (by omega) (flatMap_at (f := rsC) (sz := 3) (fun _ _ => rfl) (by omega))) rfl (.oq (.allocA ze_127) ?_)))))))))
  rintro v L' ⟨b14, rfl, rfl⟩
  refine .oq (.storeA rfl rfl ?c65 sz_127 ?c68 ?c66 (nfz0 _ _)) ?_
  case c65 => intro v hv; simp only [rsC, List.mem_cons, List.not_mem_nil, or_false] at hv; rcases hv with rfl | rfl | rfl <;> rfl
  case c68 => rfl
  case c66 => simp [rsC]
  rintro v L' rfl
  refine .nil (.ptCast (b := b14) (l' := rsC ss[i]) (by repeat' constructor) (by exact rfl) (.then_n (.sm rfl (.u (.fieldAddr rfl fo_127_0) (.u (.ld rfl ag_3) (.u (.fieldAddr rfl fo_127_1) (.u (.ld rfl ag_3) (.u (.fieldAddr rfl fo_127_2) (.u (.ld rfl ag_9) (.cv Tryz.func61 [_, _, _, _] (trlayses_spec t (rawSs l (ss.take i)) ss[i].1 ss[i].2.1 ss[i].2.2) ?_))))))))))
  refine .nt (.region (.m rfl (.u (.fieldAddr rfl fo_127_0) (.u (.ld rfl ag_3) (.u (.fieldAddr rfl fo_127_1) (.u (.ld rfl ag_3) (.u (.fieldAddr rfl fo_127_2) (.u (.ld rfl ag_9) (.cv Tryz.func62 [_, _, _, _] (rlayses_spec x (rawSs l (ss.take i)) ss[i].1 ss[i].2.1 ss[i].2.2 1048576 hok (by decide)) ?_)))))))))
  refine .nil (.blk_n (.then_n (.region (.m rfl (.q (.add rfl rfl (by omega)) rfl (.an rfl (.trCast (t := t) (τ' := (rawSs l (ss.take (i + 1)))) (by repeat' constructor) (by rw [rawS_step _ hi2]; rfl) (.rfCast (x := x) (τ' := (rawSs l (ss.take (i + 1)))) (by repeat' constructor) (by rw [rawS_step _ hi2]; rfl) ?_))))))))
  exact .rk (i + 1) (by omega) (by omega) ⟨rfl, rfl, rfl, rfl, rfl, rfl, trivial⟩
 have hii : i = ss.length := by omega
 rw [hii, List.take_length]
 refine .exit (.then_e (.then_e (.blk_e (.then_n (.sm rfl (.u (.fieldAddr rfl fo_61_2) (.u (.ld rfl ag_3) (.cv Tryz.func63 [_, _] (trlayzx_spec t (rawSs l ss) zx) ?_))))))))
 refine .nt (.seq (.rtOpen (x := x) (τ := (rawSs l ss)) (by repeat' constructor) fun an cn as1 cs l2 hl2 => (.region (.m rfl (.u (.fieldAddr rfl fo_61_2) (.u (.ld rfl ag_3) (.nf rfl fo_87_2 (.st rfl rfl rfl sz_3 ?_))))))))
 refine .nil (.rtFold (x := x) (τ := (rawZ l ss zx)) (l := l2) hl2 (by repeat' constructor) rfl rfl rfl rfl rfl (.then_n (.sm rfl (.m rfl (.a rfl (.an rfl (.ret ?_)))))))
 exact .dn rfl rfl ⟨t, x, rfl, rfl⟩
theorem snapTrees8_spec (u us : Value) (l : List Rno) (ss : SsM) (zx : Int) (p : HP) (hr : RawA p u us l ss zx) : Fn Tryz.prog 6 #[.agg ([u, us, vint zx] : List Value).toArray] [p] fun v L => v = .bool true ∧ L = [p] := by
 refine Fn.intro Tryz.func6 rfl rfl fun F W => ?_
 have hrok := hr.ok
 have hrw := hr.tw
 refine .sr (.oq (.box rfl) ?_)
 rintro v L' ⟨b0, rfl, rfl⟩
 refine .a rfl (.nil (.ptCast (b := b0) (l' := [u, us, vint zx]) (by repeat' constructor) rfl (.then_n (.sr (.cv Tryz.func9 [] (awake8_spec) ?_)))))
 refine .an rfl (.sr (.q (.loadAs (vs := [u, us, vint zx]) rfl ag_61 (by repeat' constructor) (by simp) rfl) rfl (.oq (.c Tryz.func25 [_] (laid8_spec u us l ss zx p hr)) ?_)))
 rintro v L' ⟨t, x, rfl, rfl⟩
 refine .m rfl (.u (.extract rfl rfl) (.u (.extract rfl rfl) (.a rfl (.an rfl (.seq (.sm rfl (.u (.not rfl) (.m rfl (.grun (t := 16) rfl rfl rfl (.m rfl (.grun (t := 16) rfl rfl rfl (.q (.as (v' := .bool false) (by rfl) (.ptreq rfl rfl Tryz.underlying28)) rfl (.u (.pickF rfl rfl) (.nt (.condF rfl (.sk (.sm rfl (.cv Tryz.func14 [_] (sencode_spec t (rawZ l ss zx) 1048576 hrok (by decide) hrw) ?_))))))))))))))))))
 refine .an rfl (.sm rfl (.m rfl (.cv Tryz.func26 [_, _] (alike7_spec t x (rawZ l ss zx) 1048576 hrok (by decide) hrw.sesB) ?_)))
 refine .an rfl (.sm rfl (.m rfl (.grun (t := 26) rfl rfl rfl (.m rfl (.grun (t := 26) rfl rfl rfl (.m rfl (.grun (t := 26) rfl rfl rfl (.cv Tryz.func27 [_] (rencode8_spec x (rawZ l ss zx) 1048576 hrok (by decide) hrw) ?_))))))))
 refine .grun (t := 26) rfl rfl rfl (.q (.as (v' := .bool true) (by exact congrArg Value.bool (decide_eq_true rfl)) (.streq rfl rfl)) rfl (.u (.pickT rfl rfl) (.m rfl (.grun (t := 32) rfl rfl rfl (.m rfl (.grun (t := 32) rfl rfl rfl (.cv Tryz.func28 [_] (reads8_spec (encZ (rawZ l ss zx)) (enc_len hrok (by decide) hrw)) ?_)))))))
 refine .u (.pickT rfl rfl) (.an rfl (.ret ?_))
 exact .vv
open Go Go.ChangeShapes Go.WideShapes Go.ChangeAt Go.RowKit
section
variable {H : Type} {enc : TypeId × Value → H} {P : Program} {W W' : World}
theorem trodAll_old (hl : laidOutB P = true) (hb : Below W.heap.size W W') (sp : Nat → Bool) : ∀ (ts : List TypeId) (vs : List Value) (ds : List (DataW H)) (p : List MemPlace), (∀ t ∈ ts, P.readableRec t = true ∧ t < P.types.size) →
  DataW.TrodAll enc P W 0 (fun _ => true) true ts vs ds p → (∀ x ∈ p, x.block < W.heap.size) → (∀ x ∈ p, sp x.block = true) → DataW.TrodAll enc P W' 0 sp true ts vs ds p
 | [], vs, ds, p, _, h, _, _ => by
  obtain ⟨rfl, rfl, rfl⟩ := trodAll_nil h
  exact h
 | t :: ts, vs, ds, p, hr, h, hlt, hsp => by
  obtain ⟨v, vs1, d, ds1, a, b, rfl, rfl, rfl, h1, h2⟩ := trodAll_cons h
  have r := hr t (by simp)
  refine ⟨a, b, WideElems.Trod_stays hl r.1 r.2 h1 (fun x hx => hb.same (hlt x (by simp [hx]))) (fun x hx => hsp x (by simp [hx])), ?_, rfl⟩
  exact trodAll_old hl hb sp ts vs1 ds1 b (fun t ht => hr t (by simp [ht])) h2 (fun x hx => hlt x (by simp [hx])) (fun x hx => hsp x (by simp [hx]))
theorem settled {fn : Func} {s : ChangeSpec} {apart fresh handsOn again : Bool} {args : Array Value} {ds gs : List (DataW H)} {before : List MemPlace} {tb : TypeId}
  (hW : DataW.Whole enc P fn.params.toList s.vars apart W args.toList ds gs before) (hvars : s.vars = []) (hspec : ∀ gs', gs' = [] → s.fn H (ds ++ gs') = { results := [.lit (.bool true)], args := ds })
  (hres : fn.resultTypes = #[tb]) (htb : P.underlying tb = some .bool) (hl : laidOutB P = true) (hr : ∀ t ∈ fn.params.toList, P.readableRec t = true ∧ t < P.types.size) (hb : Below W.heap.size W W') :
  s.post enc P fn apart fresh handsOn again W args (.bool true) W' := by
 have hW' := hW
 have hlt := hW.lt
 obtain ⟨p, q, hA, hV, rfl, hfz, hnd⟩ := hW
 rw [hvars] at hV
 obtain ⟨rfl, rfl⟩ := trodVars_none hV
 have hs := hspec [] rfl
 have hargs : ∀ sp : Nat → Bool, (∀ x ∈ p, sp x.block = true) → DataW.TrodAll enc P W' 0 sp true fn.params.toList args.toList ds p := fun sp hsp =>
  trodAll_old hl hb sp _ _ _ _ hr hA (fun x hx => hlt x (by simp [hx])) hsp
 have hbool : ∀ (b : Nat) (sp : Nat → Bool) (hd : Bool), DataW.TrodAll enc P W' b sp hd fn.resultTypes.toList ((Value.bool true).resultList fn.resultTypes.size) [.lit (.bool true)] [] := by
  intro b sp hd
  rw [hres]
  exact trodAll_cons_mk (shut_bool htb _) trodAll_mk0
 refine ⟨ds, [], p ++ [], [], p, [], hW', ?_, ?_, ?_, hb.frame _, fun _ => ⟨ok_one hres rfl (okWide_bool_mk htb _), [.lit (.bool true)] ++ ds, [], p, ⟨p, [], ?_, ?_, by simp, ?_, ?_⟩, ?_⟩⟩
 ·rw [hs]; exact hbool _ _ _
 ·rw [hs]; exact hargs _ (fun x hx => by simpa using hlt x (by simp [hx]))
 ·rw [hs, hvars]; exact hV
 ·exact trodAll_append (hargs _ (fun _ _ => rfl)) (hbool _ _ _)
 ·rw [hvars]; exact hV
 ·intro b off hp
  rw [hb.frozen (p := ⟨b, off, none⟩) (hlt (.cell b off) (by simp [hp]))]
  exact hfz b off (by simp [hp])
 ·intro ha
  have := hnd ha
  simpa using this
 ·intro x hx _
  simp [hx]
theorem old_calls {f : FuncId} {args : Array Value} (h : Fn P f args [Old W] fun v L => v = .bool true ∧ L = [Old W]) :
  Calls P f args W fun e W' => e = .returned (.bool true) ∧ Below W.heap.size W W' := by
 have h0 : St [Old W] W := ⟨fun b => W.heap[b]?, fun _ => none, fun _ => .inr rfl, fun b o h => h, fun b o h => (by cases h), fun b hb => rfl, trivial⟩
 refine (h [] W h0).mono ?_
 rintro e W' ⟨v, L, ⟨rfl, rfl⟩, rfl, hs, hk⟩
 refine ⟨rfl, hk.os, hk.tape, hk.output, hk.size, fun k hk' => ?_⟩
 obtain ⟨h1, a1, hp⟩ := sep_head hs
 have e1 := hp k hk'
 have : ∃ o, W.heap[k]? = some o := ⟨_, Array.getElem?_eq_getElem hk'⟩
 obtain ⟨o, ho⟩ := this
 rw [ho] at e1 ⊢
 exact a1 _ _ e1
theorem old_rd {a : Addr} {len cap : Nat} {V : Nat → Value} (hc : ∀ i, i < len → W.cell? (a.add i) = some (V i)) (hle : len ≤ cap) : ∀ h : Hp, Old W h → rdS 1 h (.slice (some a) len cap) len ((List.range len).map V) := by
 intro h hold
 rcases Nat.eq_zero_or_pos len with rfl | hpos
 ·exact .inl ⟨rfl, rfl, some a, cap, rfl⟩
 ·obtain ⟨b, off, spot⟩ := a
  have h0 := hc 0 hpos
  have e0 : (⟨b, off, spot⟩ : Addr).add 0 = ⟨b, off, spot⟩ := by simp [Addr.add]
  rw [e0] at h0
  simp only [World.cell?] at h0
  rcases hw : W.heap[b]? with _ | o
  ·rw [hw] at h0; cases h0
  ·cases o with
   | cells c T fr =>
    rw [hw] at h0
    dsimp only at h0
    split at h0
    ·cases h0
    ·rename_i hsp
     have hspot : spot = none := by simpa using hsp
     subst hspot
     have hc' : ∀ i, i < len → c[off + i]? = some (V i) := by
      intro i hi
      have := hc i hi
      have e1 : (⟨b, off, none⟩ : Addr).add i = ⟨b, off + i, none⟩ := by
       simp only [Addr.add]; split
       ·rename_i h0; simp [h0]
       ·rfl
      rw [e1] at this
      simp only [World.cell?, hw] at this
      simpa using this
     have hlt : b < W.heap.size := by
      rcases Nat.lt_or_ge b W.heap.size with h' | h'
      ·exact h'
      ·rw [Array.getElem?_eq_none h'] at hw; cases hw
     have hlen : off + len ≤ c.size := by
      have := hc' (len - 1) (by omega)
      rcases Nat.lt_or_ge (off + (len - 1)) c.size with h' | h'
      ·omega
      ·rw [Array.getElem?_eq_none h'] at this; cases this
     refine .inr ⟨b, off, cap, c.toList, T, fr, rfl, by rw [hold b hlt, hw], ?_, by simpa using hlen, hle⟩
     apply List.ext_getElem?
     intro i
     rw [Nat.mul_one, List.getElem?_take, List.getElem?_map, List.getElem?_drop]
     split
     ·rename_i hi
      rw [List.getElem?_range hi]
      simpa using hc' i hi
     ·rename_i hi
      rw [List.getElem?_eq_none (by simpa using hi)]; rfl
   | _ => rw [hw] at h0; cases h0
end
open Go Go.ChangeShapes Go.WideShapes Go.ChangeAt Go.RowKit
section
variable {H : Type} {enc : TypeId × Value → H} {P : Program} {W : World}
theorem string_vstr (s : ByteArray) : Value.string s = vstr s.data.toList := by cases s; rfl
end
open Go Go.ChangeShapes Go.WideShapes Go.ChangeAt Go.RowKit
section
variable {H : Type} {enc : TypeId × Value → H} {P : Program} {W : World}
theorem flat_at {α : Type} {sz : Nat} (f : Nat → List α) : ∀ n, (∀ i, i < n → (f i).length = sz) → ∀ j, j < n * sz → ((List.range n).flatMap f)[j]? = (f (j / sz))[j % sz]? ∧ ((List.range n).flatMap f).length = n * sz := by
 intro n
 induction n with
 | zero => intro _ j hj; omega
 | succ n ih =>
  intro hf j hj
  have hn := hf n (by omega)
  have hlen : ((List.range n).flatMap f).length = n * sz := by
   rcases Nat.eq_zero_or_pos (n * sz) with h0 | h0
   ·rcases Nat.eq_zero_or_pos n with h1 | h1
    ·subst h1; simp
    ·have : sz = 0 := by
      rcases Nat.eq_zero_or_pos sz with h2 | h2
      ·exact h2
      ·have := Nat.mul_pos h1 h2; omega
     subst this; omega
   ·exact (ih (fun i hi => hf i (by omega)) 0 h0).2
  have e : (List.range (n + 1)).flatMap f = (List.range n).flatMap f ++ f n := by simp [List.range_succ]
  have hm : (n + 1) * sz = n * sz + sz := by rw [Nat.add_mul, Nat.one_mul]
  rw [e]
  refine ⟨?_, by rw [List.length_append, hlen, hn, hm]⟩
  rcases Nat.lt_or_ge j (n * sz) with h | h
  ·rw [List.getElem?_append_left (by omega)]
   exact (ih (fun i hi => hf i (by omega)) j h).1
  ·rw [List.getElem?_append_right (by omega), hlen]
   have hs : 0 < sz := by omega
   have h1 : j / sz = n := by
    have : j < (n + 1) * sz := hj
    have a := Nat.div_lt_of_lt_mul (show j < sz * (n + 1) by rw [Nat.mul_comm]; exact this)
    have b := (Nat.le_div_iff_mul_le hs).2 h
    omega
   have h2 : j % sz = j - n * sz := by
    have := Nat.div_add_mod j sz
    rw [h1, Nat.mul_comm] at this; omega
   rw [h1, h2]
theorem rdS_regroup {sz n c c1 : Nat} {a : Option Addr} {ys : List Value} {h : Hp} (hr : rdS 1 h (.slice a (n * sz) c1) (n * sz) ys) (hc : n ≤ c) (hs : 0 < sz) : rdS sz h (.slice a n c) n ys := by
 rcases hr with ⟨h1, h2, -⟩ | ⟨b, off, cap, l, T, fr, hv, hb, h1, h2, h3⟩
 ·have : n = 0 := by
   rcases Nat.eq_zero_or_pos n with h0 | h0
   ·exact h0
   ·have := Nat.mul_pos h0 hs; omega
  subst this
  exact .inl ⟨rfl, h2, a, c, rfl⟩
 ·simp only [Value.slice.injEq] at hv
  obtain ⟨rfl, -, -⟩ := hv
  exact .inr ⟨b, off, c, l, T, fr, rfl, hb, by rw [← h1, Nat.mul_one], by rw [Nat.mul_one] at h2; exact h2, hc⟩
abbrev Reads (enc : TypeId × Value → H) (P : Program) (W : World) (fuel : Nat) (t : TypeId) (cs : List Value) (x : DataW H × List MemPlace) : Prop := DataW.trod enc P W 0 (fun _ => true) true fuel t cs = some x
theorem dec_int {t : TypeId} {fuel : Nat} {cs : List Value} {x : DataW H × List MemPlace} (ht : P.underlying t = some (.int .i64)) (h : Reads enc P W fuel t cs x) : ∃ n : Int, cs = [vint n] ∧ -9223372036854775808 ≤ n ∧ n ≤ 9223372036854775807 := by
 obtain ⟨n, rfl, -, hwf⟩ := DataW.trod_int ht h
 exact ⟨n, rfl, bounds_i64 hwf⟩
end
open Go Go.ChangeShapes Go.WideShapes Go.ChangeAt Go.RowKit
theorem bulk_pos {H : Type} (d : DataW H) : 1 ≤ Rows.uptoBulk d := by
 cases d with
 | lit l => cases l <;> simp [Rows.uptoBulk]
 | _ => simp [Rows.uptoBulk]
theorem bulk_part {H : Type} {d : DataW H} : ∀ {l : List (DataW H)}, d ∈ l → Rows.uptoBulk d ≤ Rows.uptoBulkAll l
 | x :: l, h => by
  unfold Rows.uptoBulkAll
  rcases List.mem_cons.1 h with rfl | h
  ·omega
  ·have := bulk_part h; omega
theorem bulk_count {H : Type} : ∀ l : List (DataW H), l.length ≤ Rows.uptoBulkAll l
 | [] => by simp
 | x :: l => by
  have h1 := bulk_pos x
  have h2 := bulk_count l
  unfold Rows.uptoBulkAll
  rw [List.length_cons]; omega
theorem bulk_sum {H : Type} : ∀ l : List (DataW H), (l.map Rows.uptoBulk).sum ≤ Rows.uptoBulkAll l
 | [] => by simp
 | x :: l => by
  have h2 := bulk_sum l
  unfold Rows.uptoBulkAll
  rw [List.map_cons, List.sum_cons]; omega
theorem bulk_small {H : Type} {l : List (DataW H)} (h : Rows.uptoSmall H l = true) {d : DataW H} (hd : d ∈ l) : Rows.uptoBulk d ≤ 1048576 :=
 Nat.le_trans (bulk_part hd) (of_decide_eq_true h)
instance : Inhabited Value := ⟨.bool false⟩
section
variable {H : Type} {enc : TypeId × Value → H} {P : Program} {W : World} {N : Nat}
theorem dec_int' {t : TypeId} {fuel : Nat} {cs : List Value} {x : DataW H × List MemPlace} (ht : P.underlying t = some (.int .i64)) (h : Reads enc P W fuel t cs x) : ∃ n : Int, cs = [vint n] ∧ (-9223372036854775808 ≤ n ∧ n ≤ 9223372036854775807) := by
 obtain ⟨n, h1, h2⟩ := dec_int ht h; exact ⟨n, h1, h2⟩
theorem dec_sliceV {Z : Type} [Inhabited Z] (toC : Z → List Value) (Q : Z → Prop) {t e : TypeId} {sz : Nat} {fuel : Nat} {cs : List Value} {x : DataW H × List MemPlace} (ht : P.underlying t = some (.slice e)) (hc : P.cellsOf e = sz) (hs : 0 < sz)
  (hdec : ∀ (n : Nat) (cs : List Value) (y : DataW H × List MemPlace), Reads enc P W n e cs y → Rows.uptoBulk y.1 ≤ N → ∃ z, cs = toC z ∧ Q z) (h : Reads enc P W fuel t cs x) (hb : Rows.uptoBulk x.1 ≤ N + 1) :
  ∃ z : Value × List Z, cs = [z.1] ∧ (∀ h : Hp, Old W h → rdS sz h z.1 z.2.length (z.2.flatMap toC)) ∧ z.2.length ≤ N ∧ ∀ y ∈ z.2, Q y := by
 subst hc
 rcases Go.Deep.open_slice ht h with ⟨rfl, rfl⟩ | ⟨a, len, cap, m, n, Dd, Pl, rfl, -, hl, hm, hmm, rfl, hx⟩
 ·exact ⟨(_, []), rfl, fun h _ => .inl ⟨rfl, rfl, none, 0, rfl⟩, by simp, by simp⟩
 ·simp only [if_true] at hmm
  subst hmm
  have hbl : len ≤ N := by
   have := bulk_count ((List.range len).map Dd)
   simp only [Rows.uptoBulk] at hb
   rw [List.length_map, List.length_range] at this
   omega
  have hbe : ∀ i, i < len → Rows.uptoBulk (Dd i) ≤ N := fun i hi => by
   have := bulk_part (d := Dd i) (l := (List.range len).map Dd) (List.mem_map_of_mem (by simpa using hi))
   simp only [Rows.uptoBulk] at hb
   omega
  obtain ⟨Zf, hZ⟩ := Go.Deep.choose_lt (α := Z) (p := fun i z => W.cells? 0 (a.add (i * P.cellsOf e)) (P.cellsOf e) = some (toC z) ∧ Q z) (n := len) (fun i hi => by
   obtain ⟨cs', h1, h2⟩ := hx i (by omega)
   obtain ⟨z, rfl, h3⟩ := hdec _ _ _ h2 (hbe i hi)
   exact ⟨z, h1, h3⟩)
  have hlenf : ∀ i, i < len → (toC (Zf i)).length = P.cellsOf e := fun i hi => (World.cells?_some (hZ i hi).1).2.1
  have hflat := flat_at (fun i => toC (Zf i)) len hlenf
  refine ⟨(_, (List.range len).map Zf), rfl, ?_, ?_, ?_⟩
  ·intro h hold
   dsimp only
   rw [List.length_map, List.length_range]
   refine rdS_regroup (c1 := len * P.cellsOf e) ?_ hl hs
   have e1 : ((List.range len).map Zf).flatMap toC = (List.range (len * P.cellsOf e)).map (fun j => ((List.range len).flatMap fun i => toC (Zf i)).getD j (.bool false)) := by
    rw [List.flatMap_map]
    apply List.ext_getElem?
    intro j
    rcases Nat.lt_or_ge j (len * P.cellsOf e) with hj | hj
    ·rw [List.getElem?_map, List.getElem?_range hj]
     have := (hflat j hj).2
     have hjl : j < ((List.range len).flatMap fun i => toC (Zf i)).length := by omega
     simp only [Option.map_some, List.getD_eq_getElem?_getD, List.getElem?_eq_getElem hjl, Option.getD_some]
    ·have : ((List.range len).flatMap fun i => toC (Zf i)).length = len * P.cellsOf e := by
      rcases Nat.eq_zero_or_pos (len * P.cellsOf e) with h0 | h0
      ·have : len = 0 := by
        rcases Nat.eq_zero_or_pos len with h1 | h1
        ·exact h1
        ·have := Nat.mul_pos h1 hs; omega
       subst this; simp
      ·exact (hflat 0 h0).2
     rw [List.getElem?_eq_none (by omega), List.getElem?_eq_none (by simpa using hj)]
   rw [e1]
   refine old_rd (W := W) (fun j hj => ?_) (Nat.le_refl _) h hold
   have hi : j / P.cellsOf e < len := Nat.div_lt_of_lt_mul (by rw [Nat.mul_comm]; exact hj)
   have hcell := (World.cells?_some (hZ (j / P.cellsOf e) hi).1).2.2 (j % P.cellsOf e) (Nat.mod_lt _ hs)
   rw [Addr.add_add, Nat.mul_comm, Nat.div_add_mod] at hcell
   rw [hcell]
   obtain ⟨f1, f2⟩ := hflat j hj
   rw [List.getD_eq_getElem?_getD, f1]
   have : j % P.cellsOf e < (toC (Zf (j / P.cellsOf e))).length := by rw [hlenf _ hi]; exact Nat.mod_lt _ hs
   simp [this]
  ·dsimp only; rw [List.length_map, List.length_range]; exact hbl
  ·intro z hz
   obtain ⟨i, hi, rfl⟩ := List.mem_map.1 hz
   exact (hZ i (by simpa using hi)).2
theorem dec_sliceQV {Z : Type} [Inhabited Z] (toC : Z → List Value) (Q : Nat → Z → Prop) {t e : TypeId} {sz : Nat} {fuel : Nat} {cs : List Value} {x : DataW H × List MemPlace} (ht : P.underlying t = some (.slice e)) (hc : P.cellsOf e = sz) (hs : 0 < sz)
  (hdec : ∀ (n : Nat) (cs : List Value) (y : DataW H × List MemPlace), Reads enc P W n e cs y → ∃ z, cs = toC z ∧ Q (Rows.uptoBulk y.1) z) (h : Reads enc P W fuel t cs x) (hb : Rows.uptoBulk x.1 ≤ N + 1) :
  ∃ (z : Value × List Z) (ws : List Nat), cs = [z.1] ∧ (∀ h : Hp, Old W h → rdS sz h z.1 z.2.length (z.2.flatMap toC)) ∧ z.2.length ≤ N ∧ ws.length = z.2.length ∧ ws.sum ≤ N ∧ (∀ w ∈ ws, 1 ≤ w) ∧ ∀ i (h1 : i < z.2.length) (h2 : i < ws.length), Q ws[i] z.2[i] := by
 subst hc
 rcases Go.Deep.open_slice ht h with ⟨rfl, rfl⟩ | ⟨a, len, cap, m, n, Dd, Pl, rfl, -, hl, hm, hmm, rfl, hx⟩
 ·exact ⟨(_, []), [], rfl, fun h _ => .inl ⟨rfl, rfl, none, 0, rfl⟩, by simp, rfl, by simp, (fun _ h => by cases h), (fun i h1 _ => by simp at h1)⟩
 ·simp only [if_true] at hmm
  subst hmm
  have hbl : len ≤ N := by
   have := bulk_count ((List.range len).map Dd)
   simp only [Rows.uptoBulk] at hb
   rw [List.length_map, List.length_range] at this
   omega
  have hall : ((List.range len).map fun i => Rows.uptoBulk (Dd i)).sum ≤ N := by
   have := bulk_sum ((List.range len).map Dd)
   rw [List.map_map] at this
   simp only [Rows.uptoBulk] at hb
   have e : ((List.range len).map fun i => Rows.uptoBulk (Dd i)) = (List.range len).map (Rows.uptoBulk ∘ Dd) := rfl
   rw [e]; omega
  obtain ⟨Zf, hZ⟩ := Go.Deep.choose_lt (α := Z) (p := fun i z => W.cells? 0 (a.add (i * P.cellsOf e)) (P.cellsOf e) = some (toC z) ∧ Q (Rows.uptoBulk (Dd i)) z) (n := len) (fun i hi => by
   obtain ⟨cs', h1, h2⟩ := hx i (by omega)
   obtain ⟨z, rfl, h3⟩ := hdec _ _ _ h2
   exact ⟨z, h1, h3⟩)
  have hlenf : ∀ i, i < len → (toC (Zf i)).length = P.cellsOf e := fun i hi => (World.cells?_some (hZ i hi).1).2.1
  have hflat := flat_at (fun i => toC (Zf i)) len hlenf
  refine ⟨(_, (List.range len).map Zf), (List.range len).map fun i => Rows.uptoBulk (Dd i), rfl, ?_, ?_, by simp, hall, ?_, ?_⟩
  ·intro h hold
   dsimp only
   rw [List.length_map, List.length_range]
   refine rdS_regroup (c1 := len * P.cellsOf e) ?_ hl hs
   have e1 : ((List.range len).map Zf).flatMap toC = (List.range (len * P.cellsOf e)).map (fun j => ((List.range len).flatMap fun i => toC (Zf i)).getD j (.bool false)) := by
    rw [List.flatMap_map]
    apply List.ext_getElem?
    intro j
    rcases Nat.lt_or_ge j (len * P.cellsOf e) with hj | hj
    ·rw [List.getElem?_map, List.getElem?_range hj]
     have := (hflat j hj).2
     have hjl : j < ((List.range len).flatMap fun i => toC (Zf i)).length := by omega
     simp only [Option.map_some, List.getD_eq_getElem?_getD, List.getElem?_eq_getElem hjl, Option.getD_some]
    ·have : ((List.range len).flatMap fun i => toC (Zf i)).length = len * P.cellsOf e := by
      rcases Nat.eq_zero_or_pos (len * P.cellsOf e) with h0 | h0
      ·have : len = 0 := by
        rcases Nat.eq_zero_or_pos len with h1 | h1
        ·exact h1
        ·have := Nat.mul_pos h1 hs; omega
       subst this; simp
      ·exact (hflat 0 h0).2
     rw [List.getElem?_eq_none (by omega), List.getElem?_eq_none (by simpa using hj)]
   rw [e1]
   refine old_rd (W := W) (fun j hj => ?_) (Nat.le_refl _) h hold
   have hi : j / P.cellsOf e < len := Nat.div_lt_of_lt_mul (by rw [Nat.mul_comm]; exact hj)
   have hcell := (World.cells?_some (hZ (j / P.cellsOf e) hi).1).2.2 (j % P.cellsOf e) (Nat.mod_lt _ hs)
   rw [Addr.add_add, Nat.mul_comm, Nat.div_add_mod] at hcell
   rw [hcell]
   obtain ⟨f1, f2⟩ := hflat j hj
   rw [List.getD_eq_getElem?_getD, f1]
   have : j % P.cellsOf e < (toC (Zf (j / P.cellsOf e))).length := by rw [hlenf _ hi]; exact Nat.mod_lt _ hs
   simp [this]
  ·dsimp only; rw [List.length_map, List.length_range]; exact hbl
  ·intro w hw
   obtain ⟨i, -, rfl⟩ := List.mem_map.1 hw
   exact bulk_pos _
  ·intro i h1 h2
   simp only [List.getElem_map, List.getElem_range]
   exact (hZ i (by simpa using h1)).2
/-! ### With weights: what is read weighs no more than its bulk -/
theorem dec_strW {t : TypeId} {fuel : Nat} {cs : List Value} {x : DataW H × List MemPlace} (ht : P.underlying t = some .string) (h : Reads enc P W fuel t cs x) : ∃ s : List UInt8, cs = [vstr s] ∧ s.length + 1 ≤ Rows.uptoBulk x.1 := by
 obtain ⟨s, rfl, rfl, -⟩ := DataW.trod_string ht h
 exact ⟨s.data.toList, by rw [string_vstr], by simp [Rows.uptoBulk]⟩
theorem dec_intW {t : TypeId} {fuel : Nat} {cs : List Value} {x : DataW H × List MemPlace} (ht : P.underlying t = some (.int .i64)) (h : Reads enc P W fuel t cs x) : ∃ n : Int, cs = [vint n] ∧ (-9223372036854775808 ≤ n ∧ n ≤ 9223372036854775807) ∧ 1 ≤ Rows.uptoBulk x.1 := by
 obtain ⟨n, h1, h2⟩ := dec_int' ht h; exact ⟨n, h1, h2, bulk_pos _⟩
theorem sum_le {Z : Type} {m : Z → Nat} : ∀ {l : List Z} {ws : List Nat}, ws.length = l.length → (∀ i (h1 : i < l.length) (h2 : i < ws.length), m l[i] ≤ ws[i]) → (l.map m).sum ≤ ws.sum
 | [], _, _, _ => by simp
 | z :: l, [], h, _ => by simp at h
 | z :: l, w :: ws, h, hq => by
  have h0 := hq 0 (by simp) (by simp)
  have h1 := sum_le (l := l) (ws := ws) (m := m) (by simpa using h) (fun i h1 h2 => hq (i + 1) (by simpa using h1) (by simpa using h2))
  rw [List.map_cons, List.sum_cons, List.sum_cons]
  have h0' : m z ≤ w := h0
  omega
theorem dec_sliceW {Z : Type} [Inhabited Z] (toC : Z → List Value) (Q : Z → Prop) (m : Z → Nat) {t e : TypeId} {sz : Nat} {fuel : Nat} {cs : List Value} {x : DataW H × List MemPlace} (ht : P.underlying t = some (.slice e)) (hc : P.cellsOf e = sz) (hs : 0 < sz)
  (hdec : ∀ (n : Nat) (cs : List Value) (y : DataW H × List MemPlace), Reads enc P W n e cs y → ∃ z, cs = toC z ∧ Q z ∧ m z ≤ Rows.uptoBulk y.1) (h : Reads enc P W fuel t cs x) :
  ∃ z : Value × List Z, cs = [z.1] ∧ (∀ h : Hp, Old W h → rdS sz h z.1 z.2.length (z.2.flatMap toC)) ∧ (∀ y ∈ z.2, Q y) ∧ z.2.length + 1 ≤ Rows.uptoBulk x.1 ∧ 1 + (z.2.map m).sum ≤ Rows.uptoBulk x.1 := by
 have hp := bulk_pos x.1
 obtain ⟨z, ws, h1, h2, h3, h4, h5, -, h7⟩ := dec_sliceQV (N := Rows.uptoBulk x.1 - 1) toC (fun B z => Q z ∧ m z ≤ B) ht hc hs hdec h (by omega)
 refine ⟨z, h1, h2, fun y hy => ?_, by omega, ?_⟩
 ·obtain ⟨i, hi, rfl⟩ := List.mem_iff_getElem.1 hy
  exact (h7 i hi (by omega)).1
 ·have := sum_le (m := m) h4 (fun i g1 g2 => (h7 i g1 g2).2)
  omega
theorem rd_shape {sz n : Nat} {v : Value} {ys : List Value} (hr : ∀ h : Hp, Old W h → rdS sz h v n ys) : ∃ a c, v = .slice a n c := by
 have h := hr (fun b => if b < W.heap.size then W.heap[b]? else none) (fun b hb => if_pos hb)
 rcases h with ⟨rfl, -, a, c, rfl⟩ | ⟨b, off, cap, l, T, fr, rfl, -⟩
 ·exact ⟨_, _, rfl⟩
 ·exact ⟨_, _, rfl⟩
end
open Go Go.ChangeShapes Go.WideShapes Go.ChangeAt Go.RowKit
def mAc (a : Ac) : Nat := 3 + a.2.length
def mNd (z : Rno) : Nat := 3 + z.1.length + z.2.2.data.length + (z.2.2.acl.map mAc).sum
def mSs (x : SN) : Nat := 3 + x.2.2.length
theorem sum_mem {α : Type} {m : α → Nat} : ∀ {l : List α} {x : α}, x ∈ l → m x ≤ (l.map m).sum
 | y :: l, x, h => by
  rw [List.map_cons, List.sum_cons]
  rcases List.mem_cons.1 h with rfl | h
  ·omega
  ·have := sum_mem (m := m) h; omega
theorem sum_three {α : Type} {m : α → Nat} (hm : ∀ x, 3 ≤ m x) : ∀ l : List α, 3 * l.length ≤ (l.map m).sum
 | [] => by simp
 | y :: l => by have := sum_three hm l; have := hm y; rw [List.map_cons, List.sum_cons, List.length_cons]; omega
theorem fm_weigh {α : Type} {f : α → Bs} {m : α → Nat} : ∀ {l : List α}, (∀ x ∈ l, (f x).length ≤ 20 * m x) → (l.flatMap f).length ≤ 20 * (l.map m).sum
 | [], _ => by simp
 | y :: l, h => by
  have h1 := h y (List.mem_cons_self ..)
  have h2 := fm_weigh (l := l) (m := m) (f := f) (fun x hx => h x (List.mem_cons_of_mem _ hx))
  rw [List.flatMap_cons, List.length_append, List.map_cons, List.sum_cons]; omega
theorem aclW_of {l : List Ac} (h : ∀ a ∈ l, I64 a.1) (hm : (l.map mAc).sum ≤ 1048576) : AclW l := by
 have hl := sum_three (m := mAc) (fun a => by unfold mAc; omega) l
 have hu : U64 = 18446744073709551616 := rfl
 have hi : ∀ a ∈ l, a.2.length ≤ 1048576 := fun a ha => by
  have h1 := sum_mem (m := mAc) ha
  have h2 : mAc a = 3 + a.2.length := rfl
  omega
 refine ⟨by omega, ?_, fun a ha => ⟨⟨h a ha, by have := hi a ha; omega⟩, hi a ha⟩⟩
 have h3 := fm_weigh (f := acB) (m := mAc) (l := l) (fun a ha => by
  have h1 := numB_len8 (h a ha)
  have h2 := sev_len10 (u := a.2.length) (by have := hi a ha; omega)
  unfold acB txtB cntB mAc
  rw [List.length_append, List.length_append]; omega)
 have h4 := sev_len10 (u := l.length) (by omega)
 unfold aclB cntB
 rw [List.length_append]; omega
structure NdQ (p : HP) (z : Rno) : Prop where
 acl : ∀ h : Hp, p h → rdS 2 h z.2.1 z.2.2.acl.length (z.2.2.acl.flatMap acC)
 cell : isCell z.2.1 = true
 each : ∀ a ∈ z.2.2.acl, I64 a.1
 st : ∀ n ∈ nums7 z.2.2.st, I64 n
theorem NdQ.w {p : HP} {z : Rno} (h : NdQ p z) (hm : mNd z ≤ 1048576) : RnW z := by
 unfold mNd at hm
 exact ⟨by omega, by omega, aclW_of h.each (by omega), h.st⟩
theorem st_nums {c m p v cv a o l k : Int} (h1 : I64 c) (h2 : I64 m) (h3 : I64 p) (h4 : I64 v) (h5 : I64 cv) (h6 : I64 a) (h7 : I64 o) : ∀ n ∈ nums7 (⟨c, m, p, v, cv, a, o, l, k⟩ : Stt), I64 n := by
 intro n hn
 rw [nums7_mem] at hn
 rcases hn with rfl | rfl | rfl | rfl | rfl | rfl | rfl
 ·exact h1
 ·exact h2
 ·exact h3
 ·exact h4
 ·exact h5
 ·exact h6
 ·exact h7
instance : Inhabited Stt := ⟨st0⟩
instance : Inhabited Rno := ⟨([], (.bool false, ⟨[], [], st0⟩))⟩
theorem decAc {H : Type} {enc : TypeId × Value → H} {W : World} (n : Nat) (cs : List Value) (y : DataW H × List MemPlace) (h : Reads enc Tryz.prog W n 90 cs y) : ∃ a : Ac, cs = acC a ∧ I64 a.1 ∧ mAc a ≤ Rows.uptoBulk y.1 := by
 obtain ⟨xs, m, -, rfl, hlen, hxs, hf⟩ := DataW.trod_struct Tryz.underlying90 h
 rw [show Tryz.prog.cellsOf 90 = 2 by kernel_rfl] at hlen
 obtain ⟨a0, a1, rfl⟩ : ∃ a0 a1, cs = [a0, a1] := by
  match cs, hlen with
  | [a0, a1], _ => exact ⟨a0, a1, rfl⟩
 obtain ⟨y0, y1, rfl⟩ : ∃ y0 y1, xs = [y0, y1] := by
  match xs, hxs with
  | [y0, y1], _ => exact ⟨y0, y1, rfl⟩
 try simp only [Rows.uptoBulk, Rows.uptoBulkAll, List.map_cons, List.map_nil]
 have g0 : Reads enc Tryz.prog W m 3 (([a0, a1] : List Value).drop 0 |>.take (Tryz.prog.cellsOf 3)) y0 := hf 0 _ rfl
 rw [show Tryz.prog.cellsOf 3 = 1 by kernel_rfl] at g0
 have p0 := bulk_pos y0.1
 obtain ⟨z0, e0, q0, r0⟩ := dec_intW Tryz.underlying3 g0
 try simp at e0
 have g1 : Reads enc Tryz.prog W m 9 (([a0, a1] : List Value).drop 1 |>.take (Tryz.prog.cellsOf 9)) y1 := hf 1 _ rfl
 rw [show Tryz.prog.cellsOf 9 = 1 by kernel_rfl] at g1
 have p1 := bulk_pos y1.1
 obtain ⟨z1, e1, r1⟩ := dec_strW Tryz.underlying9 g1
 try simp at e1
 subst e0
 subst e1
 exact ⟨(z0, z1), rfl, q0, by unfold mAc; dsimp only; omega⟩
theorem decStt {H : Type} {enc : TypeId × Value → H} {W : World} (n : Nat) (cs : List Value) (y : DataW H × List MemPlace) (h : Reads enc Tryz.prog W n 92 cs y) : ∃ s : Stt, cs = stC s ∧ ∀ n ∈ nums7 s, I64 n := by
 obtain ⟨xs, m, -, rfl, hlen, hxs, hf⟩ := DataW.trod_struct Tryz.underlying92 h
 rw [show Tryz.prog.cellsOf 92 = 9 by kernel_rfl] at hlen
 obtain ⟨a0, a1, a2, a3, a4, a5, a6, a7, a8, rfl⟩ : ∃ a0 a1 a2 a3 a4 a5 a6 a7 a8, cs = [a0, a1, a2, a3, a4, a5, a6, a7, a8] := by
  match cs, hlen with
  | [a0, a1, a2, a3, a4, a5, a6, a7, a8], _ => exact ⟨a0, a1, a2, a3, a4, a5, a6, a7, a8, rfl⟩
 obtain ⟨y0, y1, y2, y3, y4, y5, y6, y7, y8, rfl⟩ : ∃ y0 y1 y2 y3 y4 y5 y6 y7 y8, xs = [y0, y1, y2, y3, y4, y5, y6, y7, y8] := by
  match xs, hxs with
  | [y0, y1, y2, y3, y4, y5, y6, y7, y8], _ => exact ⟨y0, y1, y2, y3, y4, y5, y6, y7, y8, rfl⟩
 try simp only [Rows.uptoBulk, Rows.uptoBulkAll, List.map_cons, List.map_nil]
 have g0 : Reads enc Tryz.prog W m 3 (([a0, a1, a2, a3, a4, a5, a6, a7, a8] : List Value).drop 0 |>.take (Tryz.prog.cellsOf 3)) y0 := hf 0 _ rfl
 rw [show Tryz.prog.cellsOf 3 = 1 by kernel_rfl] at g0
 have p0 := bulk_pos y0.1
 obtain ⟨z0, e0, q0, r0⟩ := dec_intW Tryz.underlying3 g0
 try simp at e0
 have g1 : Reads enc Tryz.prog W m 3 (([a0, a1, a2, a3, a4, a5, a6, a7, a8] : List Value).drop 1 |>.take (Tryz.prog.cellsOf 3)) y1 := hf 1 _ rfl
 rw [show Tryz.prog.cellsOf 3 = 1 by kernel_rfl] at g1
 have p1 := bulk_pos y1.1
 obtain ⟨z1, e1, q1, r1⟩ := dec_intW Tryz.underlying3 g1
 try simp at e1
 have g2 : Reads enc Tryz.prog W m 3 (([a0, a1, a2, a3, a4, a5, a6, a7, a8] : List Value).drop 2 |>.take (Tryz.prog.cellsOf 3)) y2 := hf 2 _ rfl
 rw [show Tryz.prog.cellsOf 3 = 1 by kernel_rfl] at g2
 have p2 := bulk_pos y2.1
 obtain ⟨z2, e2, q2, r2⟩ := dec_intW Tryz.underlying3 g2
 try simp at e2
 have g3 : Reads enc Tryz.prog W m 3 (([a0, a1, a2, a3, a4, a5, a6, a7, a8] : List Value).drop 3 |>.take (Tryz.prog.cellsOf 3)) y3 := hf 3 _ rfl
 rw [show Tryz.prog.cellsOf 3 = 1 by kernel_rfl] at g3
 have p3 := bulk_pos y3.1
 obtain ⟨z3, e3, q3, r3⟩ := dec_intW Tryz.underlying3 g3
 try simp at e3
 have g4 : Reads enc Tryz.prog W m 3 (([a0, a1, a2, a3, a4, a5, a6, a7, a8] : List Value).drop 4 |>.take (Tryz.prog.cellsOf 3)) y4 := hf 4 _ rfl
 rw [show Tryz.prog.cellsOf 3 = 1 by kernel_rfl] at g4
 have p4 := bulk_pos y4.1
 obtain ⟨z4, e4, q4, r4⟩ := dec_intW Tryz.underlying3 g4
 try simp at e4
 have g5 : Reads enc Tryz.prog W m 3 (([a0, a1, a2, a3, a4, a5, a6, a7, a8] : List Value).drop 5 |>.take (Tryz.prog.cellsOf 3)) y5 := hf 5 _ rfl
 rw [show Tryz.prog.cellsOf 3 = 1 by kernel_rfl] at g5
 have p5 := bulk_pos y5.1
 obtain ⟨z5, e5, q5, r5⟩ := dec_intW Tryz.underlying3 g5
 try simp at e5
 have g6 : Reads enc Tryz.prog W m 3 (([a0, a1, a2, a3, a4, a5, a6, a7, a8] : List Value).drop 6 |>.take (Tryz.prog.cellsOf 3)) y6 := hf 6 _ rfl
 rw [show Tryz.prog.cellsOf 3 = 1 by kernel_rfl] at g6
 have p6 := bulk_pos y6.1
 obtain ⟨z6, e6, q6, r6⟩ := dec_intW Tryz.underlying3 g6
 try simp at e6
 have g7 : Reads enc Tryz.prog W m 3 (([a0, a1, a2, a3, a4, a5, a6, a7, a8] : List Value).drop 7 |>.take (Tryz.prog.cellsOf 3)) y7 := hf 7 _ rfl
 rw [show Tryz.prog.cellsOf 3 = 1 by kernel_rfl] at g7
 have p7 := bulk_pos y7.1
 obtain ⟨z7, e7, q7, r7⟩ := dec_intW Tryz.underlying3 g7
 try simp at e7
 have g8 : Reads enc Tryz.prog W m 3 (([a0, a1, a2, a3, a4, a5, a6, a7, a8] : List Value).drop 8 |>.take (Tryz.prog.cellsOf 3)) y8 := hf 8 _ rfl
 rw [show Tryz.prog.cellsOf 3 = 1 by kernel_rfl] at g8
 have p8 := bulk_pos y8.1
 obtain ⟨z8, e8, q8, r8⟩ := dec_intW Tryz.underlying3 g8
 try simp at e8
 subst e0
 subst e1
 subst e2
 subst e3
 subst e4
 subst e5
 subst e6
 subst e7
 subst e8
 exact ⟨⟨z0, z1, z2, z3, z4, z5, z6, z7, z8⟩, rfl, st_nums q0 q1 q2 q3 q4 q5 q6⟩
theorem decNd {H : Type} {enc : TypeId × Value → H} {W : World} (n : Nat) (cs : List Value) (y : DataW H × List MemPlace) (h : Reads enc Tryz.prog W n 124 cs y) : ∃ z : Rno, cs = rnC z ∧ NdQ (Old W) z ∧ mNd z ≤ Rows.uptoBulk y.1 := by
 obtain ⟨xs, m, -, rfl, hlen, hxs, hf⟩ := DataW.trod_struct Tryz.underlying124 h
 rw [show Tryz.prog.cellsOf 124 = 12 by kernel_rfl] at hlen
 obtain ⟨a0, a1, a2, a3, a4, a5, a6, a7, a8, a9, a10, a11, rfl⟩ : ∃ a0 a1 a2 a3 a4 a5 a6 a7 a8 a9 a10 a11, cs = [a0, a1, a2, a3, a4, a5, a6, a7, a8, a9, a10, a11] := by
  match cs, hlen with
  | [a0, a1, a2, a3, a4, a5, a6, a7, a8, a9, a10, a11], _ => exact ⟨a0, a1, a2, a3, a4, a5, a6, a7, a8, a9, a10, a11, rfl⟩
 obtain ⟨y0, y1, y2, y3, rfl⟩ : ∃ y0 y1 y2 y3, xs = [y0, y1, y2, y3] := by
  match xs, hxs with
  | [y0, y1, y2, y3], _ => exact ⟨y0, y1, y2, y3, rfl⟩
 try simp only [Rows.uptoBulk, Rows.uptoBulkAll, List.map_cons, List.map_nil]
 have g0 : Reads enc Tryz.prog W m 9 (([a0, a1, a2, a3, a4, a5, a6, a7, a8, a9, a10, a11] : List Value).drop 0 |>.take (Tryz.prog.cellsOf 9)) y0 := hf 0 _ rfl
 rw [show Tryz.prog.cellsOf 9 = 1 by kernel_rfl] at g0
 have p0 := bulk_pos y0.1
 obtain ⟨z0, e0, r0⟩ := dec_strW Tryz.underlying9 g0
 try simp at e0
 have g1 : Reads enc Tryz.prog W m 9 (([a0, a1, a2, a3, a4, a5, a6, a7, a8, a9, a10, a11] : List Value).drop 1 |>.take (Tryz.prog.cellsOf 9)) y1 := hf 1 _ rfl
 rw [show Tryz.prog.cellsOf 9 = 1 by kernel_rfl] at g1
 have p1 := bulk_pos y1.1
 obtain ⟨z1, e1, r1⟩ := dec_strW Tryz.underlying9 g1
 try simp at e1
 have g2 : Reads enc Tryz.prog W m 34 (([a0, a1, a2, a3, a4, a5, a6, a7, a8, a9, a10, a11] : List Value).drop 2 |>.take (Tryz.prog.cellsOf 34)) y2 := hf 2 _ rfl
 rw [show Tryz.prog.cellsOf 34 = 1 by kernel_rfl] at g2
 have p2 := bulk_pos y2.1
 obtain ⟨⟨v2, l2⟩, e2, k2, q2, c2, r2⟩ := dec_sliceW acC (fun a => I64 a.1) mAc Tryz.underlying34 (show Tryz.prog.cellsOf 90 = 2 by kernel_rfl) (by decide) (fun n cs y h => decAc n cs y h) g2
 dsimp only at e2 k2 q2 c2 r2
 have ck2 : isCell v2 = true := by obtain ⟨sa, sc, hs⟩ := rd_shape k2; rw [hs]; rfl
 try simp at e2
 have g3 : Reads enc Tryz.prog W m 92 (([a0, a1, a2, a3, a4, a5, a6, a7, a8, a9, a10, a11] : List Value).drop 3 |>.take (Tryz.prog.cellsOf 92)) y3 := hf 3 _ rfl
 rw [show Tryz.prog.cellsOf 92 = 9 by kernel_rfl] at g3
 have p3 := bulk_pos y3.1
 obtain ⟨z3, e3, q3⟩ := decStt _ _ _ g3
 try simp [ptC, enC, stC] at e3
 subst e0
 subst e1
 subst e2
 obtain ⟨rfl, rfl, rfl, rfl, rfl, rfl, rfl, rfl, rfl⟩ := e3
 exact ⟨(z0, (a2, ⟨z1, l2, z3⟩)), rfl, ⟨k2, ck2, q2, q3⟩, by unfold mNd; dsimp only; omega⟩
theorem decSs {H : Type} {enc : TypeId × Value → H} {W : World} (n : Nat) (cs : List Value) (y : DataW H × List MemPlace) (h : Reads enc Tryz.prog W n 127 cs y) : ∃ x : SN, cs = rsC x ∧ (I64 x.1 ∧ I64 x.2.1) ∧ mSs x ≤ Rows.uptoBulk y.1 := by
 obtain ⟨xs, m, -, rfl, hlen, hxs, hf⟩ := DataW.trod_struct Tryz.underlying127 h
 rw [show Tryz.prog.cellsOf 127 = 3 by kernel_rfl] at hlen
 obtain ⟨a0, a1, a2, rfl⟩ : ∃ a0 a1 a2, cs = [a0, a1, a2] := by
  match cs, hlen with
  | [a0, a1, a2], _ => exact ⟨a0, a1, a2, rfl⟩
 obtain ⟨y0, y1, y2, rfl⟩ : ∃ y0 y1 y2, xs = [y0, y1, y2] := by
  match xs, hxs with
  | [y0, y1, y2], _ => exact ⟨y0, y1, y2, rfl⟩
 try simp only [Rows.uptoBulk, Rows.uptoBulkAll, List.map_cons, List.map_nil]
 have g0 : Reads enc Tryz.prog W m 3 (([a0, a1, a2] : List Value).drop 0 |>.take (Tryz.prog.cellsOf 3)) y0 := hf 0 _ rfl
 rw [show Tryz.prog.cellsOf 3 = 1 by kernel_rfl] at g0
 have p0 := bulk_pos y0.1
 obtain ⟨z0, e0, q0, r0⟩ := dec_intW Tryz.underlying3 g0
 try simp at e0
 have g1 : Reads enc Tryz.prog W m 3 (([a0, a1, a2] : List Value).drop 1 |>.take (Tryz.prog.cellsOf 3)) y1 := hf 1 _ rfl
 rw [show Tryz.prog.cellsOf 3 = 1 by kernel_rfl] at g1
 have p1 := bulk_pos y1.1
 obtain ⟨z1, e1, q1, r1⟩ := dec_intW Tryz.underlying3 g1
 try simp at e1
 have g2 : Reads enc Tryz.prog W m 9 (([a0, a1, a2] : List Value).drop 2 |>.take (Tryz.prog.cellsOf 9)) y2 := hf 2 _ rfl
 rw [show Tryz.prog.cellsOf 9 = 1 by kernel_rfl] at g2
 have p2 := bulk_pos y2.1
 obtain ⟨z2, e2, r2⟩ := dec_strW Tryz.underlying9 g2
 try simp at e2
 subst e0
 subst e1
 subst e2
 exact ⟨(z0, (z1, z2)), rfl, ⟨q0, q1⟩, by unfold mSs; dsimp only; omega⟩
theorem decRaw {H : Type} {enc : TypeId × Value → H} {W : World} (n : Nat) (cs : List Value) (y : DataW H × List MemPlace) (h : Reads enc Tryz.prog W n 61 cs y) : ∃ (u us : Value) (l : List Rno) (ss : SsM) (zx : Int), cs = [u, us, vint zx] ∧ (Rows.uptoBulk y.1 ≤ 1048576 → RawA (Old W) u us l ss zx) := by
 obtain ⟨xs, m, -, rfl, hlen, hxs, hf⟩ := DataW.trod_struct Tryz.underlying61 h
 rw [show Tryz.prog.cellsOf 61 = 3 by kernel_rfl] at hlen
 obtain ⟨a0, a1, a2, rfl⟩ : ∃ a0 a1 a2, cs = [a0, a1, a2] := by
  match cs, hlen with
  | [a0, a1, a2], _ => exact ⟨a0, a1, a2, rfl⟩
 obtain ⟨y0, y1, y2, rfl⟩ : ∃ y0 y1 y2, xs = [y0, y1, y2] := by
  match xs, hxs with
  | [y0, y1, y2], _ => exact ⟨y0, y1, y2, rfl⟩
 try simp only [Rows.uptoBulk, Rows.uptoBulkAll, List.map_cons, List.map_nil]
 have g0 : Reads enc Tryz.prog W m 58 (([a0, a1, a2] : List Value).drop 0 |>.take (Tryz.prog.cellsOf 58)) y0 := hf 0 _ rfl
 rw [show Tryz.prog.cellsOf 58 = 1 by kernel_rfl] at g0
 have p0 := bulk_pos y0.1
 obtain ⟨⟨v0, l0⟩, e0, k0, q0, c0, r0⟩ := dec_sliceW rnC (fun z => NdQ (Old W) z) mNd Tryz.underlying58 (show Tryz.prog.cellsOf 124 = 12 by kernel_rfl) (by decide) (fun n cs y h => decNd n cs y h) g0
 dsimp only at e0 k0 q0 c0 r0
 have ck0 : isCell v0 = true := by obtain ⟨sa, sc, hs⟩ := rd_shape k0; rw [hs]; rfl
 try simp at e0
 have g1 : Reads enc Tryz.prog W m 59 (([a0, a1, a2] : List Value).drop 1 |>.take (Tryz.prog.cellsOf 59)) y1 := hf 1 _ rfl
 rw [show Tryz.prog.cellsOf 59 = 1 by kernel_rfl] at g1
 have p1 := bulk_pos y1.1
 obtain ⟨⟨v1, l1⟩, e1, k1, q1, c1, r1⟩ := dec_sliceW rsC (fun x : SN => I64 x.1 ∧ I64 x.2.1) mSs Tryz.underlying59 (show Tryz.prog.cellsOf 127 = 3 by kernel_rfl) (by decide) (fun n cs y h => decSs n cs y h) g1
 dsimp only at e1 k1 q1 c1 r1
 have ck1 : isCell v1 = true := by obtain ⟨sa, sc, hs⟩ := rd_shape k1; rw [hs]; rfl
 try simp at e1
 have g2 : Reads enc Tryz.prog W m 3 (([a0, a1, a2] : List Value).drop 2 |>.take (Tryz.prog.cellsOf 3)) y2 := hf 2 _ rfl
 rw [show Tryz.prog.cellsOf 3 = 1 by kernel_rfl] at g2
 have p2 := bulk_pos y2.1
 obtain ⟨z2, e2, q2, r2⟩ := dec_intW Tryz.underlying3 g2
 try simp at e2
 subst e0
 subst e1
 subst e2
 refine ⟨a0, a1, l0, l1, z2, rfl, fun hb => ?_⟩
 try simp only [Rows.uptoBulk, Rows.uptoBulkAll, List.map_cons, List.map_nil] at hb
 have h3 := sum_three (m := mNd) (fun a => by unfold mNd; omega) l0
 have h4 := sum_three (m := mSs) (fun a => by unfold mSs; omega) l1
 exact ⟨k0, k1, fun z hz => (q0 z hz).acl, fun z hz => (q0 z hz).cell, by omega, fun z hz => (q0 z hz).w (by have := sum_mem (m := mNd) hz; omega), fun x hx => ⟨(q1 x hx).1, (q1 x hx).2, by have h5 := sum_mem (m := mSs) hx; have h6 : mSs x = 3 + x.2.2.length := rfl; omega⟩, q2⟩
end Go.Proofs.YtgppfpmmijbncaaGreatDoor
namespace Go.Proofs.YtgppfpmmijbncaaGreatDoor.snapTrees
open Go Go.ChangeShapes Go.WideShapes Go.ChangeAt Go.RowKit
theorem own : ownKnob Tryz.prog.godebug = none := by kernel_rfl
theorem laid : laidOutB Tryz.prog = true := by kernel_rfl
theorem readable : ∀ t ∈ Tryz.f6.params.toList, Tryz.prog.readableRec t = true ∧ t < Tryz.prog.types.size := by
 have h : (Tryz.f6.params.toList.all fun t => Tryz.prog.readableRec t && decide (t < Tryz.prog.types.size)) = true := by kernel_rfl
 intro t ht
 simpa using List.all_eq_true.1 h t ht
theorem contract (H : Type) (enc : TypeId × Value → H) (W : World) (base : Nat) (args : Array Value) (ds gs : List (DataW H)) (before : List MemPlace)
  (hval : ∀ (j : Nat) t v, Tryz.f6.params[j]? = some t → args[j]? = some v → Value.okWide Tryz.prog W .any base t v)
  (hW : DataW.Whole enc Tryz.prog Tryz.f6.params.toList Rows.snapTreesSpec.vars false W args.toList ds gs before) (hk : Rows.uptoSmall H (ds ++ gs) = true) :
  Calls Tryz.prog 6 args W fun e W' => ∃ v, e = .returned v ∧ Rows.snapTreesSpec.post enc Tryz.prog Tryz.f6 false true false false W args v W' := by
 have hW' := hW
 obtain ⟨p, q, hA, hV, rfl, hfz, hnd⟩ := hW
 obtain ⟨rfl, -⟩ := trodVars_none hV
 rw [List.append_nil] at hk
 have hpar : Tryz.f6.params = #[61] := Tryz.params6
 rw [hpar] at hval
 have hA' := hA
 rw [hpar] at hA'
 obtain ⟨v0, vs0, d0, ds0, p0, r0, ha0, rfl, rfl, h0, t0⟩ := trodAll_cons hA'
 obtain ⟨hv, rfl, rfl⟩ := trodAll_nil t0
 obtain rfl : args = #[v0] := by
  have e : args.toList = [v0] := by rw [ha0, hv]
  cases args; simp_all
 have b0 := bulk_small hk (d := d0) (by simp)
 obtain ⟨ca0, rfl, -⟩ := okWide_struct Tryz.underlying61 (hval 0 _ _ rfl rfl)
 obtain ⟨fu0, g0⟩ := h0
 obtain ⟨u0, us0, l0, ss0, zx0, e0, q0⟩ := decRaw _ _ _ g0
 obtain rfl : ca0 = ([u0, us0, vint zx0] : List Value).toArray := by have := congrArg List.toArray e0; simpa [Value.cells] using this
 refine (old_calls (snapTrees8_spec u0 us0 l0 ss0 zx0 (Old W) (q0 b0))).mono fun e W' ⟨he, hb⟩ => ⟨_, he, ?_⟩
 exact settled hW' rfl (fun gs' h => by subst h; rfl) rfl Tryz.underlying4 laid readable hb
def cellsTo (l : List Value) : Obj → Obj
 | .cells _ t frozen => .cells l.toArray t frozen
 | o => o
noncomputable def laidWorld (os : Os) : World :=
 let w := World.holding Tryz.prog os ⟨#[], #[], []⟩
 { w with heap := (w.heap.modify 1 (cellsTo (Pinned.utf8FirstZ.map fun (n : Nat) => Value.int .u8 n))).modify 2 (cellsTo [.int .u8 128, .int .u8 191, .int .u8 160, .int .u8 191, .int .u8 128, .int .u8 159, .int .u8 144, .int .u8 191, .int .u8 128, .int .u8 143, .int .u8 0, .int .u8 0, .int .u8 0, .int .u8 0, .int .u8 0, .int .u8 0, .int .u8 0, .int .u8 0, .int .u8 0, .int .u8 0, .int .u8 0, .int .u8 0, .int .u8 0, .int .u8 0, .int .u8 0, .int .u8 0, .int .u8 0, .int .u8 0, .int .u8 0, .int .u8 0, .int .u8 0, .int .u8 0]) }
theorem laid_met (os : Os) : laidMet Tryz.prog Rows.snapTreesUptoRow.laid ((laidWorld os).forCall (fun _ _ => 0) ⟨#[], #[.agg #[.slice none 0 0, .slice none 0 0, .int .i64 0]], []⟩).memory :=
 laidMet_of_run' 8 (by kernel_rfl) (by kernel_rfl)
theorem reads (os : Os) {H : Type} (enc : TypeId × Value → H) : ∃ places, DataW.whole enc Tryz.prog ((laidWorld os).forCall (fun _ _ => 0) ⟨#[], #[.agg #[.slice none 0 0, .slice none 0 0, .int .i64 0]], []⟩).memory Tryz.f6.params.toList Rows.snapTreesSpec.vars false (#[.agg #[.slice none 0 0, .slice none 0 0, .int .i64 0]] : Array Value).toList 8 = some ([.agg [.nil, .nil, .lit (.int .i64 0)]], [], places) :=
 ⟨[], by kernel_rfl⟩
theorem lifted (os : Os) (started : os.Started) (H : Type) (enc : TypeId × Value → H) (F : Stop.Interp) :
  ReturnsInHanded {} Tryz.checked os 6 .any ((Rows.OpenSpec.upto Rows.snapTreesSpec).preRow enc Tryz.prog Tryz.f6 Rows.snapTreesUptoRow.domain false Rows.snapTreesUptoRow.laid) (((Rows.OpenSpec.upto Rows.snapTreesSpec).at F).post enc Tryz.prog Tryz.f6 false true false false) := by
 obtain ⟨places, hx⟩ := reads os enc
 refine returnsInHanded_of_row (C := Tryz.checked) (s := Rows.OpenSpec.upto Rows.snapTreesSpec) own started (by kernel_rfl) Tryz.func6
  (witness_row_at (enc := enc) (C := Tryz.checked) false (laidWorld os) #[.agg #[.slice none 0 0, .slice none 0 0, .int .i64 0]] rfl (by kernel_rfl) (by kernel_rfl) (by kernel_rfl)
   (OpenSpec.preRow_of_cond 8 hx (by kernel_rfl) (fun k hk => by cases hk; kernel_rfl) (by kernel_rfl) (laid_met os))) ?_
 intro W base args ds gs before hval hW _ hcond _ _ _ _
 exact contract H enc W base args ds gs before hval hW (hcond _ rfl)
theorem saidUpto : Rows.SnapTreesUptoSaid :=
 OpenClaim.holds_of_cond 6 Tryz.f6 rfl rfl rfl rfl rfl rfl rfl ⟨rfl, rfl, rfl, rfl, rfl⟩ rfl rfl rfl rfl rfl (by kernel_rfl) Tryz.func6 (by kernel_rfl)
  (of_decide_eq_true (by kernel_rfl)) (by unfold Func.isWrapper; first | (rw [if_pos (by decide +kernel)]; kernel_rfl) | (rw [if_neg (by decide +kernel)]; exact ⟨rfl, rfl⟩))
  (fun os started H enc _ F => by rw [OpenClaim.pre_eq_preRow]; exact lifted os started H enc F)
theorem plain (f : FuncId) (fn : Func) (hf : Tryz.pinned.checked.prog.funcNamed "arboretum/arboretumlaw08.SnapTrees" = some f) (hfn : Tryz.pinned.checked.prog.funcs[f]? = some fn) :
  false = Tryz.pinned.checked.prog.looks [] ∧ ∀ (j : Nat) t, fn.params[j]? = some t → Tryz.pinned.checked.prog.wantsStandIn t = false := by
 obtain rfl : f = 6 := Option.some.inj ((show Tryz.prog.funcNamed "arboretum/arboretumlaw08.SnapTrees" = some 6 by kernel_rfl).symm.trans hf) |>.symm
 obtain rfl : fn = Tryz.f6 := (Option.some.inj (Tryz.func6.symm.trans hfn)).symm
 refine ⟨by kernel_rfl, fun j t ht => ?_⟩
 have h : (Tryz.f6.params.toList.all fun t => !Tryz.pinned.checked.prog.wantsStandIn t) = true := by kernel_rfl
 have h2 := List.all_eq_true.1 h t (Array.mem_def.1 (Array.mem_of_getElem? ht))
 simpa using h2
theorem proved : Rows.SnapTreesUptoCardSaid :=
 Claim7.holds_tied_plain_at .later [] _ _ _ _ saidUpto (fun _ h => by cases h) (by kernel_rfl) (fun _ h => by cases h) snapTreesUpto_row_tie rfl ⟨rfl, rfl⟩ (by kernel_rfl) rfl plain (by kernel_rfl)
end Go.Proofs.YtgppfpmmijbncaaGreatDoor.snapTrees
