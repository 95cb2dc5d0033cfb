/- Own work, some of it printed by program, texts that were built one by one: a part of the proof of ledgerPlays.proved. -/
import Derived.Test.YtidjhgbdokcphaaGreatCLPlaysP2
import Derived.Test.YtidjhgbdokcphaaGreatCLPlaysP1
import Derived.Test.YtidjhgbdokcphaaGreatCLPlaysP0
set_option maxRecDepth 100000
namespace Go.Proofs.YtidjhgbdokcphaaGreat
open Go
def entC (m0 m1 m2 : Int) : List Value := [vint m0, vint m1, vint m2, vint 0, vstr [], vstr [], nilV, vint 0, vint 0, vint 0, nilV]
def entB (b3 : Nat) (n0 n1 n2 : Int) : Nat → HP
 | 0 => ptc b3 (entC 0 0 0) 38
 | 1 => ptc b3 (entC n0 0 0) 38
 | 2 => ptc b3 (entC n0 n1 0) 38
 | _ => ptc b3 (entC n0 n1 n2) 38
theorem into_ent (b3 : Nat) (st : Rs) :
  ∀ j (hj : j < [(b3, 0), (b3, 1), (b3, 2)].length) (E : Env) (x y : Operand) (ty : TypeId), ev E x = some (addrV [(b3, 0), (b3, 1), (b3, 2)][j]) → ev E y = some (vint (numR (manyR numR j st).2).1) →
  OpSpec Tryz.prog ⟨none, .store 3 x y, ty, "", #[], none⟩ E [entB b3 (numR (manyR numR 0 st).2).1 (numR (manyR numR 1 st).2).1 (numR (manyR numR 2 st).2).1 j]
   fun _ L' => L' = [entB b3 (numR (manyR numR 0 st).2).1 (numR (manyR numR 1 st).2).1 (numR (manyR numR 2 st).2).1 (j + 1)] := by
 intro j hj E x y ty hx hy
 match j, hj with
 | 0, _ => exact OpSpec.store (off := 0) hx hy rfl sz_3 (by simp [entC]) (nfz0 _ _)
 | 1, _ => exact OpSpec.store (off := 1) hx hy rfl sz_3 (by simp [entC]) (nfz0 _ _)
 | 2, _ => exact OpSpec.store (off := 2) hx hy rfl sz_3 (by simp [entC]) (nfz0 _ _)
def partC (v0 : Int) (v1 v2 : Bs) (v3 : Value) (m0 m1 : Int) : List Value := [vint v0, vstr v1, vstr v2, v3, vint m0, vint m1, vint 0, nilV]
def partB (b3 b4 : Nat) (v0 : Int) (v1 v2 : Bs) (v3 : Value) (n0 n1 n2 : Int) : Nat → HP
 | 0 => sep [ptc b3 (partC v0 v1 v2 v3 0 0) 36, ptc b4 [vint 0] 3]
 | 1 => sep [ptc b3 (partC v0 v1 v2 v3 n0 0) 36, ptc b4 [vint 0] 3]
 | 2 => sep [ptc b3 (partC v0 v1 v2 v3 n0 n1) 36, ptc b4 [vint 0] 3]
 | _ => sep [ptc b3 (partC v0 v1 v2 v3 n0 n1) 36, ptc b4 [vint n2] 3]
theorem into_part (b3 b4 : Nat) (v0 : Int) (v1 v2 : Bs) (v3 : Value) (st : Rs) :
  ∀ j (hj : j < [(b3, 4), (b3, 5), (b4, 0)].length) (E : Env) (x y : Operand) (ty : TypeId), ev E x = some (addrV [(b3, 4), (b3, 5), (b4, 0)][j]) → ev E y = some (vint (numR (manyR numR j st).2).1) →
  OpSpec Tryz.prog ⟨none, .store 3 x y, ty, "", #[], none⟩ E [partB b3 b4 v0 v1 v2 v3 (numR (manyR numR 0 st).2).1 (numR (manyR numR 1 st).2).1 (numR (manyR numR 2 st).2).1 j]
   fun _ L' => L' = [partB b3 b4 v0 v1 v2 v3 (numR (manyR numR 0 st).2).1 (numR (manyR numR 1 st).2).1 (numR (manyR numR 2 st).2).1 (j + 1)] := by
 intro j hj E x y ty hx hy
 match j, hj with
 | 0, _ => exact OpSpec.inL (OpSpec.store (off := 4) hx hy rfl sz_3 (by simp [partC]) (nfz0 _ _))
 | 1, _ => exact OpSpec.inL (OpSpec.store (off := 5) hx hy rfl sz_3 (by simp [partC]) (nfz0 _ _))
 | 2, _ => exact OpSpec.inR (OpSpec.store (off := 0) hx hy rfl sz_3 (by simp) (nfz0 _ _))
theorem wputG_spec (e : En) (p : HP) (he : EnL p e) : Fn Tryz.prog 154 #[.agg (enC e).toArray, .func (.func 155) #[] #[]] [p] fun v L => v = vstr (enB e) ∧ L = [p] := by
 refine Fn.intro Tryz.func154 rfl rfl fun F W => ?_
 refine .sr (.oq (.box rfl) ?_)
 rintro v L' ⟨b2, rfl, rfl⟩
 refine .a rfl (.nil (.ptCast (b := b2) (l' := enC e) (by repeat' constructor) (by exact rfl) (.then_n (.sr (.oq (.c Tryz.func101 [] (cnew_spec)) ?_)))))
 rintro v L' ⟨cw, rfl, rfl⟩
 refine .an rfl (.sm rfl (.m rfl (.q (.loadAs (vs := enC e) rfl ag_38 (by repeat' constructor) (by simp [enC, ptC]) rfl) rfl (.oq (.callV Tryz.func155 rfl rfl (us := []) (vs := [_, _]) (ws := []) rfl rfl (wentry_spec cw e p he)) ?_))))
 rintro v L' ⟨rfl, rfl⟩
 refine .nt (.sm rfl (.cv Tryz.func104 [_] (cbytes_spec _ _) ?_))
 refine .an rfl (.ret ?_)
 exact .vv
theorem wput_spec (e : En) (p : HP) (he : EnL p e) : Fn Tryz.prog 108 #[.agg (enC e).toArray] [p] fun v L => v = vstr (enB e) ∧ L = [p] := by
 refine Fn.intro Tryz.func108 rfl rfl fun F W => ?_
 refine .sr (.oq (.box rfl) ?_)
 rintro v L' ⟨b1, rfl, rfl⟩
 refine .a rfl (.nil (.ptCast (b := b1) (l' := enC e) (by repeat' constructor) (by exact rfl) (.then_n (.sr (.q (.loadAs (vs := enC e) rfl ag_38 (by repeat' constructor) (by simp [enC, ptC]) rfl) rfl (.cv Tryz.func154 [_, _] (wputG_spec e p he) ?_))))))
 refine .an rfl (.ret ?_)
 exact .vv
theorem wtext_spec (r : Nat) (st : Rs) : Fn Tryz.prog 192 #[vptr r] [rdR r st] fun v L => v = vstr (txtR st).1 ∧ L = [rdR r (txtR st).2] := by
 refine Fn.intro Tryz.func192 rfl rfl fun F W => ?_
 refine .sr (.an rfl (.sm rfl (.cv Tryz.func212 [_, _] (rtext_spec r 4096 (by decide) st) ?_)))
 refine .an rfl (.ret ?_)
 exact .vv
theorem wnum_spec (r : Nat) (st : Rs) : Fn Tryz.prog 118 #[vptr r] [rdR r st] fun v L => v = vint (numR st).1 ∧ L = [rdR r (numR st).2] := rnum_spec r st
theorem winto_spec (r : Nat) (st : Rs) (va : Value) (ad : List (Nat × Nat)) (q : HP) (hq : ∀ h : Hp, q h → rdS 1 h va ad.length (ad.map addrV)) (B : Nat → HP)
    (hB : ∀ j (hj : j < ad.length) (E : Env) (x y : Operand) (ty : TypeId), ev E x = some (addrV ad[j]) → ev E y = some (vint (numR (manyR numR j st).2).1) → OpSpec Tryz.prog ⟨none, .store 3 x y, ty, "", #[], none⟩ E [B j] fun _ L' => L' = [B (j + 1)]) (hn : ad.length ≤ 1048576) :
    Fn Tryz.prog 156 #[vptr r, va] [rdR r st, q, B 0] fun v L => v = .tuple #[] ∧ L = [rdR r (manyR numR ad.length st).2, q, B ad.length] := by
 refine Fn.intro Tryz.func156 rfl rfl fun F W => ?_
 refine .rdAny (p := q) hq (by repeat' constructor) fun aa ca e0 _ => ?_
 subst e0
 refine .sm rfl (.q (.slen rfl Tryz.underlying218 rfl) rfl (.m rfl (.nt (.block (.loopK (ι := Nat) (fun q E => (8, vint q) :: E) (fun q => [rdR r (manyR numR q st).2, B q]) (fun q => q ≤ ad.length) (fun q => ad.length - q) (0) (ts := [0, 6, 7]) (.cons rfl (.cons rfl (.cons rfl (.nil)))) (Nat.zero_le _) ⟨rfl, rfl, rfl, rfl, trivial⟩ (by repeat' constructor) ?_)))))
 rintro j hj
 refine .sr (.ui rfl rfl rfl (.nt (.seq (.condD rfl (fun h9 => ?_) (fun h9 => ?_)))))
 ·have hj2 : j < ad.length := by omega
  refine .rdShape (p := q) hq (by repeat' constructor) (by omega) fun ba oa e => ?_
  subst e
  refine .sk (.seq (.block (.sr (.q (.indexAddr rfl rfl el_218 (by omega)) rfl (.q (.loadEl (p := q) (i := j * 1) (v := addrV ad[j]) rfl ag_195 (by repeat' constructor) hq (by simp [hj2])) rfl (.an rfl (.region (.m rfl (.m rfl (.cv Tryz.func118 [_] (wnum_spec r _) ?_))))))))))
  refine .u (.nilp rfl) (.oq (hB j hj2 _ _ _ _ rfl rfl) ?_)
  rintro v L' rfl
  refine .nil (.blk_n (.then_n (.region (.q (.add rfl rfl (by omega)) rfl (.m rfl (.nt ?_))))))
  exact .rk (j + 1) (by omega) (by omega) ⟨rfl, rfl, rfl, rfl, trivial⟩
 have hjj : j = ad.length := by omega
 rw [hjj]
 refine .exit (.then_e (.then_e (.blk_e (.done_n ?_))))
 exact .vv
theorem wtacl_spec (r : Nat) (st : Rs) : Fn Tryz.prog 194 #[vptr r] [rdR r st] fun v L => v = .agg (acC (acR st).1).toArray ∧ L = [rdR r (acR st).2] := by
 refine Fn.intro Tryz.func194 rfl rfl fun F W => ?_
 refine .sr (.oq (.allocA ze_210) ?_)
 rintro v L' ⟨b2, rfl, rfl⟩
 refine .nt (.sm rfl (.cv Tryz.func118 [_] (wnum_spec r st) ?_))
 refine .an rfl (.sm rfl (.m rfl (.cv Tryz.func192 [_] (wtext_spec r _) ?_)))
 refine .q (.to (v' := .agg (acC (acR st).1).toArray) (.build (us := [(0, _), (1, _)]) fl_210 ze_210 rfl rfl (by simp [isCell])) rfl) rfl (.oq (.storeA rfl rfl ?c10 sz_210 ?c13 ?c11 (nfz0 _ _)) ?_)
 case c10 => simp [acC, isCell]
 case c13 => rfl
 case c11 => simp [acC]
 rintro v L' rfl
 refine .nt (.ret (.ptCast (b := b2) (l' := acC (acR st).1) (by repeat' constructor) (by exact rfl) ?_))
 exact .d1 rfl (.cellA rfl ag_210 (by repeat' constructor) (by simp [acC]) rfl) ⟨rfl, rfl⟩
theorem wracl_spec (r : Nat) (st : Rs) : Fn Tryz.prog 193 #[vptr r, .func (.func 194) #[] #[]] [rdR r st] fun v L => ∃ a c, v = .slice a (rowsR acR st).1.length c ∧ L = [rdR r (rowsR acR st).2, slR 210 2 v (rowsR acR st).1.length ((rowsR acR st).1.flatMap acC)] := by
 refine Fn.intro Tryz.func193 rfl rfl fun F W => ?_
 obtain ⟨m, hm⟩ : ∃ m, m = (cntR st).1 := ⟨_, rfl⟩
 obtain ⟨st1, hst1⟩ : ∃ s, s = (cntR st).2 := ⟨_, rfl⟩
 have hm2 := cntR_le st
 have hrow : rowsR acR st = manyR acR m st1 := by rw [hm, hst1]; rfl
 have hml := many_len acR st1 m
 rw [hrow, hml]
 refine .sr (.an rfl (.seq (.add (slR_nil 210 2) (.region (.an rfl (.seq (.sm rfl (.oq (.c Tryz.func119 [_, _] (rcount_spec r 256 (by decide) st)) ?_))))))))
 rintro v L' ⟨rfl, rfl⟩; rw [show (runP 0 (cntP 256) st).1 = m from hm.symm, show (runP 0 (cntP 256) st).2 = st1 from hst1.symm]
 refine .m rfl (.nt (.block (.loopK (ι := Nat × Value) (fun q E => (8, vint q.1) :: (5, q.2) :: E) (fun q => [rdR r (manyR acR q.1 st1).2, slR 210 2 q.2 q.1 ((manyR acR q.1 st1).1.flatMap acC)]) (fun q => q.1 ≤ m ∧ ∃ a c, q.2 = .slice a q.1 c) (fun q => m - q.1) (0, .slice none 0 0) (ts := [0, 1, 4, 7]) (.cons rfl (.cons rfl (.cons rfl (.cons rfl (.nil))))) (⟨Nat.zero_le _, none, 0, rfl⟩) ⟨rfl, rfl, rfl, rfl, rfl, rfl, trivial⟩ (by repeat' constructor) ?_)))
 rintro ⟨j, u⟩ ⟨hj, au, cu, hu⟩
 dsimp only
 dsimp only at hj hu
 subst hu
 refine .sr (.ui rfl rfl rfl (.nt (.seq (.condD rfl (fun h9 => ?_) (fun h9 => ?_)))))
 ·have hj2 : j < m := by omega
  refine .sk (.seq (.block (.region (.m rfl (.m rfl (.m rfl (.oq (.callV Tryz.func194 rfl rfl (us := []) (vs := [_]) (ws := []) rfl rfl (wtacl_spec r _)) ?_)))))))
  rintro v L' ⟨rfl, rfl⟩
  refine .oq (.buildSlice (vs := [_]) el_33 ze_210 rfl rfl rfl rfl (by first | (simp [Value.cells]; done) | (intro v hv; simp only [List.mem_cons, List.not_mem_nil, or_false] at hv; (repeat (first | (subst hv; rfl) | (rcases hv with hv | hv; (subst hv; rfl)))))) (by decide)) ?_
  rintro v L' ⟨b4, rfl, rfl⟩
  refine .oq (.append1 rfl rfl rfl el_33 ze_210 rfl rfl ?c15 ?c16 (Nat.le_refl _) ?c17 (by decide)) ?_
  case c15 => simp only [List.map_cons, List.map_nil, List.flatten_cons, List.flatten_nil, List.append_nil]; simp [Value.cells, acC, isCell]
  case c16 => rfl
  case c17 => omega
  rintro v L' ⟨⟨a5, c5, rfl⟩, rfl⟩
  refine .a rfl (.nil (.blk_n (.then_n (.region (.q (.add rfl rfl (by omega)) rfl (.m rfl (.nt (.slCast (T := 210) (sz := 2) (m' := j + 1) (xs' := (manyR acR (j + 1) st1).1.flatMap acC) (by repeat' constructor) (by exact rfl) (by show _ = ((manyR acR j st1).1 ++ [_]).flatMap acC; rw [List.flatMap_append]; simp [Value.cells, acC]) ?_))))))))
  exact .rk ((j + 1, .slice a5 (j + 1) c5)) (⟨by dsimp only; omega, _, _, rfl⟩) (by dsimp only; omega) ⟨rfl, rfl, rfl, rfl, rfl, rfl, trivial⟩
 have hjj : j = m := by omega
 subst hjj
 refine .exit (.then_e (.then_e (.blk_e (.then_n (.sm rfl (.an rfl (.ret ?_)))))))
 exact .dn rfl rfl ⟨_, _, rfl, rfl⟩
theorem wtpart_spec (r : Nat) (st : Rs) : Fn Tryz.prog 157 #[vptr r] [rdR r st] fun v L => ∃ aa ca, v = .agg (ptC ((ptR st).1.wa (.slice aa (ptR st).1.acl.length ca))).toArray ∧ L = [rdR r (ptR st).2, aclR ((ptR st).1.wa (.slice aa (ptR st).1.acl.length ca))] := by
 refine Fn.intro Tryz.func157 rfl rfl fun F W => ?_
 refine .sr (.oq (.allocA ze_36) ?_)
 rintro v L' ⟨b2, rfl, rfl⟩
 refine .nt (.sr (.oq (.allocA ze_36) ?_))
 rintro v L' ⟨b3, rfl, rfl⟩
 refine .nt (.sm rfl (.cv Tryz.func118 [_] (wnum_spec r st) ?_))
 refine .u (.fieldAddr rfl fo_36_0) (.st rfl rfl rfl sz_3 ?_)
 refine .nt (.sm rfl (.cv Tryz.func192 [_] (wtext_spec r _) ?_))
 refine .u (.fieldAddr rfl fo_36_1) (.st rfl rfl rfl sz_9 ?_)
 refine .nt (.sm rfl (.cv Tryz.func192 [_] (wtext_spec r _) ?_))
 refine .u (.fieldAddr rfl fo_36_2) (.st rfl rfl rfl sz_9 ?_)
 refine .nt (.sm rfl (.oq (.c Tryz.func193 [_, _] (wracl_spec r _)) ?_))
 rintro v L' ⟨aa, ca, rfl, rfl⟩
 refine .u (.fieldAddr rfl fo_36_3) (.st rfl rfl rfl sz_33 ?_)
 refine .nt (.sr (.oq (.alloc ze_3) ?_))
 rintro v L' ⟨b4, rfl, rfl⟩
 refine .nt (.sm rfl (.u (.fieldAddr rfl fo_36_4) (.u (.fieldAddr rfl fo_36_5) (.oq (.buildSlice1 (vs := [_, _, _]) el_218 ze_195 rfl rfl rfl rfl rfl (by decide)) ?_))))
 rintro v L' ⟨b5, rfl, rfl⟩
 refine .slMake (b := b5) (n := 3) (c := 3) (xs := [(b3, 4), (b3, 5), (b4, 0)].map addrV) (by repeat' constructor) (by decide) (by simp) rfl (.ptCast (b := b3) (l' := partC (numR st).1 (txtR (numR st).2).1 (txtR (txtR (numR st).2).2).1 (.slice aa (rowsR acR (txtR (txtR (numR st).2).2).2).1.length ca) 0 0) (by repeat' constructor) (by exact rfl) (.fold (p := partB b3 b4 (numR st).1 (txtR (numR st).2).1 (txtR (txtR (numR st).2).2).1 (.slice aa (rowsR acR (txtR (txtR (numR st).2).2).2).1.length ca) (numR (manyR numR 0 (rowsR acR (txtR (txtR (numR st).2).2).2).2).2).1 (numR (manyR numR 1 (rowsR acR (txtR (txtR (numR st).2).2).2).2).2).1 (numR (manyR numR 2 (rowsR acR (txtR (txtR (numR st).2).2).2).2).2).1 0) (q := [ptc b3 (partC (numR st).1 (txtR (numR st).2).1 (txtR (txtR (numR st).2).2).1 (.slice aa (rowsR acR (txtR (txtR (numR st).2).2).2).1.length ca) 0 0) 36, ptc b4 [vint 0] 3]) (by repeat' constructor) (fun _ hp => hp) ?_))
 refine .oq (.c Tryz.func156 [_, _] (winto_spec r (rowsR acR (txtR (txtR (numR st).2).2).2).2 _ [(b3, 4), (b3, 5), (b4, 0)] (slR 195 1 (.slice (some ⟨b5, 0, none⟩) 3 3) 3 ([(b3, 4), (b3, 5), (b4, 0)].map addrV)) (fun h hp => slR_rd hp) (partB b3 b4 (numR st).1 (txtR (numR st).2).1 (txtR (txtR (numR st).2).2).1 (.slice aa (rowsR acR (txtR (txtR (numR st).2).2).2).1.length ca) (numR (manyR numR 0 (rowsR acR (txtR (txtR (numR st).2).2).2).2).2).1 (numR (manyR numR 1 (rowsR acR (txtR (txtR (numR st).2).2).2).2).2).1 (numR (manyR numR 2 (rowsR acR (txtR (txtR (numR st).2).2).2).2).2).1) ?hB40 (by simp))) ?_
 case hB40 => exact into_part b3 b4 _ _ _ _ _
 rintro v L' ⟨rfl, rfl⟩
 refine .nil (.focus (p := partB b3 b4 (numR st).1 (txtR (numR st).2).1 (txtR (txtR (numR st).2).2).1 (.slice aa (rowsR acR (txtR (txtR (numR st).2).2).2).1.length ca) (numR (manyR numR 0 (rowsR acR (txtR (txtR (numR st).2).2).2).2).2).1 (numR (manyR numR 1 (rowsR acR (txtR (txtR (numR st).2).2).2).2).2).1 (numR (manyR numR 2 (rowsR acR (txtR (txtR (numR st).2).2).2).2).2).1 3) (by repeat' constructor) (.unfold (q := [ptc b3 (partC (numR st).1 (txtR (numR st).2).1 (txtR (txtR (numR st).2).2).1 (.slice aa (rowsR acR (txtR (txtR (numR st).2).2).2).1.length ca) (numR (manyR numR 0 (rowsR acR (txtR (txtR (numR st).2).2).2).2).2).1 (numR (manyR numR 1 (rowsR acR (txtR (txtR (numR st).2).2).2).2).2).1) 36, ptc b4 [vint (numR (manyR numR 2 (rowsR acR (txtR (txtR (numR st).2).2).2).2).2).1] 3]) (fun _ hp => hp) ?_))
 simp only [List.cons_append, List.nil_append]
 refine .then_n (.sr (.u (.ld rfl ag_3) (.u (.fieldAddr rfl fo_36_6) (.oq (.store rfl rfl rfl sz_25 ?c45 (nfz0 _ _)) ?_))))
 case c45 => simp [partC]
 rintro v L' rfl
 refine .nil (.ptCast (b := b3) (l' := ptC ((ptR st).1.wa (.slice aa (rowsR acR (txtR (txtR (numR st).2).2).2).1.length ca))) (by repeat' constructor) (by exact rfl) (.then_n (.sr (.q (.loadAs (vs := ptC ((ptR st).1.wa (.slice aa (rowsR acR (txtR (txtR (numR st).2).2).2).1.length ca))) rfl ag_36 (by repeat' constructor) (by simp [ptC]) rfl) rfl (.oq (.storeA rfl rfl ?c49 sz_36 ?c52 ?c50 (nfz0 _ _)) ?_)))))
 case c49 => exact pt_cells rfl rfl
 case c52 => rfl
 case c50 => simp [ptC]
 rintro v L' rfl
 refine .nt (.ret (.ptCast (b := b2) (l' := ptC ((ptR st).1.wa (.slice aa (rowsR acR (txtR (txtR (numR st).2).2).2).1.length ca))) (by repeat' constructor) (by exact rfl) ?_))
 exact .d1 rfl (.cellA rfl ag_36 (by repeat' constructor) (by simp [ptC]) rfl) ⟨_, _, rfl, rfl⟩
structure EnK (e : En) : Prop where
 x : isCell e.x.aclV = true ∧ isCell e.x.subsV = true
 subs : ∀ y ∈ e.subs, isCell y.aclV = true ∧ y.subsV = nilV
theorem EnK.cells {e : En} (h : EnK e) : ∀ v ∈ enC e, isCell v = true := by
 intro v hv
 unfold enC at hv
 rcases List.mem_append.1 hv with hv | hv
 ·simp at hv; rcases hv with rfl | rfl | rfl <;> rfl
 ·exact pt_cells h.x.1 h.x.2 v hv
def pt0 : Pt := ⟨0, [], [], nilV, [], 0, 0, 0, nilV⟩
def en0 : En := ⟨0, 0, 0, pt0, []⟩
theorem entR_0 : ∀ h, entR en0 h := fun h => ⟨fun _ => none, h, fun _ => .inl rfl, fun _ _ e => (by cases e), fun _ _ e => e, slR_nil _ _ _, fun _ => none, h, fun _ => .inl rfl, fun _ _ e => (by cases e), fun _ _ e => e, slR_nil _ _ _, fun _ => none, h, fun _ => .inl rfl, fun _ _ e => (by cases e), fun _ _ e => e, trivial, trivial⟩
def GotZ (s : Bs) (e : En) (er : Int) : Prop := (er = 0 ∧ getZ s = some e.pl ∧ EnK e) ∨ (er = 120 ∧ getZ s = none ∧ e = en0)
theorem wrpart_spec (r : Nat) (st : Rs) : Fn Tryz.prog 158 #[vptr r, .func (.func 157) #[] #[]] [rdR r st] fun v L => ∃ a c, ∃ ys : List Pt, ys.map Pt.pl = (rowsR ptR st).1 ∧ (∀ y ∈ ys, isCell y.aclV = true ∧ y.subsV = nilV) ∧ v = .slice a ys.length c ∧ L = [rdR r (rowsR ptR st).2, slR 36 8 v ys.length (ys.flatMap ptC), bigR aclR ys] := by
 refine Fn.intro Tryz.func158 rfl rfl fun F W => ?_
 obtain ⟨m, hm⟩ : ∃ m, m = (cntR st).1 := ⟨_, rfl⟩
 obtain ⟨st1, hst1⟩ : ∃ s, s = (cntR st).2 := ⟨_, rfl⟩
 have hm2 := cntR_le st
 have hrow : rowsR ptR st = manyR ptR m st1 := by rw [hm, hst1]; rfl
 rw [hrow]
 refine .sr (.an rfl (.seq (.add (slR_nil 36 8) (.add (p := bigR aclR []) (fun h => big_nil h) (.region (.an rfl (.seq (.sm rfl (.oq (.c Tryz.func119 [_, _] (rcount_spec r 256 (by decide) st)) ?_)))))))))
 rintro v L' ⟨rfl, rfl⟩; rw [show (runP 0 (cntP 256) st).1 = m from hm.symm, show (runP 0 (cntP 256) st).2 = st1 from hst1.symm]
 refine .m rfl (.nt (.block (.loopK (ι := Nat × Value × (List Pt)) (fun q E => (8, vint q.1) :: (5, q.2.1) :: E) (fun q => [rdR r (manyR ptR q.1 st1).2, slR 36 8 q.2.1 q.1 (q.2.2.flatMap ptC), bigR aclR q.2.2]) (fun q => q.1 ≤ m ∧ (∃ a c, q.2.1 = .slice a q.1 c) ∧ q.2.2.map Pt.pl = (manyR ptR q.1 st1).1 ∧ ∀ y ∈ q.2.2, isCell y.aclV = true ∧ y.subsV = nilV) (fun q => m - q.1) (0, .slice none 0 0, []) (ts := [0, 1, 4, 7]) (.cons rfl (.cons rfl (.cons rfl (.cons rfl (.nil))))) (⟨Nat.zero_le _, ⟨none, 0, rfl⟩, rfl, fun y hy => by cases hy⟩) ⟨rfl, rfl, rfl, rfl, rfl, rfl, trivial⟩ (by repeat' constructor) ?_)))
 rintro ⟨j, u, ys⟩ ⟨hj, ⟨au, cu, hu⟩, hys, hyc⟩
 dsimp only
 dsimp only at hj hu hys hyc
 subst hu
 refine .sr (.ui rfl rfl rfl (.nt (.seq (.condD rfl (fun h9 => ?_) (fun h9 => ?_)))))
 ·have hj2 : j < m := by omega
  refine .sk (.seq (.block (.region (.m rfl (.m rfl (.m rfl (.oq (.callV Tryz.func157 rfl rfl (us := []) (vs := [_]) (ws := []) rfl rfl (wtpart_spec r _)) ?_)))))))
  rintro v L' ⟨ab, cb, rfl, rfl⟩; obtain ⟨y, hy⟩ : ∃ y : Pt, y = ((ptR (manyR ptR j st1).2).1.wa (.slice ab (ptR (manyR ptR j st1).2).1.acl.length cb)) := ⟨_, rfl⟩; rw [← hy]; have hyk : isCell y.aclV = true ∧ y.subsV = nilV := by (rw [hy]; exact ⟨rfl, rfl⟩)
  refine .oq (.buildSlice (vs := [_]) el_34 ze_36 rfl rfl rfl rfl (by first | (simp [Value.cells]; done) | (intro v hv; simp only [List.mem_cons, List.not_mem_nil, or_false] at hv; (repeat (first | (subst hv; rfl) | (rcases hv with hv | hv; (subst hv; rfl)))))) (by decide)) ?_
  rintro v L' ⟨b4, rfl, rfl⟩
  refine .oq (.append1 rfl rfl rfl el_34 ze_36 rfl rfl ?c15 ?c16 (Nat.le_refl _) ?c17 (by decide)) ?_
  case c15 => simp only [List.map_cons, List.map_nil, List.flatten_cons, List.flatten_nil, List.append_nil]; simp only [Value.cells]; intro z hz; exact pt_cells (y := y) hyk.1 (by rw [hyk.2]; rfl) z (by simpa using hz)
  case c16 => rfl
  case c17 => omega
  rintro v L' ⟨⟨a5, c5, rfl⟩, rfl⟩
  refine .a rfl (.nil (.blk_n (.then_n (.region (.q (.add rfl rfl (by omega)) rfl (.m rfl (.nt (.bigAdd (f := aclR) (l := ys) (p := aclR y) y rfl (by repeat' constructor) (.slCast (T := 36) (sz := 8) (m' := j + 1) (xs' := (ys ++ [y]).flatMap ptC) (by repeat' constructor) (by exact rfl) (by rw [List.flatMap_append]; simp [Value.cells]) ?_)))))))))
  exact .rk ((j + 1, .slice a5 (j + 1) c5, ys ++ [y])) (⟨by dsimp only; omega, ⟨_, _, rfl⟩, by show (ys ++ [y]).map Pt.pl = (manyR ptR j st1).1 ++ [_]; rw [List.map_append, hys, hy]; rfl, fun z hz => by rcases List.mem_append.1 hz with hz | hz; exact hyc z hz; rw [List.mem_singleton] at hz; subst hz; rw [hy]; exact ⟨rfl, rfl⟩⟩) (by dsimp only; omega) ⟨rfl, rfl, rfl, rfl, rfl, rfl, trivial⟩
 have hjj : j = m := by omega
 subst hjj
 have hyl : ys.length = j := by have h := congrArg List.length hys; rw [List.length_map, many_len] at h; exact h
 refine .slCast (T := 36) (sz := 8) (m' := ys.length) (xs' := ys.flatMap ptC) (by repeat' constructor) (by rw [hyl]) rfl (.exit (.then_e (.then_e (.blk_e (.then_n (.sm rfl (.an rfl (.ret ?_))))))))
 exact .dn rfl rfl ⟨au, cu, ys, hys, hyc, by rw [hyl], rfl⟩
theorem wtent_spec (r : Nat) (st : Rs) : Fn Tryz.prog 111 #[vptr r] [rdR r st] fun v L => ∃ e : En, e.pl = (enR st).1 ∧ EnK e ∧ v = .agg (enC e).toArray ∧ L = [rdR r (enR st).2, entR e] := by
 refine Fn.intro Tryz.func111 rfl rfl fun F W => ?_
 refine .sr (.oq (.allocA ze_38) ?_)
 rintro v L' ⟨b2, rfl, rfl⟩
 refine .nt (.sr (.oq (.allocA ze_38) ?_))
 rintro v L' ⟨b3, rfl, rfl⟩
 refine .nil (.ptCast (b := b3) (l' := entC 0 0 0) (by repeat' constructor) rfl (.fold (p := entB b3 (numR (manyR numR 0 st).2).1 (numR (manyR numR 1 st).2).1 (numR (manyR numR 2 st).2).1 0) (q := [ptc b3 (entC 0 0 0) 38]) (by repeat' constructor) (fun _ hp => (sep_one hp)) (.then_n (.sm rfl (.u (.fieldAddr rfl fo_38_0) (.u (.fieldAddr rfl fo_38_1) (.u (.fieldAddr rfl fo_38_2) (.oq (.buildSlice1 (vs := [_, _, _]) el_218 ze_195 rfl rfl rfl rfl rfl (by decide)) ?_))))))))
 rintro v L' ⟨b5, rfl, rfl⟩
 refine .slMake (b := b5) (n := 3) (c := 3) (xs := [(b3, 0), (b3, 1), (b3, 2)].map addrV) (by repeat' constructor) (by decide) (by simp) rfl (.oq (.c Tryz.func156 [_, _] (winto_spec r st _ [(b3, 0), (b3, 1), (b3, 2)] (slR 195 1 (.slice (some ⟨b5, 0, none⟩) 3 3) 3 ([(b3, 0), (b3, 1), (b3, 2)].map addrV)) (fun h hp => slR_rd hp) (entB b3 (numR (manyR numR 0 st).2).1 (numR (manyR numR 1 st).2).1 (numR (manyR numR 2 st).2).1) ?hB11 (by simp))) ?_)
 case hB11 => exact into_ent b3 st
 rintro v L' ⟨rfl, rfl⟩
 refine .nil (.focus (p := entB b3 (numR (manyR numR 0 st).2).1 (numR (manyR numR 1 st).2).1 (numR (manyR numR 2 st).2).1 3) (by repeat' constructor) (.unfold (q := [ptc b3 (entC (numR (manyR numR 0 st).2).1 (numR (manyR numR 1 st).2).1 (numR (manyR numR 2 st).2).1) 38]) (fun _ hp => one_sep hp) ?_))
 simp only [List.cons_append, List.nil_append]
 refine .then_n (.sm rfl (.oq (.c Tryz.func157 [_] (wtpart_spec r (manyR numR 3 st).2)) ?_))
 rintro v L' ⟨ab, cb, rfl, rfl⟩; obtain ⟨y, hy⟩ : ∃ y : Pt, y = ((ptR (manyR numR 3 st).2).1.wa (.slice ab (ptR (manyR numR 3 st).2).1.acl.length cb)) := ⟨_, rfl⟩; rw [← hy]; have hyk : isCell y.aclV = true ∧ y.subsV = nilV := by (rw [hy]; exact ⟨rfl, rfl⟩)
 refine .u (.fieldAddr rfl fo_38_3) (.oq (.storeA rfl rfl ?c18 sz_36 ?c21 ?c19 (nfz0 _ _)) ?_)
 case c18 => exact pt_cells (y := y) hyk.1 (by rw [hyk.2]; rfl)
 case c21 => rfl
 case c19 => simp [entC, ptC]
 rintro v L' rfl
 refine .nil (.ptCast (b := b3) (l' := [vint (numR (manyR numR 0 st).2).1, vint (numR (manyR numR 1 st).2).1, vint (numR (manyR numR 2 st).2).1] ++ ptC y) (by repeat' constructor) (by exact rfl) (.then_n (.sm rfl (.oq (.c Tryz.func158 [_, _] (wrpart_spec r _)) ?_))))
 rintro v L' ⟨sa, sc, ys, hys, hyc, rfl, rfl⟩
 refine .u (.fieldAddr rfl fo_38_3) (.u (.fieldAddr rfl fo_36_7) (.oq (.store rfl rfl rfl sz_34 ?c28 (nfz0 _ _)) ?_))
 case c28 => simp [ptC]
 rintro v L' rfl
 refine .nil ?_
 obtain ⟨e, he⟩ : ∃ e : En, e = (⟨(numR (manyR numR 0 st).2).1, (numR (manyR numR 1 st).2).1, (numR (manyR numR 2 st).2).1, y.ws (.slice sa ys.length sc), ys⟩ : En) := ⟨_, rfl⟩
 have hek : EnK e := by rw [he]; exact ⟨⟨hyk.1, rfl⟩, hyc⟩
 refine .ptCast (b := b3) (l' := enC e) (by repeat' constructor) (by rw [he]; rfl) (.fold (p := entR e) (q := [aclR y, slR 36 8 (.slice sa ys.length sc) ys.length (ys.flatMap ptC), bigR aclR ys]) (by repeat' constructor) (fun _ hp => by rw [he]; exact hp) (.then_n (.sr (.q (.loadAs (vs := enC e) rfl ag_38 (by repeat' constructor) (by simp [enC, ptC]) rfl) rfl (.oq (.storeA rfl rfl ?c32 sz_38 ?c35 ?c33 (nfz0 _ _)) ?_)))))
 case c32 => exact hek.cells
 case c35 => rfl
 case c33 => simp [enC, ptC]
 rintro v L' rfl
 refine .nt (.ret (.ptCast (b := b2) (l' := enC e) (by repeat' constructor) (by exact rfl) ?_))
 exact .d1 rfl (.cellA rfl ag_38 (by repeat' constructor) (by simp [enC, ptC]) rfl) ⟨e, by rw [he]; unfold En.pl; dsimp only; rw [hys, hy]; rfl, hek, rfl, rfl⟩
theorem get_bad {s : Bs} (h : ¬ (enR (some s)).2 = some []) : getZ s = none := by
 unfold getZ getR
 split
 ·rename_i q hq; rw [hq] at h; exact absurd rfl h
 ·rfl
theorem get_ok {s : Bs} (h : (enR (some s)).2 = some []) : getZ s = some (enR (some s)).1 := by
 unfold getZ getR
 split
 ·rename_i q hq; rw [hq]
 ·rename_i h2; exact absurd (show enR (some s) = ((enR (some s)).1, some []) by rw [← h]) (h2 _)
theorem wgetG_spec (s : Bs) (hs : s.length ≤ 2147483648) : Fn Tryz.prog 110 #[vstr s, .func (.func 111) #[] #[]] [] fun v L => ∃ e er, GotZ s e er ∧ v = .tuple #[.agg (enC e).toArray, vint er] ∧ L = [entR e] := by
 refine Fn.intro Tryz.func110 rfl rfl fun F W => ?_
 refine .sr (.oq (.allocA ze_38) ?_)
 rintro v L' ⟨b4, rfl, rfl⟩
 refine .an rfl (.sm rfl (.oq (.c Tryz.func117 [_] (cread_spec s hs)) ?_))
 rintro v L' ⟨r, rfl, rfl⟩
 refine .an rfl (.sm rfl (.m rfl (.oq (.callV Tryz.func111 rfl rfl (us := []) (vs := [_]) (ws := []) rfl rfl (wtent_spec r (some s))) ?_)))
 rintro v L' ⟨e, hpl, hek, rfl, rfl⟩
 refine .oq (.allocA ze_38) ?_
 rintro v L' ⟨b7, rfl, rfl⟩
 refine .oq (.storeA rfl rfl ?c12 sz_38 ?c15 ?c13 (nfz0 _ _)) ?_
 case c12 => exact hek.cells
 case c15 => rfl
 case c13 => simp [enC, ptC]
 rintro v L' rfl
 refine .nil (.ptCast (b := b7) (l' := enC e) (by repeat' constructor) (by exact rfl) (.then_n (.seq (.sm rfl (.oq (.c Tryz.func120 [_] (rend_spec r _)) ?_)))))
 rintro v L' ⟨e1, he1, rfl, st', rfl⟩
 refine .ui rfl rfl rfl (.nt (.condN rfl (fun h16 => ?_) (fun h16 => ?_)))
 ·refine .sr (.oq (.allocA ze_38) ?_)
  rintro v L' ⟨b8, rfl, rfl⟩
  refine .nil (.ptCast (b := b8) (l' := enC en0) (by repeat' constructor) (by exact rfl) (.add entR_0 (.then_n (.sr (.q (.loadAs (vs := enC en0) rfl ag_38 (by repeat' constructor) (by simp [enC, ptC]) rfl) rfl (.oq (.storeA rfl rfl ?c23 sz_38 ?c26 ?c24 (nfz0 _ _)) ?_))))))
  case c23 => decide
  case c26 => rfl
  case c24 => simp [enC, ptC]
  rintro v L' rfl
  refine .a rfl (.nil (.ptCast (b := b4) (l' := enC en0) (by repeat' constructor) (by exact rfl) (.then_n (.rt ?_))))
  exact .d2 rfl (.cellA rfl ag_38 (by repeat' constructor) (by simp [enC, ptC]) rfl) (.tmp rfl) ⟨en0, 120, .inr ⟨rfl, get_bad (fun g => h16 (he1.2 g)), rfl⟩, rfl, rfl⟩
 refine .sk (.sr (.q (.loadAs (vs := enC e) rfl ag_38 (by repeat' constructor) (by simp [enC, ptC]) rfl) rfl (.oq (.storeA rfl rfl ?c30 sz_38 ?c33 ?c31 (nfz0 _ _)) ?_)))
 case c30 => exact hek.cells
 case c33 => rfl
 case c31 => simp [enC, ptC]
 rintro v L' rfl
 refine .a rfl (.nil (.ptCast (b := b4) (l' := enC e) (by repeat' constructor) (by exact rfl) (.then_n (.ret ?_))))
 exact .d2 rfl (.cellA rfl ag_38 (by repeat' constructor) (by simp [enC, ptC]) rfl) (.tmp rfl) ⟨e, 0, .inl ⟨rfl, by rw [hpl]; exact get_ok (he1.1 h16), hek⟩, rfl, rfl⟩
theorem GotZ.cells {s : Bs} {e : En} {er : Int} (h : GotZ s e er) : ∀ v ∈ enC e, isCell v = true := by
 rcases h with ⟨-, -, h⟩ | ⟨-, -, rfl⟩
 ·exact h.cells
 ·decide
theorem wget_spec (s : Bs) (hs : s.length ≤ 2147483648) : Fn Tryz.prog 53 #[vstr s] [] fun v L => ∃ e er, GotZ s e er ∧ v = .tuple #[.agg (enC e).toArray, vint er] ∧ L = [entR e] := by
 refine Fn.intro Tryz.func53 rfl rfl fun F W => ?_
 refine .sr (.oq (.allocA ze_38) ?_)
 rintro v L' ⟨b2, rfl, rfl⟩
 refine .an rfl (.sm rfl (.oq (.c Tryz.func110 [_, _] (wgetG_spec s hs)) ?_))
 rintro v L' ⟨e, er, hg, rfl, rfl⟩
 refine .u (.extract rfl rfl) (.u (.extract rfl rfl) (.oq (.storeA rfl rfl ?c9 sz_38 ?c12 ?c10 (nfz0 _ _)) ?_))
 case c9 => exact hg.cells
 case c12 => rfl
 case c10 => simp [enC, ptC]
 rintro v L' rfl
 refine .a rfl (.nil (.ptCast (b := b2) (l' := enC e) (by repeat' constructor) (by exact rfl) (.then_n (.ret ?_))))
 exact .d2 rfl (.cellA rfl ag_38 (by repeat' constructor) (by simp [enC, ptC]) rfl) (.tmp rfl) ⟨e, er, hg, rfl, rfl⟩
structure Lg where
 acc : Int
 cur : Int
 base : Int
 snap : Bs
 ents : List Bs
 zxs : List Int
 doubt : Bool
def lg0 : Lg := ⟨0, 0, 0, [], [], [], false⟩
def lgR (g x : Nat) (Λ : Lg) : HP := fun h => ∃ y : (Option Addr × Nat) × (Option Addr × Nat), True ∧ sep [ptc g [vint Λ.acc, vint Λ.cur, vptr x, vint Λ.base, vstr Λ.snap, .slice y.1.1 Λ.ents.length y.1.2, .slice y.2.1 Λ.zxs.length y.2.2, .bool Λ.doubt] 79,
 strR (.slice y.1.1 Λ.ents.length y.1.2) Λ.ents, intR (.slice y.2.1 Λ.zxs.length y.2.2) Λ.zxs] h
section
variable {W : World} {n : Nat} {ds : List Deferred} {E : Env} {L R : List HP} {X : Act → World → Prop}
theorem G.lgOpen {g x : Nat} {Λ : Lg} (hL : Pick (lgR g x Λ) L R) (h : ∀ ea ec za zc, G W n ds E (ptc g [vint Λ.acc, vint Λ.cur, vptr x, vint Λ.base, vstr Λ.snap, .slice ea Λ.ents.length ec, .slice za Λ.zxs.length zc, .bool Λ.doubt] 79 :: strR (.slice ea Λ.ents.length ec) Λ.ents :: intR (.slice za Λ.zxs.length zc) Λ.zxs :: R) X) : G W n ds E L X :=
 G.focus hL (G.open (q := fun y : (Option Addr × Nat) × (Option Addr × Nat) => [ptc g [vint Λ.acc, vint Λ.cur, vptr x, vint Λ.base, vstr Λ.snap, .slice y.1.1 Λ.ents.length y.1.2, .slice y.2.1 Λ.zxs.length y.2.2, .bool Λ.doubt] 79, strR (.slice y.1.1 Λ.ents.length y.1.2) Λ.ents, intR (.slice y.2.1 Λ.zxs.length y.2.2) Λ.zxs]) (φ := fun _ => True) (fun _ hp => hp) fun y _ => h y.1.1 y.1.2 y.2.1 y.2.2)
theorem G.lgFold {g x : Nat} (Λ : Lg) {l es zs : List Value} {ea za : Option Addr} {ec zc m k : Nat} (hL : Picks [ptc g l 79, slR 9 1 (.slice ea m ec) m es, slR 3 1 (.slice za k zc) k zs] L R)
  (hl : l = [vint Λ.acc, vint Λ.cur, vptr x, vint Λ.base, vstr Λ.snap, .slice ea m ec, .slice za k zc, .bool Λ.doubt]) (hm : m = Λ.ents.length) (hk : k = Λ.zxs.length) (he : es = strs Λ.ents) (hz : zs = ints Λ.zxs) (h : G W n ds E (lgR g x Λ :: R) X) : G W n ds E L X := by
 subst hl; subst hm; subst hk; subst he; subst hz
 exact G.fold hL (fun _ hp => ⟨((ea, ec), (za, zc)), trivial, hp⟩) h
theorem G.lf {g x : Nat} (Λ : Lg) {l es zs : List Value} {ea za : Option Addr} {ec zc m k : Nat} (h : G W n ds E (lgR g x Λ :: R) X) (hL : Picks [ptc g l 79, slR 9 1 (.slice ea m ec) m es, slR 3 1 (.slice za k zc) k zs] L R := by repeat' constructor) (hl : l = [vint Λ.acc, vint Λ.cur, vptr x, vint Λ.base, vstr Λ.snap, .slice ea m ec, .slice za k zc, .bool Λ.doubt] := by exact rfl) (hm : m = Λ.ents.length := by first | rfl | simp [Lg.keep]) (hk : k = Λ.zxs.length := by first | rfl | simp [Lg.keep]) (he : es = strs Λ.ents := by first | rfl | simp [Lg.keep]) (hz : zs = ints Λ.zxs := by first | rfl | simp [Lg.keep]) : G W n ds E L X := G.lgFold Λ hL hl hm hk he hz h
end
def lastZ (Λ : Lg) : Int := Λ.zxs.getLast?.getD Λ.base
def Lg.met (Λ : Lg) (e : Int) : Lg := if e = 2 then ⟨Λ.acc, Λ.cur, Λ.base, Λ.snap, Λ.ents, Λ.zxs, true⟩ else Λ
def metE (e : Int) : Int := if e = 30 ∨ e = 33 then 83 else e
def Lg.keep (Λ : Lg) (s : Bs) (z : Int) : Lg := ⟨Λ.acc, Λ.cur, Λ.base, Λ.snap, Λ.ents ++ [s], Λ.zxs ++ [z], Λ.doubt⟩
def chunkF : Nat → Bs → List Bs
 | 0, _ => []
 | f + 1, s => if s = [] then [] else s.take 4000 :: chunkF f (s.drop 4000)
def chunkL (s : Bs) : List Bs := chunkF s.length s
def headB (base : Int) (n : Nat) : Bs := numB base ++ cntB n
def headL (base : Int) (snap : Bs) : List Bs := headB base snap.length :: chunkL snap
theorem chunkF_more : ∀ (f g : Nat) (s : Bs), s.length ≤ f → s.length ≤ g → chunkF f s = chunkF g s
 | 0, 0, _, _, _ => rfl
 | 0, g + 1, s, h, _ => by
  have : s = [] := List.eq_nil_of_length_eq_zero (by omega)
  subst this; rfl
 | f + 1, 0, s, _, h => by
  have : s = [] := List.eq_nil_of_length_eq_zero (by omega)
  subst this; rfl
 | f + 1, g + 1, s, hf, hg => by
  unfold chunkF
  split
  ·rfl
  ·rename_i h
   have : 0 < s.length := List.length_pos_iff.2 h
   rw [chunkF_more f g (s.drop 4000) (by rw [List.length_drop]; omega) (by rw [List.length_drop]; omega)]
theorem chunk_cons {s : Bs} (h : s ≠ []) : chunkL s = s.take 4000 :: chunkL (s.drop 4000) := by
 have hl : 0 < s.length := List.length_pos_iff.2 h
 unfold chunkL
 rw [chunkF_more s.length (s.length - 1 + 1) s (by omega) (by omega)]
 show (if s = [] then [] else s.take 4000 :: chunkF (s.length - 1) (s.drop 4000)) = _
 rw [if_neg h, chunkF_more (s.length - 1) (s.drop 4000).length (s.drop 4000) (by rw [List.length_drop]; omega) (Nat.le_refl _)]
theorem chunk_nil' : chunkL [] = [] := rfl
def slen : Value → Nat
 | .slice _ n _ => n
 | _ => 0
def noSubs (e : En) : Bool := e.subs.all fun y => decide (slen y.subsV = 0)
def fitsE (e : En) : Bool := noSubs e && (getZ (enB e)).isSome
structure Ld where
 δ : Dk
 ω : Wl
 Λ : Lg
def metL (Λ : Lg) (r : Dk × Wl × Int) : Ld × Int := (⟨r.1, r.2.1, Λ.met r.2.2⟩, metE r.2.2)
def lgAppend (s : Ld) (e : En) : Ld × Int :=
 if s.Λ.doubt = true then (s, 2) else if fitsE e = false then (s, 1) else if e.zx ≤ lastZ s.Λ then (s, 81) else if s.Λ.ents.length = 200 ∨ ((enB e).length : Int) > roomZ s.δ s.ω then (s, 83)
 else if (metL s.Λ (appendZ s.δ s.ω (enB e))).2 = 0 then (⟨(appendZ s.δ s.ω (enB e)).1, (appendZ s.δ s.ω (enB e)).2.1, (metL s.Λ (appendZ s.δ s.ω (enB e))).1.Λ.keep (enB e) e.zx⟩, 0) else metL s.Λ (appendZ s.δ s.ω (enB e))
def lgSync (s : Ld) : Ld × Int := if s.Λ.doubt = true then (s, 2) else metL s.Λ (syncZ s.δ s.ω)
def Lg.setAcc (Λ : Lg) (n : Int) : Lg := ⟨n, Λ.cur, Λ.base, Λ.snap, Λ.ents, Λ.zxs, Λ.doubt⟩
def Lg.setCur (Λ : Lg) (n : Int) : Lg := ⟨Λ.acc, n, Λ.base, Λ.snap, Λ.ents, Λ.zxs, Λ.doubt⟩
def lgAccept (s : Ld) (n : Int) : Ld × Int :=
 if s.Λ.doubt = true then (s, 2) else if n < s.Λ.acc ∨ n > 1073741824 then (s, 82) else if n = s.Λ.acc then (s, 0)
 else if (metL s.Λ (setmZ s.δ s.ω n s.Λ.cur)).2 = 0 then (⟨(setmZ s.δ s.ω n s.Λ.cur).1, (setmZ s.δ s.ω n s.Λ.cur).2.1, (metL s.Λ (setmZ s.δ s.ω n s.Λ.cur)).1.Λ.setAcc n⟩, 0) else metL s.Λ (setmZ s.δ s.ω n s.Λ.cur)
def lgAdopt2 (s : Ld) (n : Int) : Ld × Int :=
 if (metL s.Λ (setmZ s.δ s.ω s.Λ.acc n)).2 = 0 then (⟨(setmZ s.δ s.ω s.Λ.acc n).1, (setmZ s.δ s.ω s.Λ.acc n).2.1, (metL s.Λ (setmZ s.δ s.ω s.Λ.acc n)).1.Λ.setCur n⟩, 0) else metL s.Λ (setmZ s.δ s.ω s.Λ.acc n)
def lgAdopt (s : Ld) (n : Int) : Ld × Int :=
 if s.Λ.doubt = true then (s, 2) else if n < s.Λ.cur ∨ n > s.Λ.acc then (s, 82) else if (lgSync s).2 ≠ 0 then lgSync s else lgAdopt2 (lgSync s).1 n
def markStep (out : List Int) (z : Int) : List Int :=
 if z = 0 then out else if out ≠ [] ∧ (out.getLastD 0) / 4294967296 = z / 4294967296 then out.dropLast ++ [z] else out ++ [z]
def marksZ (Λ : Lg) : List Int := (Λ.base :: Λ.zxs).foldl markStep []
structure LgI (Λ : Lg) : Prop where
 ents : Λ.ents.length ≤ 200
 same : Λ.zxs.length = Λ.ents.length
 each : ∀ s ∈ Λ.ents, s.length ≤ 1073741824
 base : I64 Λ.base
 zxs : ∀ z ∈ Λ.zxs, I64 z
theorem take_min (t : Bs) (k : Nat) : t.take (min k t.length) = t.take k := by
 rcases Nat.le_total k t.length with h | h
 ·rw [Nat.min_eq_left h]
 ·rw [Nat.min_eq_right h, List.take_of_length_le (Nat.le_refl _), List.take_of_length_le h]
theorem drop_min (t : Bs) (k : Nat) : t.drop (min k t.length) = t.drop k := by
 rcases Nat.le_total k t.length with h | h
 ·rw [Nat.min_eq_left h]
 ·rw [Nat.min_eq_right h, List.drop_eq_nil_of_le (Nat.le_refl _), List.drop_eq_nil_of_le h]
theorem OpSpec.shaped1 {P : Program} {E : Env} {o : Oper} {pre R : List HP} {e : TypeId} {sz k : Nat} {ys : List Value} (hk : 0 < k) (h : OpSpec P o E pre fun v L' => (∃ a c, v = .slice a k c) ∧ L' = slR e sz v k ys :: R) :
  OpSpec P o E pre fun v L' => ∃ b c, v = .slice (some ⟨b, 0, none⟩) k c ∧ L' = slR e sz v k ys :: R := by
 intro ρ w F ha hs
 refine (h ρ w F ha hs).mono ?_
 rintro v w' ⟨L', ⟨-, rfl⟩, hs', hk'⟩
 obtain ⟨h1, -, hp⟩ := sep_head hs'
 rcases hp with ⟨-, h2, -⟩ | ⟨b, cap, rest, fr, hv, -⟩
 ·omega
 ·exact ⟨_, ⟨b, cap, hv, rfl⟩, hs', hk'⟩
theorem lkeep_spec (g x : Nat) (Λ : Lg) (s : Bs) (z : Int) (hl : LgI Λ) : Fn Tryz.prog 51 #[vptr g, vstr s, vint z] [lgR g x Λ] fun v L => v = .tuple #[] ∧ L = [lgR g x (Λ.keep s z)] := by
 refine Fn.intro Tryz.func51 rfl rfl fun F W => ?_
 refine .lgOpen (by repeat' constructor) fun ea ec za zc => ?_
 have h1 := hl.ents
 have h2 := hl.same
 refine .sm rfl (.m rfl (.nf rfl fo_79_4 (.u (.ld rfl ag_46) (.m rfl (.oq (.buildSlice1 (vs := [_]) el_46 ze_9 rfl rfl rfl rfl rfl (by decide)) ?_)))))
 rintro v L' ⟨b0, rfl, rfl⟩
 refine .oq (.append1 rfl rfl rfl el_46 ze_9 rfl rfl ?c9 ?c10 (Nat.le_refl _) ?c11 (by decide)) ?_
 case c9 => (first | (simp [isCell]; done) | (simp [isCell, setAll, Value.cells]; done))
 case c10 => rfl
 case c11 => omega
 rintro v L' ⟨⟨a0, c0, rfl⟩, rfl⟩
 refine .nf rfl fo_79_4 (.st rfl rfl rfl sz_46 ?_)
 refine .nt (.region (.m rfl (.m rfl (.nf rfl fo_79_5 (.u (.ld rfl ag_31) (.m rfl (.oq (.buildSlice1 (vs := [_]) el_31 ze_3 rfl rfl rfl rfl rfl (by decide)) ?_)))))))
 rintro v L' ⟨b1, rfl, rfl⟩
 refine .oq (.append1 rfl rfl rfl el_31 ze_3 rfl rfl ?c27 ?c28 (Nat.le_refl _) ?c29 (by decide)) ?_
 case c27 => (first | (simp [isCell]; done) | (simp [isCell, setAll, Value.cells]; done))
 case c28 => rfl
 case c29 => omega
 rintro v L' ⟨⟨a1, c1, rfl⟩, rfl⟩
 refine .nf rfl fo_79_5 (.st rfl rfl rfl sz_31 ?_)
 refine .nil (.done_n (.lf (g := g) (x := x) (Λ.keep s z) ?_))
 exact .vv
theorem lmet_spec (g x : Nat) (Λ : Lg) (e : Int) : Fn Tryz.prog 50 #[vptr g, vint e] [lgR g x Λ] fun v L => v = vint (metE e) ∧ L = [lgR g x (Λ.met e)] := by
 refine Fn.intro Tryz.func50 rfl rfl fun F W => ?_
 refine .lgOpen (by repeat' constructor) fun ea ec za zc => (.sr (.an rfl (.seq (.sm rfl (.nt (.block (.sr (.ui rfl rfl rfl (.an rfl (.condD rfl (fun h6 => ?_) (fun h6 => ?_)))))))))))
 ·refine .region (.m rfl (.nf rfl fo_79_6 (.st rfl rfl rfl sz_4 ?_)))
  refine .nil (.blk_n (.then_n (.sm rfl (.an rfl (.ret ?_)))))
  have hm : Λ.met e = ⟨Λ.acc, Λ.cur, Λ.base, Λ.snap, Λ.ents, Λ.zxs, true⟩ := by unfold Lg.met; rw [if_pos h6]
  have he : metE e = e := by unfold metE; rw [if_neg (by omega)]
  rw [hm, he]
  refine .lf (g := g) (x := x) ⟨Λ.acc, Λ.cur, Λ.base, Λ.snap, Λ.ents, Λ.zxs, true⟩ ?_
  exact .vv
 refine .seq (.sr (.ui rfl rfl rfl (.an rfl (.dec (t := 11) rfl (fun h11 => ?_) (fun h11 => ?_)))))
 ·refine .condT rfl (.sk (.condT rfl (.sr (.an rfl (.ret (.blk_r (.then_r ?_)))))))
  have hm : Λ.met e = Λ := by unfold Lg.met; rw [if_neg h6]
  have he : metE e = 83 := by unfold metE; rw [if_pos (by omega)]
  rw [hm, he]
  refine .lf (g := g) (x := x) Λ ?_
  exact .vv
 refine .condF rfl (.region (.ui rfl rfl rfl (.an rfl (.dec (t := 11) rfl (fun h11 => ?_) (fun h11 => ?_)))))
 ·refine .condT rfl (.sr (.an rfl (.ret (.blk_r (.then_r ?_)))))
  have hm : Λ.met e = Λ := by unfold Lg.met; rw [if_neg h6]
  have he : metE e = 83 := by unfold metE; rw [if_pos (by omega)]
  rw [hm, he]
  refine .lf (g := g) (x := x) Λ ?_
  exact .vv
 refine .condF rfl (.skip (.blk_n (.then_n (.sm rfl (.an rfl (.ret ?_))))))
 have hm : Λ.met e = Λ := by unfold Lg.met; rw [if_neg h6]
 have he : metE e = e := by unfold metE; rw [if_neg (by omega)]
 rw [hm, he]
 refine .lf (g := g) (x := x) Λ ?_
 exact .vv
theorem last_nil {Λ : Lg} (h : Λ.zxs.length = 0) : lastZ Λ = Λ.base := by
 unfold lastZ; rw [List.eq_nil_of_length_eq_zero h]; rfl
theorem last_at {Λ : Lg} {i : Nat} (h : i + 1 = Λ.zxs.length) : lastZ Λ = Λ.zxs[i]'(by omega) := by
 unfold lastZ
 rw [List.getLast?_eq_getElem?, List.getElem?_eq_getElem (by omega)]
 simp only [Option.getD_some]
 congr 1; omega
theorem llast_spec (g x : Nat) (Λ : Lg) (hl : LgI Λ) : Fn Tryz.prog 17 #[vptr g] [lgR g x Λ] fun v L => v = vint (lastZ Λ) ∧ L = [lgR g x Λ] := by
 refine Fn.intro Tryz.func17 rfl rfl fun F W => ?_
 refine .lgOpen (by repeat' constructor) fun ea ec za zc => ?_
 have h1 := hl.ents
 have h2 := hl.same
 refine .sr (.an rfl (.seq (.sm rfl (.nf rfl fo_79_5 (.u (.ld rfl ag_31) (.q (.slen rfl Tryz.underlying31 rfl) rfl (.ui rfl rfl rfl (.nt (.condD rfl (fun h8 => ?_) (fun h8 => ?_))))))))))
 ·refine .sm rfl (.nf rfl fo_79_2 (.u (.ld rfl ag_3) (.an rfl (.rt ?_))))
  rw [last_nil (Λ := Λ) (by omega)]
  refine .lf (g := g) (x := x) Λ ?_
  exact .vv
 refine .sk (.seq ?_)
 obtain ⟨i, hi⟩ : ∃ i, i + 1 = Λ.zxs.length := ⟨Λ.zxs.length - 1, by omega⟩
 refine .slShape (v := .slice za _ zc) (xs := ints Λ.zxs) (by repeat' constructor) (by omega) fun bz cz e0 mbz _ => ?_
 simp only [Value.slice.injEq, true_and] at e0
 obtain ⟨rfl, rfl⟩ := e0
 refine .draw [] [[0, 1, 2, 3, 4, 5, 6, 7, 8, 9, 10, 11, 12]] mixed (by kernel_rfl) (.g0 (.mv rfl rfl (.nf rfl rfl rfl fo_79_5 (.kv rfl (.ld rfl ag_31) (.mv rfl rfl (.nf rfl rfl rfl fo_79_5 (.kv rfl (.ld rfl ag_31) (.kv rfl (.slen rfl Tryz.underlying31 rfl) (.kv rfl (.as (v' := vint (i : Nat)) (by congr 1; omega) (.sub rfl rfl (by omega))) (.kv rfl (.indexAddr rfl rfl el_31 (by omega)) (.kv rfl (.loadEl (p := intR (.slice (some ⟨bz, 0, none⟩) Λ.zxs.length zc) Λ.zxs) (i := i * 1) (v := vint (Λ.zxs[i]'(by omega))) rfl ag_3 (by repeat' constructor) (fun h hp => slR_rd hp) (by simp [List.getElem?_eq_getElem (show i < Λ.zxs.length by omega)])) ?_)))))))))))
 refine D.kv rfl (.assign rfl) (.pf (.ret ?_))
 rw [last_at hi]
 refine .lf (g := g) (x := x) Λ ?_
 exact .vv
theorem lahead_spec (base : Int) (snap : Bs) (hb : I64 base) (hs : snap.length ≤ 2147483648) : Fn Tryz.prog 46 #[vint base, vstr snap] [] fun v L => ∃ b c, v = .slice (some ⟨b, 0, none⟩) (headL base snap).length c ∧ L = [strR v (headL base snap)] := by
 refine Fn.intro Tryz.func46 rfl rfl fun F W => ?_
 have hz : (numB base).length ≤ 10 := sev_len10 (zig_lt hb)
 refine .sr (.an rfl (.sr (.oq (.c Tryz.func101 [] (cnew_spec)) ?_)))
 rintro v L' ⟨cw, rfl, rfl⟩
 refine .an rfl (.sm rfl (.m rfl (.oq (.c Tryz.func102 [_, _] (cnum_spec cw [] base hb (by simp))) ?_)))
 rintro v L' ⟨rfl, rfl⟩; rw [List.nil_append]
 refine .nt (.sm rfl (.m rfl (.q (.strlen rfl Tryz.underlying9 rfl) rfl (.cv Tryz.func103 [_, _] (ccount_spec cw (numB base) snap.length (by omega) (by omega)) ?_))))
 refine .nt (.sm rfl (.cv Tryz.func104 [_] (cbytes_spec cw (numB base ++ cntB snap.length)) ?_))
 refine .oq (.buildSlice1 (vs := [_]) el_46 ze_9 rfl rfl rfl rfl rfl (by decide)) ?_
 rintro v L' ⟨b4, rfl, rfl⟩
 refine .a rfl (.nil (.slMake (b := b4) (n := 1) (c := 1) (xs := strs [headB base snap.length]) (by repeat' constructor) (by decide) (by simp) rfl (.then_n (.seq (.block (.loopK (ι := Bs × Value × (List Bs)) (fun q E => (1, vstr q.1) :: (6, q.2.1) :: E) (fun q => [strR q.2.1 q.2.2]) (fun q => q.2.2 ++ chunkL q.1 = headL base snap ∧ q.2.2.length + q.1.length ≤ 1 + snap.length ∧ ∃ b c, q.2.1 = .slice (some ⟨b, 0, none⟩) q.2.2.length c) (fun q => q.1.length) (snap, .slice (some ⟨b4, 0, none⟩) 1 1, [headB base snap.length]) (ts := [4]) (.cons rfl (.nil)) (⟨rfl, by dsimp only [List.length_cons, List.length_nil]; omega, b4, 1, rfl⟩) ⟨rfl, rfl, rfl, trivial⟩ (by repeat' constructor) ?_))))))
 rintro ⟨t, u, l⟩ ⟨hl, hlt, bu, cu, hu⟩
 dsimp only
 dsimp only at hl hlt hu
 subst hu
 refine .seq (.sm rfl (.u (.strne rfl rfl) (.nt (.condN rfl (fun h20 => ?_) (fun h20 => ?_)))))
 ·have ht : 0 < t.length := List.length_pos_iff.2 (by simpa using h20)
  refine .sk (.block (.sm rfl (.q (.strlen rfl Tryz.underlying9 rfl) rfl (.q (.as (v' := vint ((min 4000 t.length : Nat) : Int)) (by congr 1; omega) (.min2 rfl rfl)) rfl (.an rfl (.sm rfl (.m rfl (.m rfl (.q (.to (v' := vstr (t.take 4000)) (.strTo rfl rfl Tryz.underlying9 (by omega)) (by simp only [Int.toNat_natCast, take_min])) rfl (.oq (.buildSlice1 (vs := [_]) el_46 ze_9 rfl rfl rfl rfl rfl (by decide)) ?_))))))))))
  rintro v L' ⟨b8, rfl, rfl⟩
  refine .oq (.shaped1 (k := l.length + 1) ?hk25 (.append1 rfl rfl rfl el_46 ze_9 rfl rfl ?h126 ?h227 (Nat.le_refl _) ?h328 (by decide))) ?_
  case hk25 => omega
  case h126 => (first | (simp [isCell]; done) | (simp [isCell, setAll, Value.cells]; done))
  case h227 => rfl
  case h328 => omega
  rintro v L' ⟨b7, c7, rfl, rfl⟩
  refine .an rfl (.region (.m rfl (.m rfl (.q (.to (v' := vstr (t.drop 4000)) (.strFrom rfl rfl Tryz.underlying9 (by omega)) (by simp only [Int.toNat_natCast, drop_min])) rfl (.a rfl (.nil (.blk_n (.then_n (.slCast (T := 9) (sz := 1) (m' := (l ++ [t.take 4000]).length) (xs' := strs (l ++ [t.take 4000])) (by repeat' constructor) (by simp) (by simp [strs, Value.cells]) ?_)))))))))
  exact .rk ((t.drop 4000, .slice (some ⟨b7, 0, none⟩) (l.length + 1) c7, l ++ [t.take 4000])) (⟨by dsimp only; rw [List.append_assoc, List.singleton_append, ← chunk_cons h20]; exact hl, by dsimp only; rw [List.length_append, List.length_drop, List.length_singleton]; omega, b7, c7, by simp⟩) (by dsimp only; rw [List.length_drop]; omega) ⟨rfl, rfl, rfl, trivial⟩
 have ht : t = [] := by simpa using h20
 subst ht
 rw [chunk_nil', List.append_nil] at hl
 subst hl
 refine .exit (.then_e (.then_e (.blk_e (.then_n (.sm rfl (.an rfl (.ret ?_)))))))
 exact .dn rfl rfl ⟨_, _, rfl, rfl⟩
structure EnX (p : HP) (e : En) : Prop where
 l : EnL p e
 sub : ∀ y ∈ e.subs, ∃ a n c, y.subsV = .slice a n c
def hasSub (y : Pt) : Bool := decide (slen y.subsV > 0)
theorem noSubs_any (l : List Pt) : (l.all fun y => decide (slen y.subsV = 0)) = !l.any hasSub := by
 induction l with
 | nil => rfl
 | cons y l ih =>
  rw [List.all_cons, List.any_cons, ih]
  have e : decide (slen y.subsV = 0) = !hasSub y := by
   unfold hasSub
   rcases Nat.eq_zero_or_pos (slen y.subsV) with h | h
   ·rw [h]; rfl
   ·rw [decide_eq_false (by omega), decide_eq_true h]; rfl
  rw [e]; cases hasSub y <;> rfl
theorem LgI.met {Λ : Lg} (h : LgI Λ) (e : Int) : LgI (Λ.met e) := by
 unfold Lg.met
 split
 ·exact ⟨h.ents, h.same, h.each, h.base, h.zxs⟩
 ·exact h
theorem lhas_spec (y : Pt) (a : Option Addr) (n c : Nat) (hy : y.subsV = .slice a n c) : Fn Tryz.prog 107 #[.agg (ptC y).toArray] [] fun v L => v = .bool (hasSub y) ∧ L = [] := by
 refine Fn.intro Tryz.func107 rfl rfl fun F W => ?_
 refine .sr (.oq (.box rfl) ?_)
 rintro v L' ⟨b1, rfl, rfl⟩
 refine .a rfl (.nil (.ptCast (b := b1) (l' := ptC y) (by repeat' constructor) rfl (.then_n (.sr (.u (.fieldAddr rfl fo_36_7) (.q (.to (v' := .slice a n c) (.load rfl ag_34 (by repeat' constructor) rfl) hy) rfl (.q (.slen rfl Tryz.underlying34 rfl) rfl (.ui rfl rfl rfl (.an rfl (.ret ?_))))))))))
 exact .dn rfl rfl ⟨congrArg Value.bool (decide_eq_decide.2 (by rw [hy]; show _ ↔ n > 0; omega)), rfl⟩
theorem lidx_spec (v : Value) (l : List Pt) (p : HP) (hr : ∀ h : Hp, p h → rdS 8 h v l.length (l.flatMap ptC)) (hl : l.length ≤ 4294967296) (hs : ∀ y ∈ l, ∃ a n c, y.subsV = .slice a n c) : Fn Tryz.prog 153 #[v, .func (.func 107) #[] #[]] [p] fun u L => (∃ r : Int, u = vint r ∧ (decide (r ≥ 0) = l.any hasSub)) ∧ L = [p] := by
 refine Fn.intro Tryz.func153 rfl rfl fun F W => ?_
 refine .rdAny (p := p) hr (by repeat' constructor) fun aa ca e _ => ?_
 subst e
 refine .sr (.an rfl (.seq (.sm rfl (.q (.slen rfl Tryz.underlying34 rfl) rfl (.m rfl (.nt (.block (.loopK (ι := Nat) (fun q E => (8, vint q) :: E) (fun q => []) (fun q => q ≤ l.length ∧ ∀ j (hj : j < q) (hl : j < l.length), hasSub l[j] = false) (fun q => l.length - q) (0) (ts := [0, 1, 7]) (.cons rfl (.cons rfl (.cons rfl (.nil)))) (⟨Nat.zero_le _, fun j hj => by omega⟩) ⟨rfl, rfl, rfl, rfl, trivial⟩ (by repeat' constructor) ?_))))))))
 rintro i ⟨hi, hb⟩
 refine .sr (.ui rfl rfl rfl (.nt (.seq (.condD rfl (fun h9 => ?_) (fun h9 => ?_)))))
 ·have hi2 : i < l.length := by omega
  obtain ⟨sa, sn, sc, hsy⟩ := hs _ (List.getElem_mem hi2)
  refine .rdShape (p := p) hr (by repeat' constructor) (by omega) fun ba oa e => ?_
  subst e
  refine .sk (.seq (.block (.sm rfl (.an rfl (.sm rfl (.m rfl (.m rfl (.q (.indexAddr rfl rfl el_34 (by omega)) rfl (.q (.loadRdA (sz := 8) (j := i * 8) (k := 8) (p := p) (vs := ptC l[i]) rfl ag_36 (by repeat' constructor) hr (by simp) (by omega) (by omega) (flatMap_at (f := ptC) (sz := 8) (fun _ _ => rfl) (by omega))) rfl (.oq (.callV Tryz.func107 rfl rfl (us := []) (vs := [_]) (ws := []) rfl rfl (lhas_spec l[i] sa sn sc hsy)) ?_))))))))))
  rintro v L' ⟨rfl, rfl⟩
  refine .nt (.condB rfl (fun h16 => ?_) (fun h16 => ?_))
  ·refine .sm rfl (.an rfl (.ret (.blk_r (.then_r (.then_r (.blk_r (.then_r ?_)))))))
   exact .dn rfl rfl ⟨⟨_, rfl, by rw [decide_eq_true (by omega)]; exact (List.any_eq_true.2 ⟨l[i], List.getElem_mem hi2, h16⟩).symm⟩, rfl⟩
  refine .skip (.blk_n (.then_n (.region (.q (.add rfl rfl (by omega)) rfl (.m rfl (.nt ?_))))))
  exact .rk (i + 1) (⟨by omega, fun j hj hl => by rcases Nat.lt_or_ge j i with h | h; exact hb j h hl; obtain rfl : j = i := (by omega); exact h16⟩) (by omega) ⟨rfl, rfl, rfl, rfl, trivial⟩
 refine .exit (.then_e (.then_e (.blk_e (.then_n (.sr (.an rfl (.ret ?_)))))))
 exact .dn rfl rfl ⟨⟨_, rfl, by rw [decide_eq_false (by decide)]; symm; rw [List.any_eq_false]; intro s hs; obtain ⟨j, hj, rfl⟩ := List.mem_iff_getElem.1 hs; rw [hb j (by omega) hj]; decide⟩, rfl⟩
theorem lcontains_spec (v : Value) (l : List Pt) (p : HP) (hr : ∀ h : Hp, p h → rdS 8 h v l.length (l.flatMap ptC)) (hl : l.length ≤ 4294967296) (hs : ∀ y ∈ l, ∃ a n c, y.subsV = .slice a n c) : Fn Tryz.prog 106 #[v, .func (.func 107) #[] #[]] [p] fun u L => u = .bool (l.any hasSub) ∧ L = [p] := by
 refine Fn.intro Tryz.func106 rfl rfl fun F W => ?_
 refine .sr (.an rfl (.sm rfl (.m rfl (.oq (.c Tryz.func153 [_, _] (lidx_spec v l p hr hl hs)) ?_))))
 rintro v' L' ⟨⟨r, rfl, hrl⟩, rfl⟩
 refine .ui rfl rfl rfl (.an rfl (.ret ?_))
 exact .dn rfl rfl ⟨congrArg Value.bool hrl, rfl⟩
theorem llaid_spec (e : En) (p : HP) (he : EnX p e) : Fn Tryz.prog 48 #[.agg (enC e).toArray] [p] fun v L => ∃ s1, (fitsE e = true → s1 = enB e) ∧ v = .tuple #[vstr s1, .bool (fitsE e)] ∧ L = [p] := by
 refine Fn.intro Tryz.func48 rfl rfl fun F W => ?_
 have hle := he.l.len
 have hns : noSubs e = !e.subs.any hasSub := noSubs_any e.subs
 refine .sr (.oq (.box rfl) ?_)
 rintro v L' ⟨b1, rfl, rfl⟩
 refine .a rfl (.a rfl (.nil (.ptCast (b := b1) (l' := enC e) (by repeat' constructor) (by exact rfl) (.then_n (.seq (.sr (.u (.fieldAddr rfl fo_38_3) (.u (.fieldAddr rfl fo_36_7) (.u (.ld rfl ag_34) (.cv Tryz.func106 [_, _] (lcontains_spec _ e.subs p he.l.w.subs (by have := he.l.few.1; omega) he.sub) ?_))))))))))
 refine .nt (.condB rfl (fun h10 => ?_) (fun h10 => ?_))
 ·refine .sr (.a rfl (.an rfl (.rt ?_)))
  have hf : fitsE e = false := by unfold fitsE; rw [hns, h10]; rfl
  rw [hf]
  exact .dn rfl rfl ⟨[], (fun h => by cases h), rfl, rfl⟩
 refine .sk (.sr (.q (.loadAs (vs := enC e) rfl ag_38 (by repeat' constructor) (by simp [enC, ptC]) rfl) rfl (.cv Tryz.func108 [_] (wput_spec e p he.l) ?_)))
 refine .an rfl (.sm rfl (.oq (.c Tryz.func53 [_] (wget_spec (enB e) (by omega))) ?_))
 rintro v L' ⟨ge, er, hge, rfl, rfl⟩
 refine .m rfl (.u (.extract rfl rfl) (.u (.extract rfl rfl) (.oq (.allocA ze_38) ?_)))
 rintro v L' ⟨b5, rfl, rfl⟩
 refine .oq (.storeA rfl rfl ?c21 sz_38 ?c24 ?c22 (nfz0 _ _)) ?_
 case c21 => exact hge.cells
 case c24 => rfl
 case c22 => simp [enC, ptC]
 rintro v L' rfl
 refine .an rfl (.sm rfl (.m rfl (.q (.as (v' := .bool (fitsE e)) (by exact congrArg Value.bool (by unfold fitsE; rw [hns, h10]; rcases hge with ⟨rfl, h2, -⟩ | ⟨rfl, h2, -⟩ <;> rw [h2] <;> rfl)) (.int rfl rfl rfl)) rfl (.a rfl (.an rfl (.ret ?_))))))
 exact .dn rfl rfl ⟨enB e, fun _ => rfl, rfl, rfl⟩
theorem lappend_spec (g x d : Nat) (δ : Dk) (ω : Wl) (Λ : Lg) (e : En) (p : HP) (he : EnX p e) (hI : WlI δ ω) (hΛ : LgI Λ) : Fn Tryz.prog 13 #[vptr g, .agg (enC e).toArray] [lgR g x Λ, wlR x d ω, dkR d δ, p] fun v L => v = vint (lgAppend ⟨δ, ω, Λ⟩ e).2 ∧ L = [lgR g x (lgAppend ⟨δ, ω, Λ⟩ e).1.Λ, wlR x d (lgAppend ⟨δ, ω, Λ⟩ e).1.ω, dkR d (lgAppend ⟨δ, ω, Λ⟩ e).1.δ, p] := by
 refine Fn.intro Tryz.func13 rfl rfl fun F W => ?_
 have hle := he.l.len
 have hfi := hI.fits
 have hhl := half_le hI.size
 refine .sr (.oq (.box rfl) ?_)
 rintro v L' ⟨b3, rfl, rfl⟩
 refine .a rfl (.nil (.ptCast (b := b3) (l' := enC e) (by repeat' constructor) (by exact rfl) (.then_n (.seq (.seq (.lgOpen (by repeat' constructor) fun ea ec za zc => (.region (.m rfl (.nf rfl fo_79_6 (.u (.ld rfl ag_4) (.nt (.condB rfl (fun h11 => ?_) (fun h11 => ?_)))))))))))))
 ·refine .sr (.an rfl (.rt ?_))
  have hr : lgAppend ⟨δ, ω, Λ⟩ e = (⟨δ, ω, Λ⟩, 2) := by unfold lgAppend; dsimp only; rw [if_pos h11]
  rw [hr]
  try dsimp only
  refine .lf (g := g) (x := x) Λ ?_
  exact .vv
 refine .lf (g := g) (x := x) Λ ?_
 refine .sk (.sr (.q (.loadAs (vs := enC e) rfl ag_38 (by repeat' constructor) (by simp [enC, ptC]) rfl) rfl (.oq (.c Tryz.func48 [_] (llaid_spec e p he)) ?_)))
 rintro v L' ⟨s1, hs1, rfl, rfl⟩
 refine .m rfl (.u (.extract rfl rfl) (.u (.extract rfl rfl) (.a rfl (.an rfl (.seq (.block (.sm rfl (.u (.not rfl) (.an rfl (.condB rfl (fun h17 => ?_) (fun h17 => ?_)))))))))))
 ·refine .sr (.an rfl (.ret (.blk_r (.then_r ?_))))
  have hr : lgAppend ⟨δ, ω, Λ⟩ e = (⟨δ, ω, Λ⟩, 1) := by unfold lgAppend; dsimp only; rw [if_neg (by rw [h11]; decide), if_pos (by simpa using h17)]
  rw [hr]
  try dsimp only
  exact .vv
 have hfit : fitsE e = true := by simpa using h17
 have hs1 := hs1 hfit
 subst hs1
 refine .seq (.draw [] [[0, 1, 2, 3, 4, 5]] mixed (by kernel_rfl) (.go [ptc b3 _ _, lgR g x Λ] (by repeat' constructor) (.kv rfl (.fieldAddr rfl fo_38_0) (.kv rfl (.ld rfl ag_3) (.mv rfl rfl (.m rfl (by kernel_rfl) (.c Tryz.func17 [_] (llast_spec g x Λ hΛ)) (by repeat' constructor) ?_))))))
 refine D.kv rfl (.int rfl rfl rfl) (.kv rfl (.assign rfl) (.pf (.condD rfl (fun h20 => ?_) (fun h20 => ?_))))
 ·refine .sr (.an rfl (.ret (.blk_r (.then_r ?_))))
  have hr : lgAppend ⟨δ, ω, Λ⟩ e = (⟨δ, ω, Λ⟩, 81) := by unfold lgAppend; dsimp only; rw [if_neg (by rw [h11]; decide), if_neg (by rw [hfit]; decide), if_pos h20]
  rw [hr]
  try dsimp only
  exact .vv
 refine .seq (.lgOpen (by repeat' constructor) fun ea ec za zc => (.region (.m rfl (.nf rfl fo_79_4 (.u (.ld rfl ag_46) (.q (.slen rfl Tryz.underlying46 rfl) rfl (.ui rfl rfl rfl (.m rfl (.dec (t := 33) rfl (fun h8_33 => ?_) (fun h8_33 => ?_))))))))))
 ·refine .kDT (t := 32) rfl h8_33 (.gk (.gk (.gk (.gk (.gk (.gk (.gk (.gk (.u (.pickT rfl rfl) (.a rfl (.nil (.lf (g := g) (x := x) Λ ?_))))))))))))
  refine .then_n (.condT rfl (.sr (.an rfl (.ret (.blk_r (.then_r ?_))))))
  have hr : lgAppend ⟨δ, ω, Λ⟩ e = (⟨δ, ω, Λ⟩, 83) := by unfold lgAppend; dsimp only; rw [if_neg (by rw [h11]; decide), if_neg (by rw [hfit]; decide), if_neg h20, if_pos (by first | exact .inl (by omega) | exact .inr h26)]
  rw [hr]
  try dsimp only
  exact .vv
 refine .kDF (t := 32) rfl h8_33 (.grun (t := 33) rfl rfl rfl (.m rfl (.grun (t := 33) rfl rfl rfl (.q (.strlen rfl Tryz.underlying9 rfl) rfl (.grun (t := 33) rfl rfl rfl (.m rfl (.grun (t := 33) rfl rfl rfl (.u (.nilp rfl) (.grun (t := 33) rfl rfl rfl (.u (.fieldAddr rfl fo_79_1) (.grun (t := 33) rfl rfl rfl (.u (.ld rfl ag_77) (.grun (t := 33) rfl rfl rfl (.cv Tryz.func49 [_] (wroom_spec x d ω δ hI.size (by omega)) ?_))))))))))))))
 refine .grun (t := 33) rfl rfl rfl (.ui rfl rfl rfl (.u (.pickF rfl rfl) (.a rfl (.nil (.lf (g := g) (x := x) Λ ?_)))))
 refine .then_n (.condD rfl (fun h26 => ?_) (fun h26 => ?_))
 ·refine .sr (.an rfl (.ret (.blk_r (.then_r ?_))))
  have hr : lgAppend ⟨δ, ω, Λ⟩ e = (⟨δ, ω, Λ⟩, 83) := by unfold lgAppend; dsimp only; rw [if_neg (by rw [h11]; decide), if_neg (by rw [hfit]; decide), if_neg h20, if_pos (by first | exact .inl (by omega) | exact .inr h26)]
  rw [hr]
  try dsimp only
  exact .vv
 refine .skip (.blk_n (.then_n (.seq (.lgOpen (by repeat' constructor) fun ea ec za zc => (.region (.m rfl (.m rfl (.nf rfl fo_79_1 (.u (.ld rfl ag_77) (.m rfl (.cv Tryz.func45 [_, _] (wappend_spec x d ω δ (enB e) hI (by omega)) ?_)))))))))))
 refine .lf (g := g) (x := x) Λ ?_
 refine .cv Tryz.func50 [_, _] (lmet_spec g x Λ _) ?_
 refine .an rfl (.seq (.sm rfl (.ui rfl rfl rfl (.nt (.condD rfl (fun h52 => ?_) (fun h52 => ?_))))))
 ·refine .region (.m rfl (.m rfl (.u (.fieldAddr rfl fo_38_0) (.u (.ld rfl ag_3) (.cv Tryz.func51 [_, _, _] (lkeep_spec g x _ (enB e) e.zx (hΛ.met _)) ?_)))))
  refine .nt (.sm rfl (.an rfl (.ret ?_)))
  have hr : lgAppend ⟨δ, ω, Λ⟩ e = (⟨(appendZ δ ω (enB e)).1, (appendZ δ ω (enB e)).2.1, (metL Λ (appendZ δ ω (enB e))).1.Λ.keep (enB e) e.zx⟩, 0) := by unfold lgAppend; dsimp only; rw [if_neg (by rw [h11]; decide), if_neg (by rw [hfit]; decide), if_neg h20, if_neg (by rintro (g | g); omega; exact h26 g), if_pos (show (metL Λ (appendZ δ ω (enB e))).2 = 0 from h52)]
  rw [hr]
  try dsimp only
  rw [h52]
  exact .vv
 refine .sk (.sm rfl (.an rfl (.ret ?_)))
 have hr : lgAppend ⟨δ, ω, Λ⟩ e = metL Λ (appendZ δ ω (enB e)) := by unfold lgAppend; dsimp only; rw [if_neg (by rw [h11]; decide), if_neg (by rw [hfit]; decide), if_neg h20, if_neg (by rintro (g | g); omega; exact h26 g), if_neg (show ¬ (metL Λ (appendZ δ ω (enB e))).2 = 0 from h52)]
 rw [hr]
 try dsimp only
 exact .vv
theorem lsync_spec (g x d : Nat) (δ : Dk) (ω : Wl) (Λ : Lg) (hI : WlI δ ω) : Fn Tryz.prog 28 #[vptr g] [lgR g x Λ, wlR x d ω, dkR d δ] fun v L => v = vint (lgSync ⟨δ, ω, Λ⟩).2 ∧ L = [lgR g x (lgSync ⟨δ, ω, Λ⟩).1.Λ, wlR x d (lgSync ⟨δ, ω, Λ⟩).1.ω, dkR d (lgSync ⟨δ, ω, Λ⟩).1.δ] := by
 refine Fn.intro Tryz.func28 rfl rfl fun F W => ?_
 refine .sr (.an rfl (.seq (.seq (.lgOpen (by repeat' constructor) fun ea ec za zc => (.region (.m rfl (.nf rfl fo_79_6 (.u (.ld rfl ag_4) (.nt (.condB rfl (fun h6 => ?_) (fun h6 => ?_)))))))))))
 ·refine .sr (.an rfl (.rt ?_))
  have hr : lgSync ⟨δ, ω, Λ⟩ = (⟨δ, ω, Λ⟩, 2) := by unfold lgSync; dsimp only; rw [if_pos h6]
  rw [hr]
  try dsimp only
  refine .lf (g := g) (x := x) Λ ?_
  exact .vv
 refine .sk (.sm rfl (.m rfl (.nf rfl fo_79_1 (.u (.ld rfl ag_77) (.cv Tryz.func47 [_] (wsync_spec x d ω δ hI) ?_)))))
 refine .lf (g := g) (x := x) Λ ?_
 refine .cv Tryz.func50 [_, _] (lmet_spec g x Λ _) ?_
 refine .an rfl (.ret ?_)
 have hr : lgSync ⟨δ, ω, Λ⟩ = metL Λ (syncZ δ ω) := by unfold lgSync; dsimp only; rw [if_neg (by rw [h6]; decide)]
 rw [hr]
 try dsimp only
 exact .vv
theorem lmetO_spec (g x : Nat) (Λ : Lg) (e : Int) (ea : Option Addr) (ec : Nat) (za : Option Addr) (zc : Nat) : Fn Tryz.prog 50 #[vptr g, vint e] [ptc g [vint Λ.acc, vint Λ.cur, vptr x, vint Λ.base, vstr Λ.snap, .slice ea Λ.ents.length ec, .slice za Λ.zxs.length zc, .bool Λ.doubt] 79, strR (.slice ea Λ.ents.length ec) Λ.ents, intR (.slice za Λ.zxs.length zc) Λ.zxs]
  fun v L => v = vint (metE e) ∧ L = [lgR g x (Λ.met e)] := by
 intro F w hs
 have hs' : St ([lgR g x Λ] ++ F) w := sep_imp (p := sep _) (fun _ hp => ⟨((ea, ec), (za, zc)), trivial, hp⟩) (sep_fold hs)
 exact lmet_spec g x Λ e F w hs'
theorem laccept_spec (g x d : Nat) (δ : Dk) (ω : Wl) (Λ : Lg) (n : Int) (hI : WlI δ ω) : Fn Tryz.prog 39 #[vptr g, vint n] [lgR g x Λ, wlR x d ω, dkR d δ] fun v L => v = vint (lgAccept ⟨δ, ω, Λ⟩ n).2 ∧ L = [lgR g x (lgAccept ⟨δ, ω, Λ⟩ n).1.Λ, wlR x d (lgAccept ⟨δ, ω, Λ⟩ n).1.ω, dkR d (lgAccept ⟨δ, ω, Λ⟩ n).1.δ] := by
 refine Fn.intro Tryz.func39 rfl rfl fun F W => ?_
 refine .lgOpen (by repeat' constructor) fun ea ec za zc => (.sr (.an rfl (.seq (.block (.sm rfl (.nf rfl fo_79_6 (.u (.ld rfl ag_4) (.an rfl (.condB rfl (fun h6 => ?_) (fun h6 => ?_))))))))))
 ·refine .sr (.an rfl (.ret (.blk_r (.then_r ?_))))
  have hr : lgAccept ⟨δ, ω, Λ⟩ n = (⟨δ, ω, Λ⟩, 2) := by unfold lgAccept; dsimp only; rw [if_pos h6]
  rw [hr]
  try dsimp only
  refine .lf (g := g) (x := x) Λ ?_
  exact .vv
 refine .sm rfl (.m rfl (.nf rfl fo_79_0 (.u (.fieldAddr rfl fo_76_0) (.u (.ld rfl ag_3) (.ui rfl rfl rfl (.m rfl (.dec (t := 19) rfl (fun h3_19 => ?_) (fun h3_19 => ?_))))))))
 ·refine .kDT (t := 18) rfl h3_19 (.gk (.gk (.u (.pickT rfl rfl) (.an rfl (.condT rfl (.sr (.an rfl (.ret (.blk_r (.then_r ?_))))))))))
  have hr : lgAccept ⟨δ, ω, Λ⟩ n = (⟨δ, ω, Λ⟩, 82) := by unfold lgAccept; dsimp only; rw [if_neg (by rw [h6]; decide), if_pos (by first | exact .inl h3_19 | exact .inr h11)]
  rw [hr]
  try dsimp only
  refine .lf (g := g) (x := x) Λ ?_
  exact .vv
 refine .kDF (t := 18) rfl h3_19 (.grun (t := 19) rfl rfl rfl (.m rfl (.grun (t := 19) rfl rfl rfl (.ui rfl rfl rfl (.u (.pickF rfl rfl) (.an rfl (.condD rfl (fun h11 => ?_) (fun h11 => ?_))))))))
 ·refine .sr (.an rfl (.ret (.blk_r (.then_r ?_))))
  have hr : lgAccept ⟨δ, ω, Λ⟩ n = (⟨δ, ω, Λ⟩, 82) := by unfold lgAccept; dsimp only; rw [if_neg (by rw [h6]; decide), if_pos (by first | exact .inl h3_19 | exact .inr h11)]
  rw [hr]
  try dsimp only
  refine .lf (g := g) (x := x) Λ ?_
  exact .vv
 refine .sm rfl (.m rfl (.nf rfl fo_79_0 (.u (.fieldAddr rfl fo_76_0) (.u (.ld rfl ag_3) (.ui rfl rfl rfl (.an rfl (.condD rfl (fun h23 => ?_) (fun h23 => ?_))))))))
 ·refine .sr (.an rfl (.ret (.blk_r (.then_r ?_))))
  have hr : lgAccept ⟨δ, ω, Λ⟩ n = (⟨δ, ω, Λ⟩, 0) := by unfold lgAccept; dsimp only; rw [if_neg (by rw [h6]; decide), if_neg (by rintro (g1 | g1); exact h3_19 g1; exact h11 g1), if_pos h23]
  rw [hr]
  try dsimp only
  refine .lf (g := g) (x := x) Λ ?_
  exact .vv
 refine .skip (.blk_n (.then_n (.seq (.draw [11, 12] [[0, 1, 2, 3, 4, 5, 6, 7, 8, 9, 10, 11], [12], [13]] mixed (by kernel_rfl) (.g0 (.k rfl (.move rfl) (.mv rfl rfl (.nf rfl rfl rfl fo_79_1 (.kv rfl (.ld rfl ag_77) (.mv rfl rfl (.mv rfl rfl (.nf rfl rfl rfl fo_79_0 (.kv rfl (.fieldAddr rfl fo_76_1) (.kv rfl (.ld rfl ag_3) (.hh rfl (.c Tryz.func83 [_, _, _] (wmark_spec x d ω δ n Λ.cur hI)) ?_)))))))))))))))
 rintro v L' ⟨rfl, rfl⟩
 refine D.ph (.g0 (.hh rfl (.c Tryz.func50 [_, _] (lmetO_spec g x Λ _ ea ec za zc)) ?_))
 rintro v L' ⟨rfl, rfl⟩
 refine D.ph (.g0 (.kv rfl (.assign rfl) (.pf (.seq (.sm rfl (.ui rfl rfl rfl (.nt (.condD rfl (fun h45 => ?_) (fun h45 => ?_)))))))))
 ·refine .lgOpen (by repeat' constructor) fun ea ec za zc => (.region (.m rfl (.m rfl (.nf rfl fo_79_0 (.u (.fieldAddr rfl fo_76_0) (.st rfl rfl rfl sz_3 ?_))))))
  refine .nt (.sm rfl (.an rfl (.ret ?_)))
  have hr : lgAccept ⟨δ, ω, Λ⟩ n = (⟨(setmZ δ ω n Λ.cur).1, (setmZ δ ω n Λ.cur).2.1, (metL Λ (setmZ δ ω n Λ.cur)).1.Λ.setAcc n⟩, 0) := by unfold lgAccept; dsimp only; rw [if_neg (by rw [h6]; decide), if_neg (by rintro (g1 | g1); exact h3_19 g1; exact h11 g1), if_neg h23, if_pos (show (metL Λ (setmZ δ ω n Λ.cur)).2 = 0 from h45)]
  rw [hr]
  try dsimp only
  rw [h45]
  refine .lf (g := g) (x := x) ((Λ.met (setmZ δ ω n Λ.cur).2.2).setAcc n) ?_
  exact .vv
 refine .sk (.sm rfl (.an rfl (.ret ?_)))
 have hr : lgAccept ⟨δ, ω, Λ⟩ n = metL Λ (setmZ δ ω n Λ.cur) := by unfold lgAccept; dsimp only; rw [if_neg (by rw [h6]; decide), if_neg (by rintro (g1 | g1); exact h3_19 g1; exact h11 g1), if_neg h23, if_neg (show ¬ (metL Λ (setmZ δ ω n Λ.cur)).2 = 0 from h45)]
 rw [hr]
 try dsimp only
 exact .vv
theorem ladopt_spec (g x d : Nat) (δ : Dk) (ω : Wl) (Λ : Lg) (n : Int) (hI : WlI δ ω) (hI1 : WlI (lgSync ⟨δ, ω, Λ⟩).1.δ (lgSync ⟨δ, ω, Λ⟩).1.ω) : Fn Tryz.prog 43 #[vptr g, vint n] [lgR g x Λ, wlR x d ω, dkR d δ] fun v L => v = vint (lgAdopt ⟨δ, ω, Λ⟩ n).2 ∧ L = [lgR g x (lgAdopt ⟨δ, ω, Λ⟩ n).1.Λ, wlR x d (lgAdopt ⟨δ, ω, Λ⟩ n).1.ω, dkR d (lgAdopt ⟨δ, ω, Λ⟩ n).1.δ] := by
 refine Fn.intro Tryz.func43 rfl rfl fun F W => ?_
 refine .lgOpen (by repeat' constructor) fun ea ec za zc => (.sr (.an rfl (.seq (.block (.sm rfl (.nf rfl fo_79_6 (.u (.ld rfl ag_4) (.an rfl (.condB rfl (fun h7 => ?_) (fun h7 => ?_))))))))))
 ·refine .sr (.an rfl (.ret (.blk_r (.then_r ?_))))
  have hr : lgAdopt ⟨δ, ω, Λ⟩ n = (⟨δ, ω, Λ⟩, 2) := by unfold lgAdopt; dsimp only; rw [if_pos h7]
  rw [hr]
  try dsimp only
  refine .lf (g := g) (x := x) Λ ?_
  exact .vv
 refine .sm rfl (.m rfl (.nf rfl fo_79_0 (.u (.fieldAddr rfl fo_76_1) (.u (.ld rfl ag_3) (.ui rfl rfl rfl (.m rfl (.dec (t := 20) rfl (fun h3_20 => ?_) (fun h3_20 => ?_))))))))
 ·refine .kDT (t := 19) rfl h3_20 (.gk (.gk (.gk (.gk (.gk (.gk (.gk (.u (.pickT rfl rfl) (.an rfl (.condT rfl (.sr (.an rfl (.ret (.blk_r (.then_r ?_)))))))))))))))
  have hr : lgAdopt ⟨δ, ω, Λ⟩ n = (⟨δ, ω, Λ⟩, 82) := by unfold lgAdopt; dsimp only; rw [if_neg (by rw [h7]; decide), if_pos (by first | exact .inl h3_20 | exact .inr h12)]
  rw [hr]
  try dsimp only
  refine .lf (g := g) (x := x) Λ ?_
  exact .vv
 refine .kDF (t := 19) rfl h3_20 (.grun (t := 20) rfl rfl rfl (.m rfl (.grun (t := 20) rfl rfl rfl (.m rfl (.grun (t := 20) rfl rfl rfl (.u (.nilp rfl) (.grun (t := 20) rfl rfl rfl (.u (.fieldAddr rfl fo_79_0) (.grun (t := 20) rfl rfl rfl (.u (.fieldAddr rfl fo_76_0) (.grun (t := 20) rfl rfl rfl (.u (.ld rfl ag_3) (.grun (t := 20) rfl rfl rfl (.ui rfl rfl rfl (.u (.pickF rfl rfl) (.an rfl (.condD rfl (fun h12 => ?_) (fun h12 => ?_))))))))))))))))))
 ·refine .sr (.an rfl (.ret (.blk_r (.then_r ?_))))
  have hr : lgAdopt ⟨δ, ω, Λ⟩ n = (⟨δ, ω, Λ⟩, 82) := by unfold lgAdopt; dsimp only; rw [if_neg (by rw [h7]; decide), if_pos (by first | exact .inl h3_20 | exact .inr h12)]
  rw [hr]
  try dsimp only
  refine .lf (g := g) (x := x) Λ ?_
  exact .vv
 refine .skip (.blk_n (.then_n (.seq (.seq (.lf (g := g) (x := x) Λ ?_)))))
 refine .region (.m rfl (.oq (.c Tryz.func28 [_] (lsync_spec g x d δ ω Λ hI)) ?_))
 rintro v L' ⟨rfl, rfl⟩; obtain ⟨⟨⟨δ1, ω1, Λ1⟩, e1⟩, hsy⟩ : ∃ r, lgSync ⟨δ, ω, Λ⟩ = r := ⟨_, rfl⟩; rw [hsy] at hI1 ⊢; dsimp only at hI1 ⊢
 refine .an rfl (.sm rfl (.ui rfl rfl rfl (.nt (.condN rfl (fun h32 => ?_) (fun h32 => ?_)))))
 ·refine .sm rfl (.an rfl (.rt ?_))
  have hr : lgAdopt ⟨δ, ω, Λ⟩ n = lgSync ⟨δ, ω, Λ⟩ := by unfold lgAdopt; dsimp only; rw [if_neg (by rw [h7]; decide), if_neg (by rintro (g1 | g1); exact h3_20 g1; exact h12 g1), if_pos (by rw [hsy]; exact h32)]
  rw [hr]
  try dsimp only
  rw [hsy]
  exact .vv
 refine .sk (.seq (.lgOpen (by repeat' constructor) fun ea ec za zc => (.draw [11, 12] [[0, 1, 2, 3, 4, 5, 6, 7, 8, 9, 10, 11], [12], [13]] mixed (by kernel_rfl) (.g0 (.k rfl (.move rfl) (.mv rfl rfl (.nf rfl rfl rfl fo_79_1 (.kv rfl (.ld rfl ag_77) (.mv rfl rfl (.nf rfl rfl rfl fo_79_0 (.kv rfl (.fieldAddr rfl fo_76_0) (.kv rfl (.ld rfl ag_3) (.mv rfl rfl (.hh rfl (.c Tryz.func83 [_, _, _] (wmark_spec x d ω1 δ1 Λ1.acc n hI1)) ?_))))))))))))))
 rintro v L' ⟨rfl, rfl⟩
 refine D.ph (.g0 (.hh rfl (.c Tryz.func50 [_, _] (lmetO_spec g x Λ1 _ ea ec za zc)) ?_))
 rintro v L' ⟨rfl, rfl⟩
 refine D.ph (.g0 (.kv rfl (.assign rfl) (.pf (.seq (.sm rfl (.ui rfl rfl rfl (.nt (.condD rfl (fun h48 => ?_) (fun h48 => ?_)))))))))
 ·refine .lgOpen (by repeat' constructor) fun ea ec za zc => (.region (.m rfl (.m rfl (.nf rfl fo_79_0 (.u (.fieldAddr rfl fo_76_1) (.st rfl rfl rfl sz_3 ?_))))))
  refine .nt (.sm rfl (.an rfl (.ret ?_)))
  have hr : lgAdopt ⟨δ, ω, Λ⟩ n = lgAdopt2 ⟨δ1, ω1, Λ1⟩ n := by unfold lgAdopt; dsimp only; rw [if_neg (by rw [h7]; decide), if_neg (by rintro (g1 | g1); exact h3_20 g1; exact h12 g1), if_neg (by rw [hsy]; exact fun g1 => g1 h32), hsy]
  rw [hr]
  have hr2 : lgAdopt2 ⟨δ1, ω1, Λ1⟩ n = (⟨(setmZ δ1 ω1 Λ1.acc n).1, (setmZ δ1 ω1 Λ1.acc n).2.1, (metL Λ1 (setmZ δ1 ω1 Λ1.acc n)).1.Λ.setCur n⟩, 0) := by unfold lgAdopt2; dsimp only; rw [if_pos (show (metL Λ1 (setmZ δ1 ω1 Λ1.acc n)).2 = 0 from h48)]
  rw [hr2, h48]
  dsimp only
  refine .lf (g := g) (x := x) ((Λ1.met (setmZ δ1 ω1 Λ1.acc n).2.2).setCur n) ?_
  exact .vv
 refine .sk (.sm rfl (.an rfl (.ret ?_)))
 have hr : lgAdopt ⟨δ, ω, Λ⟩ n = lgAdopt2 ⟨δ1, ω1, Λ1⟩ n := by unfold lgAdopt; dsimp only; rw [if_neg (by rw [h7]; decide), if_neg (by rintro (g1 | g1); exact h3_20 g1; exact h12 g1), if_neg (by rw [hsy]; exact fun g1 => g1 h32), hsy]
 rw [hr]
 have hr2 : lgAdopt2 ⟨δ1, ω1, Λ1⟩ n = metL Λ1 (setmZ δ1 ω1 Λ1.acc n) := by unfold lgAdopt2; dsimp only; rw [if_neg (show ¬ (metL Λ1 (setmZ δ1 ω1 Λ1.acc n)).2 = 0 from h48)]
 rw [hr2]
 try dsimp only
 exact .vv
theorem lbase_spec (g x : Nat) (Λ : Lg) : Fn Tryz.prog 81 #[vptr g] [lgR g x Λ] fun v L => v = vint Λ.base ∧ L = [lgR g x Λ] := by
 refine Fn.intro Tryz.func81 rfl rfl fun F W => ?_
 refine .lgOpen (by repeat' constructor) fun ea ec za zc => (.sr (.an rfl (.sm rfl (.nf rfl fo_79_2 (.u (.ld rfl ag_3) (.an rfl (.ret (.lf (g := g) (x := x) Λ ?_))))))))
 exact .vv
theorem lsnap_spec (g x : Nat) (Λ : Lg) : Fn Tryz.prog 82 #[vptr g] [lgR g x Λ] fun v L => v = vstr Λ.snap ∧ L = [lgR g x Λ] := by
 refine Fn.intro Tryz.func82 rfl rfl fun F W => ?_
 refine .lgOpen (by repeat' constructor) fun ea ec za zc => (.sr (.an rfl (.sm rfl (.nf rfl fo_79_3 (.u (.ld rfl ag_9) (.an rfl (.ret (.lf (g := g) (x := x) Λ ?_))))))))
 exact .vv
theorem lacc_spec (g x : Nat) (Λ : Lg) : Fn Tryz.prog 33 #[vptr g] [lgR g x Λ] fun v L => v = vint Λ.acc ∧ L = [lgR g x Λ] := by
 refine Fn.intro Tryz.func33 rfl rfl fun F W => ?_
 refine .lgOpen (by repeat' constructor) fun ea ec za zc => (.sr (.an rfl (.sm rfl (.nf rfl fo_76_0 (.u (.ld rfl ag_3) (.an rfl (.ret (.lf (g := g) (x := x) Λ ?_))))))))
 exact .vv
theorem lcur_spec (g x : Nat) (Λ : Lg) : Fn Tryz.prog 34 #[vptr g] [lgR g x Λ] fun v L => v = vint Λ.cur ∧ L = [lgR g x Λ] := by
 refine Fn.intro Tryz.func34 rfl rfl fun F W => ?_
 refine .lgOpen (by repeat' constructor) fun ea ec za zc => (.sr (.an rfl (.sm rfl (.nf rfl fo_76_1 (.u (.ld rfl ag_3) (.an rfl (.ret (.lf (g := g) (x := x) Λ ?_))))))))
 exact .vv
def cntS : Rn Nat := runP 0 (cntP 65536)
def headR : Rn (Int × Nat) := bindR numR fun b => bindR cntS fun n => retR (b, n)
def lhZ (s : Bs) : Option (Int × Nat) := match headR (some s) with
 | (q, some []) => some q
 | _ => none
theorem numR_back {n : Int} (h : I64 n) (r : Bs) : numR (some (numB n ++ r)) = (n, some r) := by
 unfold numR runP; dsimp only; rw [num_back h]
theorem cntS_back {n : Nat} (h : n ≤ 65536) (r : Bs) : cntS (some (cntB n ++ r)) = (n, some r) := by
 unfold cntS runP; dsimp only; rw [cnt_back h (by decide)]
theorem lh_back {base : Int} {n : Nat} (hb : I64 base) (hn : n ≤ 65536) : lhZ (headB base n) = some (base, n) := by
 have e : headR (some (headB base n)) = ((base, n), some []) := by
  unfold headR bindR retR headB
  rw [numR_back hb]; dsimp only
  have := cntS_back hn []
  rw [List.append_nil] at this
  rw [this]
 unfold lhZ; rw [e]
def snapZ (many : Nat) : Bs → List Bs → Option (Bs × List Bs)
 | sn, [] => if sn.length < many then none else some (sn, [])
 | sn, r :: t => if sn.length < many then (if r.length = min 4000 (many - sn.length) then snapZ many (sn ++ r) t else none) else some (sn, r :: t)
theorem snap_done {many : Nat} {sn : Bs} (h : ¬ sn.length < many) (l : List Bs) : snapZ many sn l = some (sn, l) := by
 cases l <;> (unfold snapZ; rw [if_neg h])
theorem snap_none {many : Nat} {sn : Bs} (h : sn.length < many) : snapZ many sn [] = none := by unfold snapZ; rw [if_pos h]
theorem snap_bad {many : Nat} {sn r : Bs} {t : List Bs} (h : sn.length < many) (hr : ¬ r.length = min 4000 (many - sn.length)) : snapZ many sn (r :: t) = none := by
 show (if _ then _ else _) = _; rw [if_pos h, if_neg hr]
theorem snap_step {many : Nat} {sn r : Bs} {t : List Bs} (h : sn.length < many) (hr : r.length = min 4000 (many - sn.length)) : snapZ many sn (r :: t) = snapZ many (sn ++ r) t := by
 show (if _ then _ else _) = _; rw [if_pos h, if_pos hr]
theorem snap_back (many : Nat) : ∀ (f : Nat) (t sn : Bs) (es : List Bs), t.length ≤ f → sn.length + t.length = many → snapZ many sn (chunkF f t ++ es) = some (sn ++ t, es)
 | 0, t, sn, es, h, hm => by
  have : t = [] := List.eq_nil_of_length_eq_zero (by omega)
  subst this
  rw [List.append_nil]; exact snap_done (by simp at hm; omega) es
 | f + 1, t, sn, es, h, hm => by
  unfold chunkF
  split
  ·rename_i ht; subst ht
   rw [List.append_nil]; exact snap_done (by simp at hm; omega) es
  ·rename_i ht
   have hp : 0 < t.length := List.length_pos_iff.2 ht
   rw [List.cons_append, snap_step (by omega) (by rw [List.length_take]; omega), snap_back many f _ _ es (by rw [List.length_drop]; omega) (by rw [List.length_append, List.length_take, List.length_drop]; omega), List.append_assoc, List.take_append_drop]
def entsZ : Lg → List Bs → Option Lg
  | Λ, [] => some Λ
  | Λ, s :: t => match getZ s with
    | none => none
    | some e => if e.zx ≤ lastZ Λ ∨ Λ.ents.length = 200 then none else entsZ (Λ.keep s e.zx) t
theorem ents_none {Λ : Lg} {s : Bs} {t : List Bs} (h : getZ s = none) : entsZ Λ (s :: t) = none := by
 show (match getZ s with | none => none | some e => _) = _; rw [h]
theorem ents_bad {Λ : Lg} {s : Bs} {t : List Bs} {e : En} (h : getZ s = some e) (hb : e.zx ≤ lastZ Λ ∨ Λ.ents.length = 200) : entsZ Λ (s :: t) = none := by
 show (match getZ s with | none => none | some e => _) = _; rw [h]; exact if_pos hb
theorem ents_step {Λ : Lg} {s : Bs} {t : List Bs} {e : En} (h : getZ s = some e) (hb : ¬ (e.zx ≤ lastZ Λ ∨ Λ.ents.length = 200)) : entsZ Λ (s :: t) = entsZ (Λ.keep s e.zx) t := by
 show (match getZ s with | none => none | some e => _) = _; rw [h]; exact if_neg hb
def restZ (a b base : Int) : Option (Bs × List Bs) → Option Lg
 | none => none
 | some (sn, u) => entsZ ⟨a, b, base, sn, [], [], false⟩ u
def lparseZ (a b : Int) : List Bs → Option Lg
  | [] => none
  | r :: t => match lhZ r with
    | none => none
    | some (base, n) => if base < 0 then none else restZ a b base (snapZ n [] t)
def openLZ (ω : Wl) : Option Lg := if ω.a > 1073741824 ∨ ω.b > ω.a then none else lparseZ ω.a ω.b ω.recs
/-! ### Rows: each record an entry, its numbers rising -/
def RowsI : Int → List Bs → List Int → Prop
 | _, [], [] => True
 | b, s :: t, z :: u => (∃ e, getZ s = some e ∧ e.zx = z) ∧ b < z ∧ I64 z ∧ RowsI z t u
 | _, _, _ => False
def lastF (b : Int) (zs : List Int) : Int := zs.getLast?.getD b
theorem lastF_cons (b z : Int) (u : List Int) : lastF b (z :: u) = lastF z u := by
 unfold lastF; rw [List.getLast?_cons]; rfl
theorem RowsI.len : ∀ {es : List Bs} {zs : List Int} {b : Int}, RowsI b es zs → zs.length = es.length
 | [], [], _, _ => rfl
 | _ :: _, _ :: _, _, h => congrArg (· + 1) (RowsI.len h.2.2.2)
 | [], _ :: _, _, h => h.elim
 | _ :: _, [], _, h => h.elim
theorem RowsI.keep {s : Bs} {z : Int} (hs : ∃ e, getZ s = some e ∧ e.zx = z) (hi : I64 z) : ∀ {es : List Bs} {zs : List Int} {b : Int}, RowsI b es zs → lastF b zs < z → RowsI b (es ++ [s]) (zs ++ [z])
 | [], [], _, _, hz => ⟨hs, hz, hi, trivial⟩
 | _ :: _, _ :: _, _, h, hz => ⟨h.1, h.2.1, h.2.2.1, RowsI.keep hs hi h.2.2.2 (by rw [lastF_cons] at hz; exact hz)⟩
 | [], _ :: _, _, h, _ => h.elim
 | _ :: _, [], _, h, _ => h.elim
theorem RowsI.take : ∀ {es : List Bs} {zs : List Int} {b : Int} (n : Nat), RowsI b es zs → RowsI b (es.take n) (zs.take n)
 | [], [], _, _, _ => by simp [RowsI]
 | _ :: _, _ :: _, _, 0, _ => trivial
 | _ :: _, _ :: _, _, n + 1, h => ⟨h.1, h.2.1, h.2.2.1, RowsI.take n h.2.2.2⟩
 | [], _ :: _, _, _, h => h.elim
 | _ :: _, [], _, _, h => h.elim
theorem RowsI.gt : ∀ {es : List Bs} {zs : List Int} {b : Int}, RowsI b es zs → ∀ z ∈ zs, b < z
 | [], [], _, _, z, hz => by cases hz
 | _ :: _, z0 :: _, _, h, z, hz => by
  rcases List.mem_cons.1 hz with rfl | hz
  ·exact h.2.1
  ·have := h.2.1; have := RowsI.gt h.2.2.2 z hz; omega
 | [], _ :: _, _, h, _, _ => h.elim
 | _ :: _, [], _, h, _, _ => h.elim
theorem RowsI.i64 : ∀ {es : List Bs} {zs : List Int} {b : Int}, RowsI b es zs → ∀ z ∈ zs, I64 z
 | [], [], _, _, z, hz => by cases hz
 | _ :: _, z0 :: _, _, h, z, hz => by
  rcases List.mem_cons.1 hz with rfl | hz
  ·exact h.2.2.1
  ·exact RowsI.i64 h.2.2.2 z hz
 | [], _ :: _, _, h, _, _ => h.elim
 | _ :: _, [], _, h, _, _ => h.elim
theorem RowsI.up : ∀ {es : List Bs} {zs : List Int} {b : Int}, RowsI b es zs → (b :: zs).Pairwise (· < ·)
 | [], [], _, _ => by simp
 | _ :: _, z0 :: u, b, h => List.pairwise_cons.2 ⟨fun z hz => RowsI.gt (es := _ :: _) (zs := z0 :: u) h z hz, RowsI.up h.2.2.2⟩
 | [], _ :: _, _, h => h.elim
 | _ :: _, [], _, h => h.elim
theorem RowsI.drop : ∀ {es : List Bs} {zs : List Int} {b : Int} (n : Nat), n ≤ zs.length → RowsI b es zs → RowsI ((b :: zs).getD n 0) (es.drop n) (zs.drop n)
 | [], [], b, 0, _, _ => trivial
 | [], [], _, _ + 1, hn, _ => by simp at hn
 | _ :: _, _ :: _, _, 0, _, h => h
 | _ :: _, _ :: _, _, n + 1, hn, h => RowsI.drop n (by simpa using hn) h.2.2.2
 | [], _ :: _, _, _, _, h => h.elim
 | _ :: _, [], _, _, _, h => h.elim
theorem ents_back : ∀ {es : List Bs} {zs : List Int} {Λ : Lg}, RowsI (lastZ Λ) es zs → Λ.ents.length + es.length ≤ 200 → entsZ Λ es = some ⟨Λ.acc, Λ.cur, Λ.base, Λ.snap, Λ.ents ++ es, Λ.zxs ++ zs, Λ.doubt⟩
 | [], [], Λ, _, _ => by rw [List.append_nil, List.append_nil]; rfl
 | s :: t, z :: u, Λ, h, hl => by
  obtain ⟨⟨e, he, hz⟩, h2, h3, h4⟩ := h
  rw [List.length_cons] at hl
  rw [ents_step he (by rw [hz]; omega)]
  have hk : lastZ (Λ.keep s e.zx) = z := by unfold lastZ Lg.keep; rw [hz]; simp
  rw [ents_back (zs := u) (by rw [hk]; exact h4) (by show (Λ.ents ++ [s]).length + _ ≤ _; rw [List.length_append, List.length_singleton]; omega)]
  unfold Lg.keep
  rw [hz]; simp
 | [], _ :: _, _, h, _ => h.elim
 | _ :: _, [], _, h, _ => h.elim
structure LgW (Λ : Lg) : Prop where
 few : Λ.ents.length ≤ 200
 each : ∀ s ∈ Λ.ents, s.length ≤ 4000
 base : 0 ≤ Λ.base ∧ Λ.base ≤ 9223372036854775807
 snap : Λ.snap.length ≤ 65536
 rows : RowsI Λ.base Λ.ents Λ.zxs
 eps : 0 ≤ Λ.cur ∧ Λ.cur ≤ Λ.acc ∧ Λ.acc ≤ 1073741824
theorem LgW.i {Λ : Lg} (h : LgW Λ) : LgI Λ := ⟨h.few, h.rows.len, fun s hs => by have := h.each s hs; omega, ⟨by have := h.base; omega, h.base.2⟩, h.rows.i64⟩
theorem lparse_back {Λ : Lg} (h : LgW Λ) (hd : Λ.doubt = false) : lparseZ Λ.acc Λ.cur (headL Λ.base Λ.snap ++ Λ.ents) = some Λ := by
 unfold headL lparseZ
 rw [List.cons_append]; dsimp only
 rw [lh_back ⟨by have := h.base; omega, h.base.2⟩ h.snap]; dsimp only
 rw [if_neg (by have := h.base; omega)]
 unfold chunkL
 rw [snap_back Λ.snap.length Λ.snap.length Λ.snap [] Λ.ents (Nat.le_refl _) (by simp)]
 show entsZ ⟨Λ.acc, Λ.cur, Λ.base, [] ++ Λ.snap, [], [], false⟩ Λ.ents = _
 rw [ents_back (zs := Λ.zxs) (Λ := ⟨Λ.acc, Λ.cur, Λ.base, [] ++ Λ.snap, [], [], false⟩) h.rows (by have := h.few; simpa using this)]
 rw [← hd]; simp
/-! ### Calls -/
def placeZ (Λ : Lg) (z : Int) : Option Nat := if z ∈ Λ.zxs then some (Λ.zxs.idxOf z + 1) else if z = Λ.base then some 0 else none
def lgCut2 (s : Ld) (n : Nat) : Ld × Int :=
 if (metL s.Λ (cutZ s.δ s.ω (((headL s.Λ.base s.Λ.snap).length + n : Nat) : Int))).2 = 0 then (⟨(cutZ s.δ s.ω (((headL s.Λ.base s.Λ.snap).length + n : Nat) : Int)).1, (cutZ s.δ s.ω (((headL s.Λ.base s.Λ.snap).length + n : Nat) : Int)).2.1, ⟨s.Λ.acc, s.Λ.cur, s.Λ.base, s.Λ.snap, s.Λ.ents.take n, s.Λ.zxs.take n, s.Λ.doubt⟩⟩, 0) else metL s.Λ (cutZ s.δ s.ω (((headL s.Λ.base s.Λ.snap).length + n : Nat) : Int))
def lgCut (s : Ld) (z : Int) : Ld × Int := if s.Λ.doubt = true then (s, 2) else match placeZ s.Λ z with
 | none => (s, 81)
 | some n => lgCut2 s n
def lgRenew (s : Ld) (base : Int) (snap : Bs) (es : List Bs) (zs : List Int) : Ld × Int :=
 if es.length > 200 then (s, 83) else if (metL s.Λ (renewZ s.δ s.ω (headL base snap ++ es))).2 = 0 then (⟨(renewZ s.δ s.ω (headL base snap ++ es)).1, (renewZ s.δ s.ω (headL base snap ++ es)).2.1, ⟨s.Λ.acc, s.Λ.cur, base, snap, es, zs, s.Λ.doubt⟩⟩, 0) else metL s.Λ (renewZ s.δ s.ω (headL base snap ++ es))
def Rises (b : Int) (zs : List Int) : Prop := ∀ j, j < zs.length → b < zs.getD j 0 ∧ (0 < j → zs.getD (j - 1) 0 < zs.getD j 0)
instance (b : Int) (zs : List Int) : Decidable (Rises b zs) := by unfold Rises; infer_instance
def lgInstall (s : Ld) (z : Int) (snap : Bs) (l : List En) : Ld × Int :=
 if s.Λ.doubt = true then (s, 2) else if z < 0 ∨ snap.length > 65536 then (s, 1) else if l.all fitsE = false then (s, 1) else if ¬ Rises z (l.map (·.zx)) then (s, 81) else lgRenew s z snap (l.map enB) (l.map (·.zx))
def lgCompact (s : Ld) (z : Int) (snap : Bs) : Ld × Int :=
 if s.Λ.doubt = true then (s, 2) else if snap.length > 65536 then (s, 1) else match placeZ s.Λ z with
 | none => (s, 81)
 | some n => lgRenew s z snap (s.Λ.ents.drop n) (s.Λ.zxs.drop n)
def lgF1 (δ : Dk) : Dk × Wl × Int := appendZ (formatZ δ).1 newW (headB 0 0)
def lgF2 (δ : Dk) : Dk × Wl × Int := syncZ (lgF1 δ).1 (lgF1 δ).2.1
def lgFormat (δ : Dk) : Dk × Option Wl := if (formatZ δ).2.isNone = true then ((formatZ δ).1, none) else if (lgF1 δ).2.2 ≠ 0 then ((lgF1 δ).1, none) else if (lgF2 δ).2.2 ≠ 0 then ((lgF2 δ).1, none) else ((lgF2 δ).1, some (lgF2 δ).2.1)
def entAt (q : Bs × Int) : En := (getZ q.1).getD en0
def behindL (Λ : Lg) (z : Int) : List En := ((Λ.ents.zip Λ.zxs).filter fun q => decide (q.2 > z)).map entAt
/-! ### On a disk that lives -/
structure LWell (s : Ld) (N : Int) : Prop where
 well : Well s.δ s.ω N
 w : LgW s.Λ
 live : s.Λ.doubt = false
 recs : s.ω.recs = headL s.Λ.base s.Λ.snap ++ s.Λ.ents
 a : s.ω.a = s.Λ.acc
 b : s.ω.b = s.Λ.cur
theorem LWell.more {s : Ld} {N M : Int} (h : LWell s N) (hN : N ≤ M) : LWell s M := ⟨h.well.more hN, h.w, h.live, h.recs, h.a, h.b⟩
theorem lw_append {s : Ld} {N : Int} (h : LWell s N) {e : En} (he : EnI e) : LWell (lgAppend s e).1 (N + 2000000) ∧ (lgAppend s e).1.δ.now.length = s.δ.now.length ∧
  (((lgAppend s e).2 = 0 ∧ (lgAppend s e).1.Λ = s.Λ.keep (enB e) e.zx ∧ fitsE e = true ∧ lastZ s.Λ < e.zx ∧ (enB e).length ≤ 4000 ∧ s.Λ.ents.length < 200) ∨ ((lgAppend s e).2 ≠ 0 ∧ (lgAppend s e).1 = s)) := by
 have hm := h.more (M := N + 2000000) (by omega)
 unfold lgAppend
 rw [if_neg (by rw [h.live]; decide)]
 split
 ·exact ⟨hm, rfl, .inr ⟨show (1 : Int) ≠ 0 by decide, rfl⟩⟩
 rename_i hf
 have hf : fitsE e = true := by simpa using hf
 split
 ·exact ⟨hm, rfl, .inr ⟨show (81 : Int) ≠ 0 by decide, rfl⟩⟩
 rename_i hz
 split
 ·exact ⟨hm, rfl, .inr ⟨show (83 : Int) ≠ 0 by decide, rfl⟩⟩
 rename_i hr
 obtain ⟨w1, w2, w3⟩ := well_append h.well (enB e)
 have hfew := h.w.few
 rcases w3 with ⟨g1, g2, g3⟩ | ⟨g1, g3⟩ | ⟨g1, g2, g3⟩
 ·obtain ⟨δ1, q, hq⟩ : ∃ δ1 q, appendZ s.δ s.ω (enB e) = (δ1, q) := ⟨_, _, rfl⟩
  rw [hq] at w1 w2 g3 ⊢
  dsimp only at w1 w2 g3
  subst g3
  have e0 : metL s.Λ (δ1, ({ s.ω with recs := s.ω.recs ++ [enB e] } : Wl), (0 : Int)) = (⟨δ1, { s.ω with recs := s.ω.recs ++ [enB e] }, s.Λ⟩, 0) := rfl
  rw [e0, if_pos rfl]
  dsimp only at w1 ⊢
  obtain ⟨b, hb⟩ : ∃ b, getZ (enB e) = some b := by
   unfold fitsE at hf
   cases hg : getZ (enB e) with
   | none => rw [hg] at hf; simp at hf
   | some b => exact ⟨b, rfl⟩
  have hbz : b.zx = e.zx := by
   rw [get_back he hb]; rfl
  refine ⟨⟨w1, ⟨?_, ?_, h.w.base, h.w.snap, RowsI.keep ⟨b, hb, hbz⟩ he.zx h.w.rows (by show lastZ s.Λ < _; omega), h.w.eps⟩, h.live, ?_, h.a, h.b⟩, w2, .inl ⟨rfl, rfl, hf, by omega, g1, by omega⟩⟩
  ·show (s.Λ.ents ++ [enB e]).length ≤ 200; rw [List.length_append, List.length_singleton]; omega
  ·intro x hx
   rcases List.mem_append.1 hx with hx | hx
   ·exact h.w.each x hx
   ·rw [List.mem_singleton] at hx; subst hx; exact g1
  ·show s.ω.recs ++ [enB e] = headL s.Λ.base s.Λ.snap ++ (s.Λ.ents ++ [enB e])
   rw [h.recs, List.append_assoc]
 ·rw [g3, if_neg (by show ¬ metE 33 = 0; decide)]
  exact ⟨hm, rfl, .inr ⟨by show metE 33 ≠ 0; decide, rfl⟩⟩
 ·rw [g3, if_neg (by show ¬ metE 30 = 0; decide)]
  exact ⟨hm, rfl, .inr ⟨by show metE 30 ≠ 0; decide, rfl⟩⟩
theorem lg0_W : LgW lg0 := ⟨by decide, (fun s hs => by cases hs), by decide, by decide, trivial, by decide⟩
theorem format_lwell {n : Int} (h : 16 ≤ n ∧ n ≤ 32768) : ∃ ω, (lgFormat (Dk.new n)).2 = some ω ∧ LWell ⟨(lgFormat (Dk.new n)).1, ω, lg0⟩ 4000003 ∧ (lgFormat (Dk.new n)).1.now.length = n.toNat ∧ Well (formatZ (Dk.new n)).1 newW 3 ∧ Well (lgF1 (Dk.new n)).1 (lgF1 (Dk.new n)).2.1 2000003 := by
 obtain ⟨f1, f2, f3⟩ := format_well h
 obtain ⟨δ1, hq⟩ : ∃ δ1, (formatZ (Dk.new n)).1 = δ1 := ⟨_, rfl⟩
 have hF1 : lgF1 (Dk.new n) = appendZ δ1 newW (headB 0 0) := by rw [← hq]; rfl
 rw [hq] at f2 f3
 have hnl : δ1.now.length = n.toNat := by rw [f3, List.length_set, List.length_set]; simp [Dk.new]
 obtain ⟨w1, w2, w3⟩ := well_append f2 (headB 0 0)
 have hl : (headB 0 0).length = 2 := by kernel_rfl
 have hh : 7 ≤ halfZ δ1 := by unfold halfZ; omega
 have h0 : (laidZ newW.recs).length = 0 := rfl
 rcases w3 with ⟨-, -, g3⟩ | ⟨g1, -⟩ | ⟨-, g2, -⟩
 rotate_left
 ·omega
 ·omega
 obtain ⟨⟨δ2, q2⟩, hq2⟩ : ∃ r, appendZ δ1 newW (headB 0 0) = r := ⟨_, rfl⟩
 rw [hq2] at w1 w2 g3 hF1
 dsimp only at w1 w2 g3
 subst g3
 dsimp only at w1
 have hs : syncZ δ2 { newW with recs := newW.recs ++ [headB 0 0] } = dbt (sealZ δ2 { newW with recs := newW.recs ++ [headB 0 0] } 0 [headB 0 0]) := by
  unfold syncZ
  rw [if_neg (by decide), if_neg (by show ¬ ((0 : Int) = ((1 : Nat) : Int)); decide), if_neg (by decide)]; rfl
 obtain ⟨e, w, k⟩ := well_seal w1 (by decide) (area := 0) (by decide) (l := [headB 0 0]) w1.fits w1.al rfl (by have := w1.acts; omega)
 have hF2 : lgF2 (Dk.new n) = dbt (sealZ δ2 { newW with recs := newW.recs ++ [headB 0 0] } 0 [headB 0 0]) := by unfold lgF2; rw [hF1]; exact hs
 have hfm : lgFormat (Dk.new n) = ((lgF2 (Dk.new n)).1, some (lgF2 (Dk.new n)).2.1) := by
  unfold lgFormat
  rw [f1, if_neg (by decide), if_neg (by rw [hF1]; exact fun g => g rfl), if_neg (by rw [hF2, e]; decide)]
 rw [hfm, hF2, hF1, hq]
 dsimp only
 exact ⟨_, rfl, ⟨by rw [e, show (4000003 : Int) = 3 + 2000000 + 2000000 by decide]; exact w, lg0_W, rfl, by rw [e]; rfl, by rw [e]; rfl, by rw [e]; rfl⟩, by rw [k, List.length_set, w2, hnl], f2, w1⟩
theorem clipI0_spec : Fn Tryz.prog 52 #[.slice none 0 0] [slR 3 1 (.slice none 0 0) 0 []] fun u L => u = .slice none 0 0 ∧ L = [slR 3 1 u 0 []] := by
 refine Fn.intro Tryz.func52 rfl rfl fun F W => ?_
 refine .sr (.an rfl (.sm rfl (.m rfl (.q (.slen rfl Tryz.underlying31 rfl) rfl (.m rfl (.q (.slen rfl Tryz.underlying31 rfl) rfl (.q (.clip (n := 0) rfl el_31 rfl rfl (Nat.le_refl _) (.inl rfl)) rfl (.an rfl (.ret ?_)))))))))
 exact .dn rfl rfl ⟨rfl, rfl⟩
theorem clipI1_spec (b n c : Nat) (hc : n ≤ c) (xs : List Value) : Fn Tryz.prog 52 #[.slice (some ⟨b, 0, none⟩) n c] [slR 3 1 (.slice (some ⟨b, 0, none⟩) n c) n xs] fun u L => u = .slice (some ⟨b, 0, none⟩) n n ∧ L = [slR 3 1 u n xs] := by
 refine Fn.intro Tryz.func52 rfl rfl fun F W => ?_
 refine .sr (.an rfl (.sm rfl (.m rfl (.q (.slen rfl Tryz.underlying31 rfl) rfl (.m rfl (.q (.slen rfl Tryz.underlying31 rfl) rfl (.q (.clip (n := n) rfl el_31 rfl rfl hc (.inr ⟨_, _, rfl⟩)) rfl (.an rfl (.ret (.slClip (by repeat' constructor) ?_))))))))))
 exact .dn rfl rfl ⟨rfl, rfl⟩
theorem clipI_spec (v : Value) (n : Nat) (xs : List Value) : Fn Tryz.prog 52 #[v] [slR 3 1 v n xs] fun u L => (∃ a c, u = .slice a n c) ∧ L = [slR 3 1 u n xs] := by
 intro F w hs
 obtain ⟨g1, -, hp⟩ := sep_head hs
 rcases hp with ⟨rfl, rfl, rfl⟩ | ⟨b, cap, rest, fr, rfl, -, -, -, h4, -⟩
 ·exact (clipI0_spec F w hs).mono fun e w' ⟨u, L, ⟨h1, h2⟩, h3⟩ => ⟨u, L, ⟨⟨_, _, h1⟩, h2⟩, h3⟩
 ·exact (clipI1_spec b n cap h4 xs F w hs).mono fun e w' ⟨u, L, ⟨h1, h2⟩, h3⟩ => ⟨u, L, ⟨⟨_, _, h1⟩, h2⟩, h3⟩
theorem hd00 : (headB 0 0).length = 2 := by kernel_rfl
theorem lformat_spec (d : Nat) (δ : Dk) (hA : δ.acts + 10 < 4611686018427387904) (hI : WlI (formatZ δ).1 newW) (hI1 : WlI (lgF1 δ).1 (lgF1 δ).2.1) : Fn Tryz.prog 12 #[vptr d] [dkR d δ] fun v L => ((lgFormat δ).2 = none ∧ v = .tuple #[.pointer none, vint 2] ∧ L = [dkR d (lgFormat δ).1]) ∨
    (∃ ω g x, (lgFormat δ).2 = some ω ∧ v = .tuple #[vptr g, vint 0] ∧ L = [lgR g x lg0, wlR x d ω, dkR d (lgFormat δ).1]) := by
 refine Fn.intro Tryz.func12 rfl rfl fun F W => ?_
 refine .sr (.a rfl (.an rfl (.seq (.sm rfl (.q (.ptreq rfl rfl Tryz.underlying24) rfl (.nt (.condF rfl (.sk (.sm rfl (.oq (.c Tryz.func44 [_] (format_spec d δ hA)) ?_))))))))))
 rintro v L' (⟨hf, rfl, rfl⟩ | ⟨hf, x, rfl, rfl⟩)
 ·refine .m rfl (.u (.extract rfl rfl) (.u (.extract rfl rfl) (.a rfl (.an rfl (.seq (.sm rfl (.q (.as (v' := .bool true) (by rfl) (.int rfl rfl rfl)) rfl (.m rfl (.gk (.gk (.gk (.gk (.gk (.gk (.u (.pickT rfl rfl) (.m rfl (.gk (.gk (.gk (.u (.pickT rfl rfl) (.nt (.condT rfl (.sr (.a rfl (.an rfl (.rt ?_))))))))))))))))))))))))))
  have hr : lgFormat δ = ((formatZ δ).1, none) := by unfold lgFormat; rw [hf]; rfl
  rw [hr]
  exact .dn rfl rfl (.inl ⟨rfl, rfl, rfl⟩)
 refine .m rfl (.u (.extract rfl rfl) (.u (.extract rfl rfl) (.a rfl (.an rfl (.seq (.sm rfl (.q (.as (v' := .bool false) (by rfl) (.int rfl rfl rfl)) rfl (.m rfl (.grun (t := 15) rfl rfl rfl (.m rfl (.grun (t := 15) rfl rfl rfl (.oq (.c Tryz.func46 [_, _] (lahead_spec 0 [] (by decide) (by decide))) ?_))))))))))))
 rintro v L' ⟨ba, ca, rfl, rfl⟩; rw [show headL 0 [] = [headB 0 0] from rfl]; dsimp only [List.length_cons, List.length_nil]
 refine .grun (t := 15) rfl rfl rfl (.q (.indexAddr rfl rfl el_46 (by omega)) rfl (.grun (t := 15) rfl rfl rfl (.q (.loadEl (p := strR (.slice (some ⟨ba, 0, none⟩) (0 + 1) ca) [headB 0 0]) (i := 0) (v := vstr (headB 0 0)) rfl ag_9 (by repeat' constructor) (fun h hp => slR_rd hp) rfl) rfl (.grun (t := 15) rfl rfl rfl (.oq (.c Tryz.func45 [_, _] (wappend_spec x d newW (formatZ δ).1 (headB 0 0) hI (by rw [hd00]; decide))) ?_)))))
 rintro v L' ⟨rfl, rfl⟩; rw [show appendZ (formatZ δ).1 newW (headB 0 0) = lgF1 δ from rfl]
 refine .grun (t := 15) rfl rfl rfl (.ui rfl rfl rfl (.u (.pickF rfl rfl) (.m rfl (.ndec (t := 23) rfl (fun h4_23 => ?_) (fun h4_23 => ?_)))))
 ·refine .kNT (t := 21) rfl h4_23 (.kNT (t := 22) rfl h4_23 (.gk (.gk (.gk (.u (.pickT rfl rfl) (.nt (.condT rfl (.sr (.a rfl (.an rfl (.rt ?_)))))))))))
  have hr : lgFormat δ = ((lgF1 δ).1, none) := by unfold lgFormat; rw [hf, if_neg (by decide),  if_pos h4_23]
  rw [hr]
  exact .dn rfl rfl (.inl ⟨rfl, rfl, rfl⟩)
 refine .kNF (t := 21) rfl h4_23 (.kNF (t := 22) rfl h4_23 (.grun (t := 23) rfl rfl rfl (.m rfl (.grun (t := 23) rfl rfl rfl (.oq (.c Tryz.func47 [_] (wsync_spec x d (lgF1 δ).2.1 (lgF1 δ).1 hI1)) ?_)))))
 rintro v L' ⟨rfl, rfl⟩; rw [show syncZ (lgF1 δ).1 (lgF1 δ).2.1 = lgF2 δ from rfl]
 refine .grun (t := 23) rfl rfl rfl (.ui rfl rfl rfl (.u (.pickF rfl rfl) (.nt (.condN rfl (fun h27 => ?_) (fun h27 => ?_)))))
 ·refine .sr (.a rfl (.an rfl (.rt ?_)))
  have hr : lgFormat δ = ((lgF2 δ).1, none) := by unfold lgFormat; rw [hf, if_neg (by decide), if_neg (fun g => g h4_23),  if_pos h27]
  rw [hr]
  exact .dn rfl rfl (.inl ⟨rfl, rfl, rfl⟩)
 refine .sk (.sm rfl (.q (.buildN (pl := [(0, 2), (2, 1), (3, 1), (4, 1), (5, 1), (6, 1), (7, 1)]) (us := [(1, _)]) (cells := [vint 0, vint 0, vptr x, vint 0, vstr [], .slice none 0 0, .slice none 0 0, .bool false]) Tryz.underlying79 (by kernel_rfl) ze_79 rfl rfl) rfl (.oq (.box rfl) ?_)))
 rintro v L' ⟨g, rfl, rfl⟩
 refine .a rfl (.a rfl (.nil (.ptCast (b := g) (l' := [vint 0, vint 0, vptr x, vint 0, vstr [], .slice none 0 0, .slice none 0 0, .bool false]) (by repeat' constructor) rfl (.then_n (.ret ?_)))))
 have hr : lgFormat δ = ((lgF2 δ).1, some (lgF2 δ).2.1) := by unfold lgFormat; rw [hf, if_neg (by decide), if_neg (fun g => g h4_23),  if_neg (fun g => g h27)]
 rw [hr]
 refine .add (slR_nil 9 1) (.add (slR_nil 3 1) (.lgFold (g := g) (x := x) (ea := none) (ec := 0) (za := none) (zc := 0) (es := []) (zs := []) lg0 (by repeat' constructor) rfl rfl rfl rfl rfl ?_))
 exact .dn rfl rfl (.inr ⟨_, _, _, rfl, rfl, rfl⟩)
theorem llastO_spec (g x : Nat) (Λ : Lg) (hl : LgI Λ) (ea : Option Addr) (ec : Nat) (za : Option Addr) (zc : Nat) : Fn Tryz.prog 17 #[vptr g] [ptc g [vint Λ.acc, vint Λ.cur, vptr x, vint Λ.base, vstr Λ.snap, .slice ea Λ.ents.length ec, .slice za Λ.zxs.length zc, .bool Λ.doubt] 79, strR (.slice ea Λ.ents.length ec) Λ.ents, intR (.slice za Λ.zxs.length zc) Λ.zxs] fun v L => v = vint (lastZ Λ) ∧ L = [ptc g [vint Λ.acc, vint Λ.cur, vptr x, vint Λ.base, vstr Λ.snap, .slice ea Λ.ents.length ec, .slice za Λ.zxs.length zc, .bool Λ.doubt] 79, strR (.slice ea Λ.ents.length ec) Λ.ents, intR (.slice za Λ.zxs.length zc) Λ.zxs] := by
 refine Fn.intro Tryz.func17 rfl rfl fun F W => ?_
 have h1 := hl.ents
 have h2 := hl.same
 refine .sr (.an rfl (.seq (.sm rfl (.nf rfl fo_79_5 (.u (.ld rfl ag_31) (.q (.slen rfl Tryz.underlying31 rfl) rfl (.ui rfl rfl rfl (.nt (.condD rfl (fun h8 => ?_) (fun h8 => ?_))))))))))
 ·refine .sm rfl (.nf rfl fo_79_2 (.u (.ld rfl ag_3) (.an rfl (.rt ?_))))
  rw [last_nil (Λ := Λ) (by omega)]
  exact .vv
 refine .sk (.seq ?_)
 obtain ⟨i, hi⟩ : ∃ i, i + 1 = Λ.zxs.length := ⟨Λ.zxs.length - 1, by omega⟩
 refine .slShape (v := .slice za _ zc) (xs := ints Λ.zxs) (by repeat' constructor) (by omega) fun bz cz e0 mbz _ => ?_
 simp only [Value.slice.injEq, true_and] at e0
 obtain ⟨rfl, rfl⟩ := e0
 refine .draw [] [[0, 1, 2, 3, 4, 5, 6, 7, 8, 9, 10, 11, 12]] mixed (by kernel_rfl) (.g0 (.mv rfl rfl (.nf rfl rfl rfl fo_79_5 (.kv rfl (.ld rfl ag_31) (.mv rfl rfl (.nf rfl rfl rfl fo_79_5 (.kv rfl (.ld rfl ag_31) (.kv rfl (.slen rfl Tryz.underlying31 rfl) (.kv rfl (.as (v' := vint (i : Nat)) (by congr 1; omega) (.sub rfl rfl (by omega))) (.kv rfl (.indexAddr rfl rfl el_31 (by omega)) (.kv rfl (.loadEl (p := intR (.slice (some ⟨bz, 0, none⟩) Λ.zxs.length zc) Λ.zxs) (i := i * 1) (v := vint (Λ.zxs[i]'(by omega))) rfl ag_3 (by repeat' constructor) (fun h hp => slR_rd hp) (by simp [List.getElem?_eq_getElem (show i < Λ.zxs.length by omega)])) ?_)))))))))))
 refine D.kv rfl (.assign rfl) (.pf (.ret ?_))
 rw [last_at hi]
 exact .vv
theorem numR_i64 (st : Rs) : I64 (numR st).1 := by
 unfold numR runP
 split
 ·decide
 ·split
  ·rename_i x hx; exact (num_form hx).2
  ·decide
theorem get_zx64 {s : Bs} {e : En} (h : getZ s = some e) : I64 e.zx := by
 unfold getZ getR at h
 split at h
 ·rename_i q hq
  cases h
  have : e.zx = (numR (some s)).1 := by rw [show e = (enR (some s)).1 by rw [hq]]; rfl
  rw [this]; exact numR_i64 _
 ·cases h
theorem LgI.keep {Λ : Lg} (h : LgI Λ) (hl : Λ.ents.length < 200) {s : Bs} (hs : s.length ≤ 1073741824) {z : Int} (hz : I64 z) : LgI (Λ.keep s z) := by
 refine ⟨?_, ?_, ?_, h.base, ?_⟩
 ·show (Λ.ents ++ [s]).length ≤ 200; rw [List.length_append, List.length_singleton]; omega
 ·show (Λ.zxs ++ [z]).length = (Λ.ents ++ [s]).length; rw [List.length_append, List.length_append, h.same]; rfl
 ·intro x hx
  rcases List.mem_append.1 hx with hx | hx
  ·exact h.each x hx
  ·rw [List.mem_singleton] at hx; subst hx; exact hs
 ·intro x hx
  rcases List.mem_append.1 hx with hx | hx
  ·exact h.zxs x hx
  ·rw [List.mem_singleton] at hx; subst hx; exact hz
def cntX (st : Rs) : Nat × Rs := runP 0 (cntP 65536) st
theorem cntX_le (st : Rs) : (cntX st).1 ≤ 65536 := by
 unfold cntX runP
 split
 ·exact Nat.zero_le _
 ·split
  ·rename_i x hx; exact (cnt_form hx).2
  ·exact Nat.zero_le _
theorem lh_ok {s : Bs} (h : (cntX (numR (some s)).2).2 = some []) : lhZ s = some ((numR (some s)).1, (cntX (numR (some s)).2).1) := by
 have e : headR (some s) = (((numR (some s)).1, (cntX (numR (some s)).2).1), some []) := by rw [← h]; rfl
 unfold lhZ; rw [e]
theorem lh_bad {s : Bs} (h : ¬ (cntX (numR (some s)).2).2 = some []) : lhZ s = none := by
 unfold lhZ
 split
 ·rename_i q hq; exact absurd (show (headR (some s)).2 = some [] by rw [hq]) h
 ·rfl
theorem parse_cons {a b : Int} {l : List Bs} (h : 0 < l.length) : lparseZ a b l = match lhZ (l.getD 0 []) with
  | none => none
  | some (base, n) => if base < 0 then none else restZ a b base (snapZ n [] (l.drop 1)) := by
 cases l with
 | nil => simp at h
 | cons r t => rfl
theorem drop_cons {l : List Bs} {i : Nat} (h : i < l.length) : l.drop i = l.getD i [] :: l.drop (i + 1) := by
 rw [List.drop_eq_getElem_cons h]; simp [List.getD_eq_getElem?_getD, h]
theorem tail_addr (b o c : Nat) : (if c = (1 : Int).toNat then (⟨b, o, none⟩ : Addr) else ⟨b, o + (1 : Int).toNat * 1, none⟩) = ⟨b, if c = 1 then o else o + 1, none⟩ := by
 show (if c = 1 then _ else (⟨b, o + 1, none⟩ : Addr)) = _
 split <;> rfl
theorem rdS_tail {h : Hp} {b o n c : Nat} {l : List Bs} (hr : rdS 1 h (.slice (some ⟨b, o, none⟩) n c) n (strs l)) (hn : 0 < n) (hc : n ≤ c) : rdS 1 h (.slice (some ⟨b, if c = 1 then o else o + 1, none⟩) (n - 1) (c - 1)) (n - 1) (strs (l.drop 1)) := by
 have hl : (strs l).length = n * 1 := rdS_len hr
 rw [show (strs l).length = l.length by simp [strs]] at hl
 rcases Nat.lt_or_ge 1 n with h1 | h1
 ·rw [if_neg (by omega)]
  have := rdS_drop (k := 1) hr h1
  rw [show (strs l).drop (1 * 1) = strs (l.drop 1) by simp [strs, List.map_drop]] at this
  exact this
 ·obtain rfl : n = 1 := by omega
  refine .inl ⟨rfl, ?_, _, _, rfl⟩
  rw [List.drop_eq_nil_of_le (by omega)]; rfl
theorem lparse_spec (g x : Nat) (a b : Int) (va : Value) (l : List Bs) (p : HP) (hr : ∀ h : Hp, p h → rdS 1 h va l.length (strs l)) (hl : l.length ≤ 1048576) (hs : ∀ s ∈ l, s.length ≤ 1073741824) : Fn Tryz.prog 57 #[vptr g, va] [lgR g x ⟨a, b, 0, [], [], [], false⟩, p] fun v L => ∃ Λ ok, (ok = true → lparseZ a b l = some Λ) ∧ (ok = false → lparseZ a b l = none) ∧ v = .bool ok ∧ L = [lgR g x Λ, p] := by
 refine Fn.intro Tryz.func57 rfl rfl fun F W => ?_
 refine .rdAny (p := p) hr (by repeat' constructor) fun aa ca e0 _ => ?_
 subst e0
 refine .sr (.an rfl (.seq (.sm rfl (.q (.slen rfl Tryz.underlying46 rfl) rfl (.ui rfl rfl rfl (.nt (.condD rfl (fun h13 => ?_) (fun h13 => ?_))))))))
 ·have hln : l = [] := List.eq_nil_of_length_eq_zero (by omega)
  subst hln
  refine .sr (.an rfl (.rt ?_))
  exact .dn rfl rfl ⟨_, false, (fun h => by cases h), fun _ => rfl, rfl, rfl⟩
 refine .rdShapeC (p := p) hr (by repeat' constructor) (by omega) fun ba oa e hcap => ?_
 subst e
 have hpc := parse_cons (a := a) (b := b) (l := l) (by omega)
 have hs0 : (l.getD 0 []).length ≤ 1073741824 := by cases l with | nil => simp | cons r t => exact hs r (List.mem_cons_self ..)
 refine .sk (.sm rfl (.q (.indexAddr rfl rfl el_46 (by omega)) rfl (.q (.loadEl (p := p) (i := 0) (v := vstr (l.getD 0 [])) rfl ag_9 (by repeat' constructor) hr (by have hil : 0 < l.length := (by omega); simp [strs, List.getD_eq_getElem?_getD, hil])) rfl ?_)))
 refine .oq (.c Tryz.func117 [_] (cread_spec (l.getD 0 []) (by omega))) ?_
 rintro v L' ⟨r, rfl, rfl⟩
 refine .an rfl (.sm rfl (.m rfl (.cv Tryz.func118 [_] (wnum_spec r (some (l.getD 0 []))) ?_)))
 refine .lgOpen (by repeat' constructor) fun ea ec za zc => (.nf rfl fo_79_2 (.st rfl rfl rfl sz_3 ?_))
 refine .nt (.sm rfl (.oq (.c Tryz.func119 [_, _] (rcount_spec r 65536 (by decide) _)) ?_))
 rintro v L' ⟨rfl, rfl⟩; rw [show runP 0 (cntP 65536) (numR (some (l.getD 0 []))).2 = cntX (numR (some (l.getD 0 []))).2 from rfl]
 refine .an rfl (.seq (.sm rfl (.oq (.c Tryz.func120 [_] (rend_spec r _)) ?_)))
 rintro v L' ⟨e1, he1, rfl, st', rfl⟩
 refine .ui rfl rfl rfl (.m rfl (.ndec (t := 28) rfl (fun h6_28 => ?_) (fun h6_28 => ?_)))
 ·refine .kNT (t := 27) rfl h6_28 (.gk (.gk (.gk (.gk (.gk (.u (.pickT rfl rfl) (.nt (.condT rfl (.sr (.an rfl (.rt (.lf (g := g) (x := x) ⟨a, b, (numR (some (l.getD 0 []))).1, [], [], [], false⟩ ?_))))))))))))
  exact .dn rfl rfl ⟨_, false, (fun h => by cases h), fun _ => by rw [hpc, lh_bad (fun g => h6_28 (he1.2 g))], rfl, rfl⟩
 refine .kNF (t := 27) rfl h6_28 (.grun (t := 28) rfl rfl rfl (.m rfl (.grun (t := 28) rfl rfl rfl (.u (.nilp rfl) (.grun (t := 28) rfl rfl rfl (.u (.fieldAddr rfl fo_79_2) (.grun (t := 28) rfl rfl rfl (.u (.ld rfl ag_3) (.grun (t := 28) rfl rfl rfl (.ui rfl rfl rfl (.u (.pickF rfl rfl) (.nt (.condD rfl (fun h34 => ?_) (fun h34 => ?_))))))))))))))
 ·refine .sr (.an rfl (.rt (.lf (g := g) (x := x) ⟨a, b, (numR (some (l.getD 0 []))).1, [], [], [], false⟩ ?_)))
  exact .dn rfl rfl ⟨_, false, (fun h => by cases h), fun _ => by rw [hpc, lh_ok (he1.1 (by simpa using h6_28))]; exact if_pos h34, rfl, rfl⟩
 have hI0 := numR_i64 (some (l.getD 0 []))
 have hn0 := cntX_le (numR (some (l.getD 0 []))).2
 have hlh := lh_ok (he1.1 (by simpa using h6_28))
 rw [hlh] at hpc
 generalize hbase : (numR (some (l.getD 0 []))).1 = base at *
 generalize hmany : (cntX (numR (some (l.getD 0 []))).2).1 = many at *
 dsimp only at hpc
 rw [if_neg h34] at hpc
 refine .lf (g := g) (x := x) ⟨a, b, base, [], [], [], false⟩ ?_
 refine .sk (.sm rfl (.q (.to (v' := .slice (some ⟨ba, if ca = 1 then oa else oa + 1, none⟩) (l.length - 1) (ca - 1)) (.slSlice (i := 1) (j := ((l.length : Nat) : Int)) rfl el_46 rfl rfl (by omega)) (by rw [tail_addr]; simp)) rfl (.an rfl (.seq (.block (.loopK (ι := Nat × Nat × Nat × Bs) (fun q E => (1, .slice (some ⟨ba, q.2.1, none⟩) (l.length - q.1) q.2.2.1) :: E) (fun q => [lgR g x ⟨a, b, base, q.2.2.2, [], [], false⟩]) (fun q => q.1 ≤ l.length ∧ l.length - q.1 ≤ q.2.2.1 ∧ (∀ h : Hp, p h → rdS 1 h (.slice (some ⟨ba, q.2.1, none⟩) (l.length - q.1) q.2.2.1) (l.length - q.1) (strs (l.drop q.1))) ∧ lparseZ a b l = restZ a b base (snapZ many q.2.2.2 (l.drop q.1)) ∧ q.2.2.2.length ≤ many) (fun q => l.length - q.1) (1, (if ca = 1 then oa else oa + 1), ca - 1, []) (ts := [0, 6]) (.cons rfl (.cons rfl (.nil))) (⟨by dsimp only; omega, by dsimp only; omega, fun h hp => rdS_tail (hr h hp) (by omega) hcap, hpc, Nat.zero_le _⟩) ⟨rfl, rfl, rfl, trivial⟩ (by repeat' constructor) ?_))))))
 rintro ⟨i, o, c, sn⟩ ⟨hi, hic, hru, hpz, hsn⟩
 dsimp only
 dsimp only at hi hic hru hpz hsn
 refine .lgOpen (by repeat' constructor) fun ea ec za zc => ?_
 dsimp only
 refine .seq (.sm rfl (.nf rfl fo_79_3 (.u (.ld rfl ag_9) (.q (.strlen rfl Tryz.underlying9 rfl) rfl (.m rfl (.ui rfl rfl rfl (.nt (.condD rfl (fun h43 => ?_) (fun h43 => ?_)))))))))
 ·refine .sk (.block (.seq (.seq (.draw [] [[0, 1, 2, 3, 4, 5, 6, 7, 8, 9, 10, 11, 12, 13, 14, 15, 16, 17]] mixed (by kernel_rfl) (.g0 (.mv rfl rfl (.kv rfl (.slen rfl Tryz.underlying46 rfl) (.kv rfl (.int rfl rfl rfl) (.mv rfl rfl (.dec (t := 47) rfl (fun h10_47 => ?_) (fun h10_47 => ?_)))))))))))
  ·refine D.kDT (t := 46) rfl h10_47 (.gz rfl (.gz rfl (.gz rfl (.gz rfl (.gz rfl (.gz rfl (.gz rfl (.gz rfl (.gz rfl (.gz rfl (.gz rfl (.gz rfl (.gz rfl (.kv rfl (.pickT rfl rfl) (.pf (.condT rfl (.sr (.an rfl (.rt (.blk_r (.then_r (.blk_r (.then_r (.lf (g := g) (x := x) ⟨a, b, base, sn, [], [], false⟩ ?_))))))))))))))))))))))))
   exact .dn rfl rfl ⟨_, false, (fun h => by cases h), fun _ => by rw [hpz]; rw [List.drop_eq_nil_of_le (by omega), snap_none (by omega)]; rfl, rfl, rfl⟩
  refine D.kDF (t := 46) rfl h10_47 (.gv rfl (.move rfl) (.gv rfl (.indexAddr rfl rfl el_46 (by omega)) (.gv rfl (.loadEl (p := p) (i := 0) (v := vstr (l.getD i [])) rfl ag_9 (by repeat' constructor) hru (by have hil : i < l.length := (by omega); simp [strs, List.getElem?_drop, List.getD_eq_getElem?_getD, hil])) ?_)))
  refine D.gv rfl (.strlen rfl Tryz.underlying9 rfl) (.gv rfl (.move rfl) (.gv rfl (.move rfl) (.gv rfl (.nilp rfl) (.gv rfl (.fieldAddr rfl fo_79_3) (.gv rfl (.ld rfl ag_9) (.gv rfl (.strlen rfl Tryz.underlying9 rfl) (.gv rfl (.sub rfl rfl (by omega)) (.gv rfl (.min2 rfl rfl) (.gv rfl (.int rfl rfl rfl) (.kv rfl (.pickF rfl rfl) (.pf (.condN rfl (fun h61 => ?_) (fun h61 => ?_)))))))))))))
  ·refine .sr (.an rfl (.rt (.blk_r (.then_r (.blk_r (.then_r (.lf (g := g) (x := x) ⟨a, b, base, sn, [], [], false⟩ ?_)))))))
   exact .dn rfl rfl ⟨_, false, (fun h => by cases h), fun _ => by rw [hpz]; rw [drop_cons (by omega), snap_bad (by omega) (by omega)]; rfl, rfl, rfl⟩
  refine .sk (.seq (.draw [10] [[0, 1, 2, 3, 4, 5, 6, 7, 8, 9, 10]] mixed (by kernel_rfl) (.g0 (.mv rfl rfl (.nf rfl rfl rfl fo_79_3 (.kv rfl (.ld rfl ag_9) (.mv rfl rfl (.kv rfl (.indexAddr rfl rfl el_46 (by omega)) (.kv rfl (.loadEl (p := p) (i := 0) (v := vstr (l.getD i [])) rfl ag_9 (by repeat' constructor) hru (by have hil : i < l.length := (by omega); simp [strs, List.getElem?_drop, List.getD_eq_getElem?_getD, hil])) ?_)))))))))
  refine D.kv rfl (.concat rfl rfl (by omega)) (.nf rfl rfl rfl fo_79_3 (.hh rfl (.store rfl rfl rfl sz_9 ?c70 (nfz0 _ _)) ?_))
  case c70 => first | decide | (simp; omega) | simp
  rintro v L' rfl
  refine D.pf (.region (.m rfl (.q (.to (v' := .slice (some ⟨ba, if c = 1 then o else o + 1, none⟩) ((l.length - i) - 1) (c - 1)) (.slSlice (i := 1) (j := (((l.length - i) : Nat) : Int)) rfl el_46 rfl rfl (by omega)) (by rw [tail_addr]; simp)) rfl (.a rfl (.nil (.blk_n (.then_n (.lf (g := g) (x := x) ⟨a, b, base, (sn ++ l.getD i []), [], [], false⟩ ?_))))))))
  exact .rk ((i + 1, (if c = 1 then o else o + 1), c - 1, sn ++ l.getD i [])) (⟨by dsimp only; omega, by dsimp only; omega, fun h hp => by have h9 := rdS_tail (hru h hp) (by omega) hic; rw [List.drop_drop] at h9; exact h9, by rw [hpz, drop_cons (by omega), snap_step (by omega) (by omega)], by dsimp only; rw [List.length_append]; omega⟩) (by dsimp only; omega) ⟨rfl, rfl, rfl, trivial⟩
 have hlt1 : ∀ s ∈ l.drop i, s.length ≤ 1073741824 := fun s hs1 => hs s (List.mem_of_mem_drop hs1)
 rw [snap_done (by omega)] at hpz
 refine .lf (g := g) (x := x) ⟨a, b, base, sn, [], [], false⟩ ?_
 refine .exit (.then_e (.then_e (.blk_e (.then_n (.seq (.sm rfl (.q (.slen rfl Tryz.underlying46 rfl) rfl (.m rfl (.nt (.block (.loopK (ι := Nat × Lg) (fun q E => (76, vint q.1) :: E) (fun q => [lgR g x q.2]) (fun q => q.1 ≤ l.length - i ∧ LgI q.2 ∧ lparseZ a b l = entsZ q.2 ((l.drop i).drop q.1)) (fun q => l.length - i - q.1) (0, ⟨a, b, base, sn, [], [], false⟩) (ts := [0, 74, 75]) (.cons rfl (.cons rfl (.cons rfl (.nil)))) (⟨Nat.zero_le _, ⟨Nat.zero_le _, rfl, (fun s hs => by cases hs), hI0, fun z hz => by cases hz⟩, hpz⟩) ⟨rfl, rfl, rfl, rfl, trivial⟩ (by repeat' constructor) ?_)))))))))))
 rintro ⟨j, Λ⟩ ⟨hj, hΛ, hpe⟩
 dsimp only
 dsimp only at hj hΛ hpe
 refine .sr (.ui rfl rfl rfl (.nt (.seq (.condD rfl (fun h77 => ?_) (fun h77 => ?_)))))
 ·have hjl : j < (l.drop i).length := by rw [List.length_drop]; omega
  have hdj := drop_cons hjl
  have hsl : ((l.drop i).getD j []).length ≤ 1073741824 := by rw [List.getD_eq_getElem?_getD, List.getElem?_eq_getElem hjl]; exact hlt1 _ (List.getElem_mem hjl)
  refine .sk (.seq (.block (.sr (.q (.indexAddr rfl rfl el_46 (by omega)) rfl (.q (.loadEl (p := p) (i := j * 1) (v := vstr ((l.drop i).getD j [])) rfl ag_9 (by repeat' constructor) hru (by rw [Nat.mul_one]; simp [strs, List.getElem?_drop, List.getD_eq_getElem?_getD, show i + j < l.length by omega])) rfl ?_)))))
  refine .an rfl (.sm rfl (.oq (.c Tryz.func53 [_] (wget_spec ((l.drop i).getD j []) (by omega))) ?_))
  rintro v L' ⟨ge, er, hge, rfl, rfl⟩
  refine .m rfl (.u (.extract rfl rfl) (.u (.extract rfl rfl) (.oq (.allocA ze_38) ?_)))
  rintro v L' ⟨b9, rfl, rfl⟩
  refine .oq (.storeA rfl rfl ?c87 sz_38 ?c90 ?c88 (nfz0 _ _)) ?_
  case c87 => exact hge.cells
  case c90 => rfl
  case c88 => simp [enC, ptC]
  rintro v L' rfl
  refine .a rfl (.nil (.ptCast (b := b9) (l' := enC ge) (by repeat' constructor) (by exact rfl) (.lgOpen (by repeat' constructor) fun ea ec za zc => (.then_n (.seq (.seq (.draw [] [[0, 1, 2, 3, 4, 5, 6, 7, 8, 9, 10, 11, 12, 13, 14, 15, 16]] mixed (by kernel_rfl) (.go [ptc b9 _ _, ptc g _ _, strR _ Λ.ents, intR _ Λ.zxs] (by repeat' constructor) (.mv rfl rfl (.kv rfl (.int rfl rfl rfl) (.mv rfl rfl (.ndec (t := 87) rfl (fun h18_87 => ?_) (fun h18_87 => ?_)))))))))))))
  ·refine D.kNT (t := 86) rfl h18_87 (.gz rfl (.gz rfl (.gz rfl (.gz rfl (.gz rfl (.kv rfl (.pickT rfl rfl) (.mv rfl rfl (.gz rfl (.gz rfl (.gz rfl (.gz rfl (.gz rfl (.gz rfl (.kv rfl (.pickT rfl rfl) (.pf (.condT rfl (.sr (.an rfl (.rt (.blk_r (.then_r (.then_r (.blk_r (.then_r (.lf (g := g) (x := x) Λ ?_)))))))))))))))))))))))))
   exact .dn rfl rfl ⟨_, false, (fun h => by cases h), fun _ => by rw [hpe, hdj, ents_none (by rcases hge with ⟨g1, -, -⟩ | ⟨-, g2, -⟩; exact absurd g1 h18_87; exact g2)], rfl, rfl⟩
  have hgz : getZ ((l.drop i).getD j []) = some ge.pl := by rcases hge with ⟨-, g2, -⟩ | ⟨g1, -⟩; exact g2; omega
  have hgi : I64 ge.zx := (get_zx64 hgz : I64 ge.pl.zx)
  refine D.kNF (t := 86) rfl h18_87 (.gv rfl (.fieldAddr rfl fo_38_0) (.gv rfl (.ld rfl ag_3) (.gv rfl (.move rfl) (.gm (t := 87) rfl rfl rfl (by kernel_rfl) (.c Tryz.func17 [_] (llastO_spec g x Λ hΛ ea ec za zc)) (by repeat' constructor) ?_))))
  refine D.gv rfl (.int rfl rfl rfl) (.kv rfl (.pickF rfl rfl) (.mv rfl rfl (.dec (t := 94) rfl (fun h18_94 => ?_) (fun h18_94 => ?_))))
  ·refine D.kDT (t := 92) rfl h18_94 (.kDT (t := 93) rfl h18_94 (.gz rfl (.gz rfl (.gz rfl (.gz rfl (.gz rfl (.gz rfl (.kv rfl (.pickT rfl rfl) (.pf (.condT rfl (.sr (.an rfl (.rt (.blk_r (.then_r (.then_r (.blk_r (.then_r (.lf (g := g) (x := x) Λ ?_)))))))))))))))))))
   exact .dn rfl rfl ⟨_, false, (fun h => by cases h), fun _ => by rw [hpe, hdj, ents_bad hgz (by first | exact .inl h18_94 | exact .inr (by omega))], rfl, rfl⟩
  refine D.kDF (t := 92) rfl h18_94 (.kDF (t := 93) rfl h18_94 (.gv rfl (.move rfl) (.gv rfl (.nilp rfl) (.gv rfl (.fieldAddr rfl fo_79_4) (.gv rfl (.ld rfl ag_46) (.gv rfl (.slen rfl Tryz.underlying46 rfl) (.gv rfl (.int rfl rfl rfl) (.kv rfl (.pickF rfl rfl) (.pf (.condD rfl (fun h101 => ?_) (fun h101 => ?_)))))))))))
  ·refine .sr (.an rfl (.rt (.blk_r (.then_r (.then_r (.blk_r (.then_r (.lf (g := g) (x := x) Λ ?_))))))))
   exact .dn rfl rfl ⟨_, false, (fun h => by cases h), fun _ => by rw [hpe, hdj, ents_bad hgz (by first | exact .inl h18_94 | exact .inr (by omega))], rfl, rfl⟩
  refine .lf (g := g) (x := x) Λ ?_
  have hkI : LgI (Λ.keep ((l.drop i).getD j []) ge.zx) := hΛ.keep (by have := hΛ.ents; omega) hsl hgi
  refine .sk (.region (.m rfl (.m rfl (.u (.fieldAddr rfl fo_38_0) (.u (.ld rfl ag_3) (.cv Tryz.func51 [_, _, _] (lkeep_spec g x Λ ((l.drop i).getD j []) ge.zx hΛ) ?_))))))
  refine .nil (.blk_n (.then_n (.region (.q (.add rfl rfl (by omega)) rfl (.m rfl (.nt ?_))))))
  exact .rk ((j + 1, Λ.keep ((l.drop i).getD j []) ge.zx)) (⟨by dsimp only; omega, hkI, by rw [hpe, hdj, ents_step hgz (by rintro (g1 | g1); exact h18_94 g1; omega)]; rfl⟩) (by dsimp only; omega) ⟨rfl, rfl, rfl, rfl, trivial⟩
 refine .exit (.then_e (.then_e (.blk_e (.then_n (.sr (.an rfl (.ret ?_)))))))
 exact .dn rfl rfl ⟨_, true, fun _ => by rw [hpe, List.drop_eq_nil_of_le (by rw [List.length_drop]; omega)]; rfl, (fun h => by cases h), rfl, rfl⟩
theorem lopen_spec (d : Nat) (δ : Dk) (hn : 2 ≤ δ.now.length ∧ δ.now.length ≤ 32768) (hok : δ.Ok) (hrs : ∀ ω, openZ δ = some ω → ω.doubt = false ∧ ω.recs.length ≤ 1048576 ∧ ∀ s ∈ ω.recs, s.length ≤ 1073741824) : Fn Tryz.prog 18 #[vptr d] [dkR d δ] fun v L => (δ.dead = true ∧ v = .tuple #[.pointer none, vint 2] ∧ L = [dkR d δ]) ∨
    (δ.dead = false ∧ openZ δ = none ∧ v = .tuple #[.pointer none, vint 80] ∧ L = [dkR d δ]) ∨ (δ.dead = false ∧ ∃ ω, openZ δ = some ω ∧ ((openLZ ω = none ∧ v = .tuple #[.pointer none, vint 80] ∧ L = [dkR d δ]) ∨ (∃ Λ g x, openLZ ω = some Λ ∧ v = .tuple #[vptr g, vint 0] ∧ L = [lgR g x Λ, wlR x d ω, dkR d δ]))) := by
 refine Fn.intro Tryz.func18 rfl rfl fun F W => ?_
 refine .sr (.a rfl (.an rfl (.sm rfl (.oq (.c Tryz.func54 [_] (open_spec d δ hn hok)) ?_))))
 rintro v L' (⟨hdd, rfl, rfl⟩ | ⟨hdd, hop, rfl, rfl⟩ | ⟨hdd, ω, hop, x, rfl, rfl⟩)
 ·refine .m rfl (.u (.extract rfl rfl) (.u (.extract rfl rfl) (.a rfl (.an rfl (.seq (.block (.sm rfl (.q (.as (v' := .bool false) (by rfl) (.int rfl rfl rfl)) rfl (.an rfl (.condF rfl (.sm rfl (.q (.as (v' := .bool true) (by rfl) (.int rfl rfl rfl)) rfl (.an rfl (.condT rfl (.sm rfl (.a rfl (.an rfl (.ret (.blk_r (.then_r ?_))))))))))))))))))))
  exact .dn rfl rfl (.inl ⟨hdd, rfl, rfl⟩)
 ·refine .m rfl (.u (.extract rfl rfl) (.u (.extract rfl rfl) (.a rfl (.an rfl (.seq (.block (.sm rfl (.q (.as (v' := .bool true) (by rfl) (.int rfl rfl rfl)) rfl (.an rfl (.condT rfl (.sr (.a rfl (.an rfl (.ret (.blk_r (.then_r ?_))))))))))))))))
  exact .dn rfl rfl (.inr (.inl ⟨hdd, hop, rfl, rfl⟩))
 obtain ⟨hr1, hr2, hr3⟩ := hrs ω hop
 refine .m rfl (.u (.extract rfl rfl) (.u (.extract rfl rfl) (.a rfl (.an rfl (.seq (.block (.sm rfl (.q (.as (v' := .bool false) (by rfl) (.int rfl rfl rfl)) rfl (.an rfl (.condF rfl (.sm rfl (.q (.as (v' := .bool false) (by rfl) (.int rfl rfl rfl)) rfl (.an rfl (.condF rfl (.skip (.blk_n (.then_n (.sm rfl (.cv Tryz.func55 [_] (wmarks_spec x d ω) ?_)))))))))))))))))))
 refine .m rfl (.u (.extract rfl rfl) (.u (.extract rfl rfl) (.a rfl (.an rfl (.sm rfl (.m rfl (.q (.build (us := [(0, _), (1, _)]) fl_76 ze_76 rfl rfl (by simp [isCell])) rfl (.m rfl (.q (.buildN (pl := [(0, 2), (2, 1), (3, 1), (4, 1), (5, 1), (6, 1), (7, 1)]) (us := [(0, _), (1, _)]) (cells := [vint ω.a, vint ω.b, vptr x, vint 0, vstr [], .slice none 0 0, .slice none 0 0, .bool false]) Tryz.underlying79 (by kernel_rfl) ze_79 rfl rfl) rfl (.oq (.box rfl) ?_))))))))))
 rintro v L' ⟨g, rfl, rfl⟩
 refine .a rfl (.nil (.ptCast (b := g) (l' := [vint ω.a, vint ω.b, vptr x, vint 0, vstr [], .slice none 0 0, .slice none 0 0, .bool false]) (by repeat' constructor) rfl (.add (slR_nil 9 1) (.add (slR_nil 3 1) (.lgFold (g := g) (x := x) (ea := none) (ec := 0) (za := none) (zc := 0) (es := []) (zs := []) ⟨ω.a, ω.b, 0, [], [], [], false⟩ (by repeat' constructor) rfl rfl rfl rfl rfl (.then_n (.sm rfl (.oq (.c Tryz.func56 [_] (wrecords_spec x d ω (by omega))) ?_))))))))
 rintro v L' (⟨h, -, -⟩ | ⟨-, aR, cR, rfl, rfl⟩); · rw [hr1] at h; cases h
 refine .m rfl (.u (.extract rfl rfl) (.u (.extract rfl rfl) (.a rfl (.an rfl (.seq (.sm rfl (.ui rfl rfl rfl (.m rfl (.dec (t := 41) rfl (fun h9_41 => ?_) (fun h9_41 => ?_))))))))))
 ·refine .kDT (t := 40) rfl h9_41 (.gk (.gk (.gk (.u (.pickT rfl rfl) (.m rfl (.gk (.gk (.gk (.gk (.u (.pickT rfl rfl) (.nt (.condT rfl (.sr (.a rfl (.an rfl (.rt ?_))))))))))))))))
  exact .dn rfl rfl (.inr (.inr ⟨hdd, ω, hop, .inl ⟨by unfold openLZ; rw [if_pos (.inl h9_41)], rfl, rfl⟩⟩))
 refine .kDF (t := 40) rfl h9_41 (.grun (t := 41) rfl rfl rfl (.m rfl (.grun (t := 41) rfl rfl rfl (.m rfl (.grun (t := 41) rfl rfl rfl (.ui rfl rfl rfl (.u (.pickF rfl rfl) (.m rfl (.dec (t := 46) rfl (fun h9_46 => ?_) (fun h9_46 => ?_))))))))))
 ·refine .kDT (t := 44) rfl h9_46 (.kDT (t := 45) rfl h9_46 (.gk (.gk (.gk (.gk (.u (.pickT rfl rfl) (.nt (.condT rfl (.sr (.a rfl (.an rfl (.rt ?_))))))))))))
  exact .dn rfl rfl (.inr (.inr ⟨hdd, ω, hop, .inl ⟨by unfold openLZ; rw [if_pos (.inr h9_46)], rfl, rfl⟩⟩))
 refine .kDF (t := 44) rfl h9_46 (.kDF (t := 45) rfl h9_46 (.grun (t := 46) rfl rfl rfl (.m rfl (.grun (t := 46) rfl rfl rfl (.m rfl (.grun (t := 46) rfl rfl rfl (.oq (.c Tryz.func57 [_, _] (lparse_spec g x ω.a ω.b (.slice aR ω.recs.length cR) ω.recs (strR (.slice aR ω.recs.length cR) ω.recs) (fun h hp => slR_rd hp) hr2 hr3)) ?_)))))))
 rintro v L' ⟨Λ, ok, hpy, hpn, rfl, rfl⟩
 refine .grun (t := 46) rfl rfl rfl (.u (.not rfl) (.u (.pickF rfl rfl) (.nt (.condB rfl (fun h51 => ?_) (fun h51 => ?_)))))
 ·refine .sr (.a rfl (.an rfl (.rt ?_)))
  exact .dn rfl rfl (.inr (.inr ⟨hdd, ω, hop, .inl ⟨by unfold openLZ; rw [if_neg (by rintro (g1 | g1); exact h9_41 g1; exact h9_46 g1)]; exact hpn (by simpa using h51), rfl, rfl⟩⟩))
 refine .sk (.sm rfl (.a rfl (.an rfl (.ret ?_))))
 exact .dn rfl rfl (.inr (.inr ⟨hdd, ω, hop, .inr ⟨Λ, g, x, by unfold openLZ; rw [if_neg (by rintro (g1 | g1); exact h9_41 g1; exact h9_46 g1)]; exact hpy (by simpa using h51), rfl, rfl⟩⟩))
theorem OpSpec.preImp {P : Program} {E : Env} {o : Oper} {p p' : HP} {R : List HP} {K : Value → List HP → Prop} (hi : ∀ h, p h → p' h) (h : OpSpec P o E (p' :: R) K) : OpSpec P o E (p :: R) K := by
 intro ρ w F ha hs
 exact h ρ w F ha (sep_imp hi hs)
theorem shr32 (z : Int) : vint (z.fdiv (2 ^ min (32 : Int).toNat IntKind.i64.bits)) = vint (z / 4294967296) := by
 show vint (z.fdiv 4294967296) = _
 rw [Int.fdiv_eq_ediv_of_nonneg _ (by decide)]
theorem mk_step {all : List Int} {j : Nat} (h : j < all.length) : (all.take (j + 1)).foldl markStep [] = markStep ((all.take j).foldl markStep []) (all.getD j 0) := by
 rw [List.take_succ_eq_append_getElem h, List.foldl_append]
 simp [List.getD_eq_getElem?_getD, h]
theorem mk_0 {out : List Int} {z : Int} (h : z = 0) : markStep out z = out := by unfold markStep; rw [if_pos h]
theorem mk_same {out : List Int} {z : Int} (h : ¬ z = 0) (h2 : out ≠ []) (h3 : out.getLastD 0 / 4294967296 = z / 4294967296) : markStep out z = out.dropLast ++ [z] := by unfold markStep; rw [if_neg h, if_pos ⟨h2, h3⟩]
theorem mk_new {out : List Int} {z : Int} (h : ¬ z = 0) (h2 : out = [] ∨ ¬ out.getLastD 0 / 4294967296 = z / 4294967296) : markStep out z = out ++ [z] := by
 unfold markStep; rw [if_neg h, if_neg]
 rintro ⟨g1, g2⟩; rcases h2 with h2 | h2
 ·exact g1 h2
 ·exact h2 g2
theorem set_last {out : List Int} {i : Nat} (h : i + 1 = out.length) (z : Int) : out.set i z = out.dropLast ++ [z] := by
 obtain ⟨l, x, rfl⟩ : ∃ l x, out = l ++ [x] := ⟨out.dropLast, out.getLast (by intro g; subst g; simp at h), (List.dropLast_concat_getLast _).symm⟩
 rw [List.length_append, List.length_singleton] at h
 obtain rfl : i = l.length := by omega
 simp
theorem lastD_at {out : List Int} {i : Nat} (h : i + 1 = out.length) : out.getLastD 0 = out.getD i 0 := by
 obtain ⟨l, x, rfl⟩ : ∃ l x, out = l ++ [x] := ⟨out.dropLast, out.getLast (by intro g; subst g; simp at h), (List.dropLast_concat_getLast _).symm⟩
 rw [List.length_append, List.length_singleton] at h
 obtain rfl : i = l.length := by omega
 simp [List.getD_eq_getElem?_getD]
theorem mk_len (out : List Int) (z : Int) : (markStep out z).length ≤ out.length + 1 := by
 unfold markStep
 split
 ·omega
 ·split
  ·rw [List.length_append, List.length_dropLast, List.length_singleton]; omega
  ·rw [List.length_append, List.length_singleton]; omega
theorem mk_lens (all : List Int) (j : Nat) (h : j ≤ all.length) : ((all.take j).foldl markStep []).length ≤ j := by
 induction j with
 | zero => simp
 | succ j ih =>
  rw [mk_step (by omega)]
  have := mk_len ((all.take j).foldl markStep []) (all.getD j 0)
  have := ih (by omega)
  omega
theorem lmarks_spec (g x : Nat) (Λ : Lg) (hΛ : LgI Λ) : Fn Tryz.prog 15 #[vptr g] [lgR g x Λ] fun v L => ∃ a c, v = .slice a (marksZ Λ).length c ∧ L = [lgR g x Λ, intR v (marksZ Λ)] := by
 refine Fn.intro Tryz.func15 rfl rfl fun F W => ?_
 refine .lgOpen (by repeat' constructor) fun ea ec za zc => ?_
 have h1 := hΛ.ents
 have h2 := hΛ.same
 refine .sr (.an rfl (.seq (.add (slR_nil 3 1) (.region (.an rfl (.seq (.seq (.draw [4, 9] [[0, 1, 2, 3, 5, 6, 7, 8, 11, 4, 9, 10]] mixed (by kernel_rfl) (.go [ptc g _ _] (by repeat' constructor) (.mv rfl rfl (.nf rfl rfl rfl fo_79_2 (.kv rfl (.ld rfl ag_3) (.k rfl (.move rfl) (.k rfl (.nilp rfl) (.k rfl (.fieldAddr rfl fo_79_5) (.k rfl (.ld rfl ag_31) (.k rfl (.move rfl) (.hh rfl (.buildSlice1 (vs := [_]) el_31 ze_3 rfl rfl rfl rfl rfl (by decide)) ?_))))))))))))))))))
 rintro v L' ⟨b4, rfl, rfl⟩
 refine D.hh rfl (.preImp (p := ptc b4 [vint Λ.base] 3) (p' := slR 3 1 (.slice (some ⟨b4, 0, none⟩) 1 1) 1 [vint Λ.base]) (fun h hp => slR_pt hp rfl) (.append (n := 1) (m := Λ.zxs.length) (xs := [vint Λ.base]) (ys := ints Λ.zxs) (p := intR (.slice za Λ.zxs.length zc) Λ.zxs) rfl rfl rfl el_31 (.inl ⟨_, Tryz.underlying31⟩) ze_3 rfl rfl ?hc14 ?hr15 ?hb16 (by decide))) ?_
 case hc14 => intro y hy; obtain ⟨z, -, rfl⟩ := List.mem_map.1 hy; rfl
 case hr15 => exact fun h hp => slR_rd hp
 case hb16 => omega
 rintro v L' ⟨⟨a9, c9, rfl⟩, rfl⟩
 refine D.kv rfl (.slen rfl Tryz.underlying31 rfl) (.ph (.fin (.slShape (v := .slice a9 _ c9) (by repeat' constructor) (by omega) fun b9 cc9 e0 mb9 _ => ?_)))
 simp only [Value.slice.injEq, true_and] at e0
 obtain ⟨rfl, rfl⟩ := e0
 have hall : (Λ.base :: Λ.zxs).length = 1 + Λ.zxs.length := by rw [List.length_cons]; omega
 refine .then_n (.block (.loopK (ι := Nat × Value × (List Int)) (fun q E => (18, vint q.1) :: (3, q.2.1) :: E) (fun q => [intR q.2.1 q.2.2]) (fun q => q.1 ≤ 1 + Λ.zxs.length ∧ (∃ a c, q.2.1 = .slice a q.2.2.length c) ∧ q.2.2 = (((Λ.base :: Λ.zxs).take q.1).foldl markStep [])) (fun q => 1 + Λ.zxs.length - q.1) (0, .slice none 0 0, []) (ts := [2, 16, 17]) (.cons rfl (.cons rfl (.cons rfl (.nil)))) (⟨Nat.zero_le _, ⟨none, 0, rfl⟩, rfl⟩) ⟨rfl, rfl, rfl, rfl, rfl, trivial⟩ (by repeat' constructor) ?_))
 rintro ⟨j, u, out⟩ ⟨hj, ⟨au, cu, hu⟩, ho⟩
 dsimp only
 dsimp only at hj hu ho
 subst hu
 have hol : out.length ≤ j := by rw [ho]; exact mk_lens _ _ (by omega)
 refine .sr (.ui rfl rfl rfl (.nt (.seq (.condD rfl (fun h19 => ?_) (fun h19 => ?_)))))
 ·refine .sk (.seq (.block (.sr (.q (.indexAddr rfl rfl el_31 (by omega)) rfl (.q (.loadEl (p := slR 3 1 (.slice (some ⟨b9, 0, none⟩) (1 + Λ.zxs.length) c9) (1 + Λ.zxs.length) ([vint Λ.base] ++ ints Λ.zxs)) (i := j * 1) (v := vint ((Λ.base :: Λ.zxs).getD j 0)) rfl ag_3 (by repeat' constructor) (fun h hp => slR_rd hp) (by have hjl : j < (Λ.base :: Λ.zxs).length := (by omega); rw [show [vint Λ.base] ++ ints Λ.zxs = ints (Λ.base :: Λ.zxs) from rfl]; simp only [ints, List.getElem?_map, Nat.mul_one, List.getElem?_eq_getElem hjl, List.getD_eq_getElem?_getD]; rfl)) rfl ?_)))))
  refine .an rfl (.sm rfl (.q (.slen rfl Tryz.underlying31 rfl) rfl (.an rfl (.block (.sm rfl (.ui rfl rfl rfl (.an rfl (.condD rfl (fun h28 => ?_) (fun h28 => ?_)))))))))
  ·refine .skip (.blk_n (.blk_n (.then_n (.region (.q (.add rfl rfl (by omega)) rfl (.m rfl (.nt ?_)))))))
   exact .rk ((j + 1, .slice au out.length cu, out)) (⟨by dsimp only; omega, ⟨_, _, rfl⟩, by dsimp only; rw [mk_step (by omega), ← ho, mk_0 h28]⟩) (by dsimp only; omega) ⟨rfl, rfl, rfl, rfl, rfl, trivial⟩
  refine .sm rfl (.ui rfl rfl rfl (.m rfl (.dec (t := 34) rfl (fun h8_34 => ?_) (fun h8_34 => ?_))))
  ·obtain ⟨i, hi⟩ : ∃ i, i + 1 = out.length := ⟨out.length - 1, by omega⟩
   refine .slShape (v := .slice au _ cu) (xs := ints out) (by repeat' constructor) (by omega) fun bu cu' e0 mbu _ => ?_
   simp only [Value.slice.injEq, true_and] at e0
   obtain ⟨rfl, rfl⟩ := e0
   refine .kDT (t := 33) rfl h8_34 (.grun (t := 34) rfl rfl rfl (.m rfl (.grun (t := 34) rfl rfl rfl (.m rfl (.grun (t := 34) rfl rfl rfl (.q (.as (v' := vint (i : Nat)) (by congr 1; omega) (.sub rfl rfl (by omega))) rfl (.grun (t := 34) rfl rfl rfl (.q (.indexAddr rfl rfl el_31 (by omega)) rfl (.grun (t := 34) rfl rfl rfl (.q (.loadEl (p := intR (.slice (some ⟨bu, 0, none⟩) out.length cu) out) (i := i * 1) (v := vint (out.getD i 0)) rfl ag_3 (by repeat' constructor) (fun h hp => slR_rd hp) (by have hil : i < out.length := (by omega); simp [ints, List.getD_eq_getElem?_getD, hil])) rfl ?_))))))))))
   refine .grun (t := 34) rfl rfl rfl (.q (.as (v' := vint (out.getD i 0 / 4294967296)) (by exact shr32 _) (.shr rfl rfl (by first | decide | omega))) rfl (.grun (t := 34) rfl rfl rfl (.m rfl (.grun (t := 34) rfl rfl rfl (.q (.as (v' := vint ((Λ.base :: Λ.zxs).getD j 0 / 4294967296)) (by exact shr32 _) (.shr rfl rfl (by first | decide | omega))) rfl (.grun (t := 34) rfl rfl rfl (.ui rfl rfl rfl (.u (.pickT rfl rfl) (.an rfl (.condD rfl (fun h31 => ?_) (fun h31 => ?_)))))))))))
   ·refine .region (.m rfl (.m rfl (.q (.as (v' := vint (i : Nat)) (by congr 1; omega) (.sub rfl rfl (by omega))) rfl (.m rfl (.q (.indexAddr rfl rfl el_31 (by omega)) rfl (.oq (.storeRd (sz := 1) (n := out.length) (c := cu) (j := i * 1) (xs := ints out) rfl rfl rfl sz_3 ?h138 ?h239) ?_))))))
    case h138 => simp
    case h239 => omega
    rintro v L' rfl
    refine .nil (.blk_n (.blk_n (.then_n (.region (.q (.add rfl rfl (by omega)) rfl (.m rfl (.nt (.slCast (T := 3) (sz := 1) (m' := (out.set i ((Λ.base :: Λ.zxs).getD j 0)).length) (xs' := ints (out.set i ((Λ.base :: Λ.zxs).getD j 0))) (by repeat' constructor) (by simp) (by simp [ints, List.map_set]) ?_))))))))
    exact .rk ((j + 1, .slice (some ⟨bu, 0, none⟩) out.length cu, out.set i ((Λ.base :: Λ.zxs).getD j 0))) (⟨by dsimp only; omega, ⟨some ⟨bu, 0, none⟩, cu, by simp⟩, by dsimp only; rw [mk_step (by omega), ← ho, mk_same h28 (by intro g; rw [g] at hi; simp at hi) (by rw [lastD_at hi]; exact h31), set_last hi]⟩) (by dsimp only; omega) ⟨rfl, rfl, rfl, rfl, rfl, trivial⟩
   refine .region (.m rfl (.m rfl (.oq (.buildSlice1 (vs := [_]) el_31 ze_3 rfl rfl rfl rfl rfl (by decide)) ?_)))
   rintro v L' ⟨b6, rfl, rfl⟩
   refine .oq (.append1 rfl rfl rfl el_31 ze_3 rfl rfl ?c45 ?c46 (Nat.le_refl _) ?c47 (by decide)) ?_
   case c45 => (first | (simp [isCell]; done) | (simp [isCell, setAll, Value.cells]; done))
   case c46 => rfl
   case c47 => omega
   rintro v L' ⟨⟨a6, c6, rfl⟩, rfl⟩
   refine .a rfl (.nil (.blk_n (.blk_n (.then_n (.region (.q (.add rfl rfl (by omega)) rfl (.m rfl (.nt (.slCast (T := 3) (sz := 1) (m' := (out ++ [(Λ.base :: Λ.zxs).getD j 0]).length) (xs' := ints (out ++ [(Λ.base :: Λ.zxs).getD j 0])) (by repeat' constructor) (by simp) (by simp [ints, Value.cells]) ?_)))))))))
   exact .rk ((j + 1, .slice a6 (out.length + 1) c6, out ++ [(Λ.base :: Λ.zxs).getD j 0])) (⟨by dsimp only; omega, ⟨a6, c6, by simp⟩, by dsimp only; rw [mk_step (by omega), ← ho, mk_new h28 (.inr (by rw [lastD_at hi]; exact h31))]⟩) (by dsimp only; omega) ⟨rfl, rfl, rfl, rfl, rfl, trivial⟩
  refine .kDF (t := 33) rfl h8_34 (.gk (.gk (.gk (.gk (.gk (.gk (.gk (.gk (.gk (.u (.pickF rfl rfl) (.an rfl (.condF rfl (.region (.m rfl (.m rfl (.oq (.buildSlice1 (vs := [_]) el_31 ze_3 rfl rfl rfl rfl rfl (by decide)) ?_))))))))))))))))
  rintro v L' ⟨b6, rfl, rfl⟩
  refine .oq (.append1 rfl rfl rfl el_31 ze_3 rfl rfl ?c55 ?c56 (Nat.le_refl _) ?c57 (by decide)) ?_
  case c55 => (first | (simp [isCell]; done) | (simp [isCell, setAll, Value.cells]; done))
  case c56 => rfl
  case c57 => omega
  rintro v L' ⟨⟨a6, c6, rfl⟩, rfl⟩
  refine .a rfl (.nil (.blk_n (.blk_n (.then_n (.region (.q (.add rfl rfl (by omega)) rfl (.m rfl (.nt (.slCast (T := 3) (sz := 1) (m' := (out ++ [(Λ.base :: Λ.zxs).getD j 0]).length) (xs' := ints (out ++ [(Λ.base :: Λ.zxs).getD j 0])) (by repeat' constructor) (by simp) (by simp [ints, Value.cells]) ?_)))))))))
  exact .rk ((j + 1, .slice a6 (out.length + 1) c6, out ++ [(Λ.base :: Λ.zxs).getD j 0])) (⟨by dsimp only; omega, ⟨a6, c6, by simp⟩, by dsimp only; rw [mk_step (by omega), ← ho, mk_new h28 (.inl (List.eq_nil_of_length_eq_zero (by omega)))]⟩) (by dsimp only; omega) ⟨rfl, rfl, rfl, rfl, rfl, trivial⟩
 have hje : j = 1 + Λ.zxs.length := by omega
 have hoz : out = marksZ Λ := by rw [ho, hje]; unfold marksZ; rw [List.take_of_length_le (by omega)]
 subst hoz
 refine .exit (.then_e (.then_e (.blk_e (.then_n (.sm rfl (.oq (.c Tryz.func52 [_] (clipI_spec _ _ _)) ?_))))))
 rintro v L' ⟨⟨ac, cc, rfl⟩, rfl⟩
 refine .an rfl (.ret (.lf (g := g) (x := x) (ea := ea) (ec := ec) (za := za) (zc := zc) (m := Λ.ents.length) (k := Λ.zxs.length) Λ ?_))
 exact .dn rfl rfl ⟨_, _, rfl, rfl⟩
def behindT (Λ : Lg) (z : Int) (j : Nat) : List En := (((Λ.ents.zip Λ.zxs).take j).filter fun q => decide (q.2 > z)).map entAt
theorem behind_step {Λ : Lg} {z : Int} {j : Nat} (h1 : j < Λ.ents.length) (h2 : j < Λ.zxs.length) : behindT Λ z (j + 1) = if Λ.zxs.getD j 0 > z then behindT Λ z j ++ [entAt (Λ.ents.getD j [], Λ.zxs.getD j 0)] else behindT Λ z j := by
 have hz : j < (Λ.ents.zip Λ.zxs).length := by rw [List.length_zip]; omega
 unfold behindT
 rw [List.take_succ_eq_append_getElem hz, List.filter_append, List.map_append]
 have e : (Λ.ents.zip Λ.zxs)[j] = (Λ.ents.getD j [], Λ.zxs.getD j 0) := by simp [List.getD_eq_getElem?_getD, h1, h2]
 rw [e]
 split
 ·rename_i g
  rw [List.filter_cons_of_pos (by simpa using g)]; rfl
 ·rename_i g
  rw [List.filter_cons_of_neg (by simpa using g)]; simp
theorem enK0 : EnK en0 := ⟨⟨rfl, rfl⟩, fun y hy => by cases hy⟩
theorem GotZ.at {s : Bs} {e : En} {er : Int} (h : GotZ s e er) (z : Int) : e.pl = entAt (s, z) ∧ EnK e := by
 unfold entAt
 rcases h with ⟨-, h1, h2⟩ | ⟨-, h1, rfl⟩
 ·exact ⟨by dsimp only; rw [h1]; rfl, h2⟩
 ·exact ⟨by dsimp only; rw [h1]; rfl, enK0⟩
theorem lentries_spec (g x : Nat) (Λ : Lg) (z : Int) (hΛ : LgI Λ) : Fn Tryz.prog 16 #[vptr g, vint z] [lgR g x Λ] fun v L => (z < Λ.base ∧ v = .tuple #[.slice none 0 0, vint 81] ∧ L = [lgR g x Λ]) ∨ (¬ z < Λ.base ∧ ∃ es : List En, es.map En.pl = behindL Λ z ∧ (∀ e ∈ es, EnK e) ∧ ∃ a c, v = .tuple #[.slice a es.length c, vint 0] ∧ L = [lgR g x Λ, slR 38 11 (.slice a es.length c) es.length (es.flatMap enC), bigR entR es]) := by
 refine Fn.intro Tryz.func16 rfl rfl fun F W => ?_
 refine .lgOpen (by repeat' constructor) fun ea ec za zc => ?_
 have h1 := hΛ.ents
 have h2 := hΛ.same
 refine .sr (.a rfl (.an rfl (.seq (.sm rfl (.m rfl (.nf rfl fo_79_2 (.u (.ld rfl ag_3) (.ui rfl rfl rfl (.nt (.condD rfl (fun h16 => ?_) (fun h16 => ?_)))))))))))
 ·refine .sr (.a rfl (.an rfl (.rt (.lf (g := g) (x := x) (ea := ea) (ec := ec) (za := za) (zc := zc) (m := Λ.ents.length) (k := Λ.zxs.length) Λ ?_))))
  exact .dn rfl rfl (.inl ⟨h16, rfl, rfl⟩)
 refine .sk (.seq (.add (slR_nil 38 11) (.add (p := bigR entR []) (fun h => big_nil h) (.region (.an rfl (.seq (.sm rfl (.nf rfl fo_79_4 (.u (.ld rfl ag_46) (.q (.slen rfl Tryz.underlying46 rfl) rfl (.m rfl (.nt (.block (.loopK (ι := Nat × Value × (List En)) (fun q E => (22, vint q.1) :: (6, q.2.1) :: E) (fun q => [slR 38 11 q.2.1 q.2.2.length (q.2.2.flatMap enC), bigR entR q.2.2]) (fun q => q.1 ≤ Λ.ents.length ∧ (∃ a c, q.2.1 = .slice a q.2.2.length c) ∧ q.2.2.map En.pl = behindT Λ z q.1 ∧ (∀ e ∈ q.2.2, EnK e) ∧ q.2.2.length ≤ q.1) (fun q => Λ.ents.length - q.1) (0, .slice none 0 0, []) (ts := [0, 1, 4, 5, 20, 21]) (.cons rfl (.cons rfl (.cons rfl (.cons rfl (.cons rfl (.cons rfl (.nil))))))) (⟨Nat.zero_le _, ⟨none, 0, rfl⟩, rfl, (fun e he => by cases he), Nat.le_refl _⟩) ⟨rfl, rfl, rfl, rfl, rfl, rfl, rfl, rfl, trivial⟩ (by repeat' constructor) ?_))))))))))))))
 rintro ⟨j, u, es⟩ ⟨hj, ⟨au, cu, hu⟩, hes, hek, hel⟩
 dsimp only
 dsimp only at hj hu hes hek hel
 subst hu
 refine .sr (.ui rfl rfl rfl (.nt (.seq (.condD rfl (fun h23 => ?_) (fun h23 => ?_)))))
 ·have hj2 : j < Λ.ents.length := by omega
  have hjz : j < Λ.zxs.length := by omega
  refine .slShape (v := .slice ea _ ec) (xs := strs Λ.ents) (by repeat' constructor) (by omega) fun be ce' e0 mbe _ => ?_
  simp only [Value.slice.injEq, true_and] at e0
  obtain ⟨rfl, rfl⟩ := e0
  refine .slShape (v := .slice za _ zc) (xs := ints Λ.zxs) (by repeat' constructor) (by omega) fun bz cz e0 mbz _ => ?_
  simp only [Value.slice.injEq, true_and] at e0
  obtain ⟨rfl, rfl⟩ := e0
  have hsl : (Λ.ents.getD j []).length ≤ 1073741824 := by rw [List.getD_eq_getElem?_getD, List.getElem?_eq_getElem hj2]; exact hΛ.each _ (List.getElem_mem hj2)
  refine .sk (.seq (.block (.sm rfl (.q (.indexAddr rfl rfl el_46 (by omega)) rfl (.q (.loadEl (p := strR (.slice (some ⟨be, 0, none⟩) Λ.ents.length ec) Λ.ents) (i := j * 1) (v := vstr (Λ.ents.getD j [])) rfl ag_9 (by repeat' constructor) (fun h hp => slR_rd hp) (by simp [strs, List.getD_eq_getElem?_getD, hj2])) rfl ?_)))))
  refine .a rfl (.an rfl (.sm rfl (.nf rfl fo_79_5 (.u (.ld rfl ag_31) (.m rfl (.q (.indexAddr rfl rfl el_31 (by omega)) rfl (.q (.loadEl (p := intR (.slice (some ⟨bz, 0, none⟩) Λ.zxs.length zc) Λ.zxs) (i := j * 1) (v := vint (Λ.zxs.getD j 0)) rfl ag_3 (by repeat' constructor) (fun h hp => slR_rd hp) (by simp [ints, List.getD_eq_getElem?_getD, hjz])) rfl ?_)))))))
  refine .m rfl (.ui rfl rfl rfl (.nt (.condD rfl (fun h35 => ?_) (fun h35 => ?_))))
  ·refine .sm rfl (.oq (.c Tryz.func53 [_] (wget_spec (Λ.ents.getD j []) (by omega))) ?_)
   rintro v L' ⟨ge, er, hge, rfl, rfl⟩
   refine .m rfl (.u (.extract rfl rfl) (.u (.extract rfl rfl) (.oq (.allocA ze_38) ?_)))
   rintro v L' ⟨b9, rfl, rfl⟩
   refine .oq (.storeA rfl rfl ?c36 sz_38 ?c39 ?c37 (nfz0 _ _)) ?_
   case c36 => exact hge.cells
   case c39 => rfl
   case c37 => simp [enC, ptC]
   rintro v L' rfl
   refine .a rfl (.nil (.ptCast (b := b9) (l' := enC ge) (by repeat' constructor) (by exact rfl) (.then_n (.region (.m rfl (.q (.loadAs (vs := enC ge) rfl ag_38 (by repeat' constructor) (by simp [enC, ptC]) rfl) rfl (.oq (.buildSlice (vs := [_]) el_22 ze_38 rfl rfl rfl rfl (by first | (simp [Value.cells]; done) | (intro v hv; simp only [List.mem_cons, List.not_mem_nil, or_false] at hv; (repeat (first | (subst hv; rfl) | (rcases hv with hv | hv; (subst hv; rfl)))))) (by decide)) ?_)))))))
   rintro v L' ⟨b10, rfl, rfl⟩
   refine .oq (.append1 rfl rfl rfl el_22 ze_38 rfl rfl ?c45 ?c46 (Nat.le_refl _) ?c47 (by decide)) ?_
   case c45 => simp only [List.map_cons, List.map_nil, List.flatten_cons, List.flatten_nil, List.append_nil]; simp only [Value.cells]; intro z hz; exact hge.cells z (by simpa using hz)
   case c46 => rfl
   case c47 => omega
   rintro v L' ⟨⟨a6, c6, rfl⟩, rfl⟩
   refine .a rfl (.nil (.blk_n (.then_n (.region (.q (.add rfl rfl (by omega)) rfl (.m rfl (.nt (.bigAdd (f := entR) (l := es) (p := entR ge) ge rfl (by repeat' constructor) (.slCast (T := 38) (sz := 11) (m' := (es ++ [ge]).length) (xs' := (es ++ [ge]).flatMap enC) (by repeat' constructor) (by simp) (by rw [List.flatMap_append]; simp [Value.cells]) ?_)))))))))
   exact .rk ((j + 1, .slice a6 (es.length + 1) c6, es ++ [ge])) (⟨by dsimp only; omega, ⟨a6, c6, by simp⟩, by dsimp only; rw [behind_step (by omega) (by omega), if_pos h35, List.map_append, hes, ← (hge.at (Λ.zxs.getD j 0)).1]; rfl, (fun e he => by rcases List.mem_append.1 he with he | he; exact hek e he; rw [List.mem_singleton] at he; subst he; exact (hge.at 0).2), by dsimp only; rw [List.length_append, List.length_singleton]; omega⟩) (by dsimp only; omega) ⟨rfl, rfl, rfl, rfl, rfl, rfl, rfl, rfl, trivial⟩
  refine .skip (.blk_n (.then_n (.region (.q (.add rfl rfl (by omega)) rfl (.m rfl (.nt ?_))))))
  exact .rk ((j + 1, .slice au es.length cu, es)) (⟨by dsimp only; omega, ⟨au, cu, rfl⟩, by dsimp only; rw [behind_step (by omega) (by omega), if_neg h35]; exact hes, hek, by dsimp only; omega⟩) (by dsimp only; omega) ⟨rfl, rfl, rfl, rfl, rfl, rfl, rfl, rfl, trivial⟩
 have hje : j = Λ.ents.length := by omega
 have hes2 : es.map En.pl = behindL Λ z := by rw [hes, hje]; unfold behindT behindL; rw [List.take_of_length_le (by rw [List.length_zip]; omega)]
 refine .exit (.then_e (.then_e (.blk_e (.then_n (.sm rfl (.a rfl (.an rfl (.ret (.lf (g := g) (x := x) (ea := ea) (ec := ec) (za := za) (zc := zc) (m := Λ.ents.length) (k := Λ.zxs.length) Λ ?_)))))))))
 exact .dn rfl rfl (.inr ⟨h16, es, hes2, hek, _, _, rfl, rfl⟩)
theorem well_setm {δ : Dk} {ω : Wl} {N : Int} (h : Well δ ω N) (a b : Int) : Well (setmZ δ ω a b).1 (setmZ δ ω a b).2.1 (N + 2000000) ∧ (setmZ δ ω a b).1.now.length = δ.now.length ∧
  ((∃ c, (setmZ δ ω a b).2 = ({ ω with a := a, b := b, count := c }, 0)) ∨ (∃ e, (e = 1 ∨ e = 30) ∧ setmZ δ ω a b = (δ, ω, e))) := by
 have hk := kept_setm h a b
 refine ⟨hk.well, hk.len, ?_⟩
 unfold setmZ
 rw [if_neg (by rw [h.doubt]; decide)]
 split
 ·exact .inr ⟨1, .inl rfl, rfl⟩
 ·split
  ·exact .inr ⟨30, .inr rfl, rfl⟩
  ·obtain ⟨n1, -, -⟩ := al_next h.al h.size.1 (ω.mark ω.area (ω.recs.take ω.synced.toNat) a b)
   rw [if_neg (by rw [n1]; exact fun g => g rfl)]
   exact .inl ⟨_, rfl⟩
theorem well_sync {δ : Dk} {ω : Wl} {N : Int} (h : Well δ ω N) : Well (syncZ δ ω).1 (syncZ δ ω).2.1 (N + 2000000) ∧ (syncZ δ ω).1.now.length = δ.now.length ∧
  ((∃ c, (syncZ δ ω).2 = ({ ω with synced := ω.recs.length, count := c }, 0)) ∨ syncZ δ ω = (δ, ω, 30)) := by
 have hk := kept_sync h
 refine ⟨hk.well, hk.len, ?_⟩
 unfold syncZ
 rw [if_neg (by rw [h.doubt]; decide)]
 split
 ·rename_i hs
  refine .inl ⟨ω.count, ?_⟩
  rw [← hs]
 ·split
  ·exact .inr rfl
  ·rename_i hc
   obtain ⟨e, -, -⟩ := well_seal h hc h.area h.fits h.al rfl (by have := h.acts; omega)
   rw [e]; exact .inl ⟨_, rfl⟩
structure LKept (s : Ld) (N : Int) (r : Ld × Int) : Prop where
 well : LWell r.1 (N + 4000000)
 len : r.1.δ.now.length = s.δ.now.length
 bad : r.2 ≠ 0 → r.1.Λ = s.Λ
 live : r.2 ≠ 2
theorem LKept.same {s : Ld} {N : Int} (h : LWell s N) {e : Int} (he : e ≠ 2) : LKept s N (s, e) := ⟨h.more (by omega), rfl, fun _ => rfl, he⟩
theorem metE_ne {e : Int} (h : e = 33 ∨ e = 30 ∨ e = 1) : metE e ≠ 0 ∧ metE e ≠ 2 := by rcases h with rfl | rfl | rfl <;> exact ⟨by decide, by decide⟩
theorem met_same {Λ : Lg} {e : Int} (h : e ≠ 2) : Λ.met e = Λ := by unfold Lg.met; rw [if_neg h]
theorem lk_sync {s : Ld} {N : Int} (h : LWell s N) : LWell (lgSync s).1 (N + 2000000) ∧ (lgSync s).1.δ.now.length = s.δ.now.length ∧ (lgSync s).1.Λ = s.Λ ∧ (lgSync s).2 ≠ 2 ∧ ((lgSync s).2 = 0 → (lgSync s).1.ω.synced = s.ω.recs.length ∧ (lgSync s).1.ω.recs = s.ω.recs) := by
 unfold lgSync
 rw [if_neg (by rw [h.live]; decide)]
 obtain ⟨w1, w2, w3⟩ := well_sync h.well
 obtain ⟨⟨δ1, ω1, e1⟩, hq⟩ : ∃ r, syncZ s.δ s.ω = r := ⟨_, rfl⟩
 rw [hq] at w1 w2 w3 ⊢
 dsimp only at w1 w2 w3
 rcases w3 with ⟨c, g⟩ | g
 ·cases g
  exact ⟨⟨w1, h.w, h.live, h.recs, h.a, h.b⟩, w2, rfl, by show metE 0 ≠ 2; decide, fun _ => ⟨rfl, rfl⟩⟩
 ·cases g
  exact ⟨⟨w1, h.w, h.live, h.recs, h.a, h.b⟩, w2, rfl, by show metE 30 ≠ 2; decide, fun g => absurd (show metE 30 = 0 from g) (by decide)⟩
theorem lk_accept {s : Ld} {N : Int} (h : LWell s N) (n : Int) : LKept s N (lgAccept s n) ∧ s.Λ.acc ≤ (lgAccept s n).1.Λ.acc ∧ (lgAccept s n).1.Λ.cur = s.Λ.cur := by
 unfold lgAccept
 rw [if_neg (by rw [h.live]; decide)]
 split
 ·exact ⟨.same h (by decide), Int.le_refl _, rfl⟩
 split
 ·exact ⟨.same h (by decide), Int.le_refl _, rfl⟩
 rename_i h1 h2
 obtain ⟨w1, w2, w3⟩ := well_setm h.well n s.Λ.cur
 obtain ⟨⟨δ1, ω1, e1⟩, hq⟩ : ∃ r, setmZ s.δ s.ω n s.Λ.cur = r := ⟨_, rfl⟩
 rw [hq] at w1 w2 w3 ⊢
 dsimp only at w1 w2 w3
 have he := h.w.eps
 rcases w3 with ⟨c, g⟩ | ⟨e, hee, g⟩
 ·cases g
  rw [if_pos (by show metE 0 = 0; decide)]
  exact ⟨⟨⟨w1.more (by omega), ⟨h.w.few, h.w.each, h.w.base, h.w.snap, h.w.rows, ⟨he.1, by show s.Λ.cur ≤ n; omega, by show n ≤ _; omega⟩⟩, h.live, h.recs, rfl, rfl⟩, w2, fun g => absurd rfl g, by show (0 : Int) ≠ 2; decide⟩, by show s.Λ.acc ≤ n; omega, rfl⟩
 ·cases g
  obtain ⟨m1, m2⟩ := metE_ne (e := e1) (by omega)
  rw [if_neg (show ¬ (metL s.Λ (s.δ, s.ω, e1)).2 = 0 from m1)]
  have hm : s.Λ.met e1 = s.Λ := met_same (by omega)
  exact ⟨⟨⟨w1.more (by omega), by show LgW (s.Λ.met e1); rw [hm]; exact h.w, by show (s.Λ.met e1).doubt = false; rw [hm]; exact h.live, by show s.ω.recs = headL (s.Λ.met e1).base (s.Λ.met e1).snap ++ (s.Λ.met e1).ents; rw [hm]; exact h.recs, by show s.ω.a = (s.Λ.met e1).acc; rw [hm]; exact h.a, by show s.ω.b = (s.Λ.met e1).cur; rw [hm]; exact h.b⟩, w2, fun _ => hm, m2⟩, by show s.Λ.acc ≤ (s.Λ.met e1).acc; rw [hm]; exact Int.le_refl _, by show (s.Λ.met e1).cur = s.Λ.cur; rw [hm]⟩
theorem lk_adopt2 {s : Ld} {N : Int} (h : LWell s N) (n : Int) (hn : s.Λ.cur ≤ n ∧ n ≤ s.Λ.acc) : LWell (lgAdopt2 s n).1 (N + 2000000) ∧ (lgAdopt2 s n).1.δ.now.length = s.δ.now.length ∧ (lgAdopt2 s n).2 ≠ 2 ∧ (((lgAdopt2 s n).2 = 0 ∧ (lgAdopt2 s n).1.Λ = s.Λ.setCur n) ∨ ((lgAdopt2 s n).2 ≠ 0 ∧ (lgAdopt2 s n).1.Λ = s.Λ)) := by
 unfold lgAdopt2
 obtain ⟨w1, w2, w3⟩ := well_setm h.well s.Λ.acc n
 obtain ⟨⟨δ1, ω1, e1⟩, hq⟩ : ∃ r, setmZ s.δ s.ω s.Λ.acc n = r := ⟨_, rfl⟩
 rw [hq] at w1 w2 w3 ⊢
 dsimp only at w1 w2 w3
 have he := h.w.eps
 rcases w3 with ⟨c, g⟩ | ⟨e, hee, g⟩
 ·cases g
  rw [if_pos (by show metE 0 = 0; decide)]
  exact ⟨⟨w1.more (by omega), ⟨h.w.few, h.w.each, h.w.base, h.w.snap, h.w.rows, ⟨by show 0 ≤ n; omega, hn.2, he.2.2⟩⟩, h.live, h.recs, rfl, rfl⟩, w2, by show (0 : Int) ≠ 2; decide, .inl ⟨rfl, rfl⟩⟩
 ·cases g
  obtain ⟨m1, m2⟩ := metE_ne (e := e1) (by omega)
  rw [if_neg (show ¬ (metL s.Λ (s.δ, s.ω, e1)).2 = 0 from m1)]
  have hm : s.Λ.met e1 = s.Λ := met_same (by omega)
  exact ⟨⟨w1.more (by omega), by show LgW (s.Λ.met e1); rw [hm]; exact h.w, by show (s.Λ.met e1).doubt = false; rw [hm]; exact h.live, by show s.ω.recs = headL (s.Λ.met e1).base (s.Λ.met e1).snap ++ (s.Λ.met e1).ents; rw [hm]; exact h.recs, by show s.ω.a = (s.Λ.met e1).acc; rw [hm]; exact h.a, by show s.ω.b = (s.Λ.met e1).cur; rw [hm]; exact h.b⟩, w2, m2, .inr ⟨m1, hm⟩⟩
theorem lk_adopt {s : Ld} {N : Int} (h : LWell s N) (n : Int) : LKept s N (lgAdopt s n) ∧ (lgAdopt s n).1.Λ.acc = s.Λ.acc ∧ s.Λ.cur ≤ (lgAdopt s n).1.Λ.cur ∧ ((lgAdopt s n).2 = 0 → (lgAdopt s n).1.Λ = s.Λ.setCur n) := by
 unfold lgAdopt
 rw [if_neg (by rw [h.live]; decide)]
 split
 ·exact ⟨.same h (by decide), rfl, Int.le_refl _, fun g => absurd (show (82 : Int) = 0 from g) (by decide)⟩
 rename_i h1
 obtain ⟨k1, k2, k3, k4, -⟩ := lk_sync h
 split
 ·rename_i h2
  exact ⟨⟨k1.more (by omega), k2, fun _ => k3, k4⟩, by rw [k3], by rw [k3]; exact Int.le_refl _, fun g => absurd g h2⟩
 ·rename_i h2
  obtain ⟨j1, j2, j3, j4⟩ := lk_adopt2 k1 n (by rw [k3]; omega)
  rw [k3] at j4
  refine ⟨⟨j1.more (by omega), j2.trans k2, fun g => ?_, j3⟩, ?_, ?_, fun g => ?_⟩
  ·rcases j4 with ⟨g1, -⟩ | ⟨-, g2⟩
   ·exact absurd g1 g
   ·exact g2
  ·rcases j4 with ⟨-, g2⟩ | ⟨-, g2⟩ <;> rw [g2] <;> rfl
  ·rcases j4 with ⟨-, g2⟩ | ⟨-, g2⟩ <;> rw [g2]
   ·show s.Λ.cur ≤ n; omega
   ·exact Int.le_refl _
  ·rcases j4 with ⟨-, g2⟩ | ⟨g1, -⟩
   ·exact g2
   ·exact absurd g g1
theorem lk_append {s : Ld} {N : Int} (h : LWell s N) {e : En} (he : EnI e) : LKept s N (lgAppend s e) := by
 obtain ⟨w1, w2, w3⟩ := lw_append h he
 refine ⟨w1.more (by omega), w2, fun g => ?_, ?_⟩
 ·rcases w3 with ⟨g1, -⟩ | ⟨-, g2⟩
  ·exact absurd g1 g
  ·rw [g2]
 ·intro g
  rcases w3 with ⟨g1, -⟩ | ⟨-, g2⟩
  ·rw [g1] at g; cases g
  ·revert g
   unfold lgAppend
   rw [if_neg (by rw [h.live]; decide)]
   split
   ·show (1 : Int) = 2 → False; decide
   split
   ·show (81 : Int) = 2 → False; decide
   split
   ·show (83 : Int) = 2 → False; decide
   rcases (well_append h.well (enB e)).2.2 with ⟨-, -, q⟩ | ⟨-, q⟩ | ⟨-, -, q⟩
   ·obtain ⟨⟨δ1, q1⟩, hq⟩ : ∃ r, appendZ s.δ s.ω (enB e) = r := ⟨_, rfl⟩
    rw [hq] at q ⊢; dsimp only at q; subst q
    rw [if_pos (by show metE 0 = 0; decide)]
    show (0 : Int) = 2 → False; decide
   ·rw [q, if_neg (by show ¬ metE 33 = 0; decide)]; show metE 33 = 2 → False; decide
   ·rw [q, if_neg (by show ¬ metE 30 = 0; decide)]; show metE 30 = 2 → False; decide
theorem place_le {Λ : Lg} {z : Int} {n : Nat} (h : placeZ Λ z = some n) : n ≤ Λ.zxs.length ∧ (Λ.base :: Λ.zxs).getD n 0 = z := by
 unfold placeZ at h
 split at h
 ·rename_i hm
  cases h
  have := List.idxOf_lt_length_of_mem hm
  refine ⟨by omega, ?_⟩
  simp [List.getD_eq_getElem?_getD, this]
 ·split at h
  ·rename_i hb; cases h; exact ⟨Nat.zero_le _, hb.symm⟩
  ·cases h
theorem chunkF_nil : ∀ f, chunkF f [] = []
 | 0 => rfl
 | f + 1 => by unfold chunkF; rw [if_pos rfl]
theorem chunk_ar {k n : Nat} (h1 : k * 4000 ≤ n - 4000 + 3999) (g : 4000 < n) : (k + 1) * 4000 ≤ n + 3999 := by omega
theorem chunk_len : ∀ (f : Nat) (s : Bs), s.length ≤ f → (chunkF f s).length * 4000 ≤ s.length + 3999 ∧ ∀ x ∈ chunkF f s, x.length ≤ 4000
 | 0, s, h => by rw [show chunkF 0 s = [] from rfl]; exact ⟨by simp, fun x hx => by cases hx⟩
 | f + 1, s, h => by
  unfold chunkF
  split
  ·exact ⟨by simp, fun x hx => by cases hx⟩
  ·rename_i hs
   have hp : 0 < s.length := List.length_pos_iff.2 hs
   obtain ⟨h1, h2⟩ := chunk_len f (s.drop 4000) (by rw [List.length_drop]; omega)
   rw [List.length_drop] at h1
   refine ⟨?_, ?_⟩
   ·rw [List.length_cons]
    rcases Nat.lt_or_ge 4000 s.length with g | g
    ·exact chunk_ar h1 g
    ·rw [List.drop_eq_nil_of_le g, chunkF_nil f]; simp; omega
   ·intro x hx
    rcases List.mem_cons.1 hx with rfl | hx
    ·rw [List.length_take]; omega
    ·exact h2 x hx
theorem headL_len (base : Int) (snap : Bs) (h : snap.length ≤ 65536) : (headL base snap).length ≤ 18 := by
 unfold headL chunkL
 have := (chunk_len snap.length snap (Nat.le_refl _)).1
 rw [List.length_cons]; omega
theorem fits_got {e : En} (h : fitsE e = true) (hi : EnI e) : getZ (enB e) = some e.pl := by
 unfold fitsE at h
 cases hg : getZ (enB e) with
 | none => rw [hg] at h; simp at h
 | some q => rw [get_back hi hg]
theorem rises_rows : ∀ (l : List En) (b : Int), (∀ e ∈ l, EnI e) → l.all fitsE = true → Rises b (l.map (·.zx)) → RowsI b (l.map enB) (l.map (·.zx))
 | [], _, _, _, _ => trivial
 | e :: t, b, hi, hf, hr => by
  rw [List.all_cons, Bool.and_eq_true] at hf
  have h0 := hr 0 (by simp)
  refine ⟨⟨e.pl, fits_got hf.1 (hi e (List.mem_cons_self ..)), rfl⟩, h0.1, (hi e (List.mem_cons_self ..)).zx, rises_rows t e.zx (fun x hx => hi x (List.mem_cons_of_mem _ hx)) hf.2 ?_⟩
  intro j hj
  have h1 := hr (j + 1) (by simpa using hj)
  have hp : ∀ k, k < (t.map (·.zx)).length → e.zx < (t.map (·.zx)).getD k 0 := by
   intro k
   induction k with
   | zero => intro hk; have := (hr 1 (by simpa using hk)).2 (by decide); simpa using this
   | succ k ih =>
    intro hk
    have h2 := ih (by omega)
    have h3 := (hr (k + 2) (by simp at hk ⊢; omega)).2 (by omega)
    have h4 : ((e :: t).map (·.zx)).getD (k + 2 - 1) 0 = (t.map (·.zx)).getD k 0 := by simp
    have h5 : ((e :: t).map (·.zx)).getD (k + 2) 0 = (t.map (·.zx)).getD (k + 1) 0 := by simp
    rw [h4, h5] at h3; omega
  refine ⟨hp j hj, fun h0j => ?_⟩
  have h3 := h1.2 (by omega)
  have h4 : ((e :: t).map (·.zx)).getD (j + 1 - 1) 0 = (t.map (·.zx)).getD (j - 1) 0 := by
   obtain ⟨k, rfl⟩ : ∃ k, j = k + 1 := ⟨j - 1, by omega⟩
   simp
  have h5 : ((e :: t).map (·.zx)).getD (j + 1) 0 = (t.map (·.zx)).getD j 0 := by simp
  rw [h4, h5] at h3; exact h3
def anyP : HP := fun _ => True
def awe (z : Int) : En := ⟨z, 0, 0, pt0, []⟩
def la0 : Ld := ⟨(lgFormat (Dk.new 64)).1, (lgF2 (Dk.new 64)).2.1, lg0⟩
def la1 : Ld × Int := lgAccept la0 3
def la2 : Ld × Int := lgAppend la1.1 (awe 4294967297)
def la3 : Ld × Int := lgAppend la2.1 (awe 4294967298)
def la4 : Ld × Int := lgAdopt la3.1 1
def la5 : Ld × Int := lgAppend la4.1 (awe 12884901889)
theorem la_olds : la5.1.δ.old.map (·.1) = [2, 3] := by kernel_rfl
theorem sort23 : sortI [2, 3] = [2, 3] := by
 unfold sortI
 exact List.mergeSort_of_pairwise (by simp)
def la6 : Dk := { ((la5.1.δ.crash1 (fateOf [] 0) 2).crash1 (fateOf [] 1) 3) with old := [], dead := false, left := 0 }
theorem la_crash : la5.1.δ.crash [] = la6 := by
 have h : la5.1.δ.pend = [2, 3] := by unfold Dk.pend; rw [la_olds, sort23]
 unfold Dk.crash
 rw [show la5.1.δ.pend.length = 2 by rw [h]; rfl]
 show { Dk.crash1 (Dk.crash1 la5.1.δ (fateOf [] 0) (la5.1.δ.pend.getD 0 0)) (fateOf [] 1) (la5.1.δ.pend.getD 1 0) with old := [], dead := false, left := 0 } = la6
 rw [h]; rfl
theorem la_ok : (la1.2, la2.2, la3.2, la4.2, la5.2) = (0, 0, 0, 0, 0) := by kernel_rfl
theorem la_dead : la6.dead = false := by kernel_rfl
theorem la_len : la6.now.length = 64 := by kernel_rfl
theorem la_acts : la6.acts = 18 := by kernel_rfl
theorem la_open : (openZ la6).map (fun ω => ((ω.doubt, ω.recs.length, ω.recs.all fun s => decide (s.length ≤ 4000)), (ω.area, ω.count, decide (ω.synced = ω.recs.length), (laidZ ω.recs).length), (openLZ ω).map fun Λ => (lastZ Λ, Λ.acc, Λ.cur, marksZ Λ, Λ.doubt, Λ.ents.length, Λ.zxs, Λ.base, Λ.ents.all fun s => decide (s.length ≤ 4000)))) = some ((false, 3, true), (0, 5, true, 50), some (4294967298, 3, 1, [4294967298], false, 2, [4294967297, 4294967298], 0, true)) := by kernel_rfl
structure LaOpen (ω : Wl) (Λ : Lg) : Prop where
 w : openZ la6 = some ω
 l : openLZ ω = some Λ
 doubt : ω.doubt = false
 few : ω.recs.length = 3
 each : ∀ s ∈ ω.recs, s.length ≤ 4000
 i : WlI la6 ω
 synced : ω.synced = ω.recs.length
 last : lastZ Λ = 4294967298
 acc : Λ.acc = 3
 cur : Λ.cur = 1
 marks : marksZ Λ = [4294967298]
 live : Λ.doubt = false
 li : LgI Λ
theorem la_opened : ∃ ω Λ, LaOpen ω Λ := by
 have h := la_open
 rcases hw : openZ la6 with _ | ω
 ·rw [hw] at h; cases h
 rw [hw] at h
 rcases hl : openLZ ω with _ | Λ
 ·rw [Option.map_some, hl] at h; simp at h
 rw [Option.map_some, hl, Option.map_some] at h
 simp only [Option.some.injEq, Prod.mk.injEq, List.all_eq_true, decide_eq_true_eq] at h
 obtain ⟨⟨h1, h2, h3⟩, ⟨h4, h5, h6, h7⟩, h8, h9, h10, h11, h12, h13, h14, h15, h16⟩ := h
 have hl6 := la_len
 have ha6 := la_acts
 have hh : halfZ la6 = 31 := by unfold halfZ; omega
 refine ⟨ω, Λ, hw, hl, h1, h2, h3, ⟨by omega, by omega, by omega, by omega, by omega, by rw [hh, h7]; decide⟩, h6, h8, h9, h10, h11, h12, ⟨by omega, by rw [h14, h13]; rfl, fun s hs => by have := h16 s hs; omega, by rw [h15]; decide, by rw [h14]; decide⟩⟩
theorem sync_done {s : Ld} (h : s.Λ.doubt = false) (h2 : s.ω.doubt = false) (h3 : s.ω.synced = s.ω.recs.length) : lgSync s = (s, 0) := by
 unfold lgSync
 rw [if_neg (by rw [h]; decide)]
 have e : syncZ s.δ s.ω = (s.δ, s.ω, 0) := by unfold syncZ; rw [if_neg (by rw [h2]; decide), if_pos h3]
 rw [e]; rfl
theorem lgFormat_some {δ : Dk} {ω : Wl} (h : (lgFormat δ).2 = some ω) : ω = (lgF2 δ).2.1 := by
 unfold lgFormat at h
 split at h
 ·cases h
 split at h
 ·cases h
 split at h
 ·cases h
 ·cases h; rfl
theorem numB_len {z : Int} (hz : I64 z) : (numB z).length ≤ 10 := sev_len10 (zig_lt hz)
theorem awe_X {z : Int} (hz : I64 z) : EnX anyP (awe z) := by
 have hr : ∀ sz h, rdS sz h nilV 0 [] := fun sz h => .inl ⟨rfl, rfl, _, _, rfl⟩
 have i0 : I64 0 := by decide
 have hi : EnI (awe z) := ⟨hz, i0, i0, ⟨i0, i0, i0, i0, (by decide : (0 : Nat) < U64), (by decide : (0 : Nat) < U64), (by decide : (0 : Nat) < U64), fun a ha => by cases ha⟩, (by decide : (0 : Nat) < U64), fun y hy => by cases hy⟩
 refine ⟨⟨⟨hi, fun h _ => hr 2 h, fun h _ => hr 8 h, fun y hy => by cases hy⟩, ?_, ⟨Nat.zero_le _, Nat.zero_le _, fun y hy => by cases hy⟩, ⟨rfl, rfl⟩, fun y hy => by cases hy⟩, fun y hy => by cases hy⟩
 have h1 : (numB 0).length = 1 := by kernel_rfl
 have h2 : (ptB pt0).length = 7 := by kernel_rfl
 have h3 : (subsB []).length = 1 := by kernel_rfl
 have h4 := numB_len hz
 rw [enB_len]
 show ([z, 0, 0].flatMap numB).length + (ptB pt0).length + (subsB []).length ≤ _
 simp only [List.flatMap_cons, List.flatMap_nil, List.length_append, List.length_nil]
 omega
theorem la_chain : LWell la0 4000003 ∧ LWell la1.1 8000003 ∧ LWell la2.1 12000003 ∧ LWell la3.1 16000003 ∧ LWell la4.1 20000003 ∧ LWell la5.1 24000003 ∧ WlI (lgSync la3.1).1.δ (lgSync la3.1).1.ω ∧ Well (formatZ (Dk.new 64)).1 newW 3 ∧ Well (lgF1 (Dk.new 64)).1 (lgF1 (Dk.new 64)).2.1 2000003 := by
 obtain ⟨ω, f1, f2, f3, f4, f5⟩ := format_lwell (n := 64) (by decide)
 rw [lgFormat_some f1] at f2
 have h1 := (lk_accept (s := la0) f2 3).1.well
 have h2 := (lk_append (s := la1.1) h1 (e := awe 4294967297) (awe_X (by decide)).l.w.i).well
 have h3 := (lk_append (s := la2.1) h2 (e := awe 4294967298) (awe_X (by decide)).l.w.i).well
 have h4 := (lk_adopt (s := la3.1) h3 1).1.well
 have h5 := (lk_append (s := la4.1) h4 (e := awe 12884901889) (awe_X (by decide)).l.w.i).well
 exact ⟨f2, h1, h2, h3, h4, h5, (lk_sync h3).1.well.i (by decide), f4, f5⟩
theorem la_fmt : (lgFormat (Dk.new 64)).2 = some (lgF2 (Dk.new 64)).2.1 := by
 obtain ⟨ω, h, -⟩ := format_lwell (n := 64) (by decide)
 rw [h, lgFormat_some h]
theorem awake9_spec : Fn Tryz.prog 10 #[] [] fun v L => v = .bool true ∧ L = [] := by
 refine Fn.intro Tryz.func10 rfl rfl fun F W => ?_
 obtain ⟨h0, h1, h2, h3, h4, h5, hsy, hf3, hf4⟩ := la_chain
 obtain ⟨ω, Λ, hO⟩ := la_opened
 have hok := la_ok
 simp only [Prod.mk.injEq] at hok
 obtain ⟨e1, e2, e3, e4, e5⟩ := hok
 refine .add (p := anyP) (fun _ => trivial) (.add (slR_nil 3 1) (.sr (.an rfl (.sr (.oq (.c Tryz.func11 [_] (new_spec 64)) ?_)))))
 rintro v L' (⟨h, -, -⟩ | ⟨-, d, rfl, rfl⟩); · omega
 refine .m rfl (.u (.extract rfl rfl) (.u (.extract rfl rfl) (.a rfl (.an rfl (.sm rfl (.oq (.c Tryz.func12 [_] (lformat_spec d (Dk.new 64) (by decide) (hf3.i (by decide)) (hf4.i (by decide)))) ?_))))))
 rintro v L' (⟨h, -, -⟩ | ⟨ω0, g, x, hw0, rfl, rfl⟩); · rw [la_fmt] at h; cases h
 obtain rfl := lgFormat_some hw0
 rw [show lg0 = la0.Λ from rfl, show (lgF2 (Dk.new 64)).2.1 = la0.ω from rfl, show (lgFormat (Dk.new 64)).1 = la0.δ from rfl]
 refine .m rfl (.u (.extract rfl rfl) (.u (.extract rfl rfl) (.a rfl (.an rfl (.seq (.sm rfl (.q (.ptreq rfl rfl Tryz.underlying28) rfl (.m rfl (.grun (t := 25) rfl rfl rfl (.m rfl (.grun (t := 25) rfl rfl rfl (.q (.as (v' := .bool false) (by rfl) (.int rfl rfl rfl)) rfl (.u (.pickF rfl rfl) (.m rfl (.grun (t := 29) rfl rfl rfl (.m rfl (.grun (t := 29) rfl rfl rfl (.q (.as (v' := .bool false) (by rfl) (.int rfl rfl rfl)) rfl (.u (.pickF rfl rfl) (.nt (.condF rfl (.sk (.sm rfl (.oq (.c Tryz.func39 [_, _] (laccept_spec g x d la0.δ la0.ω la0.Λ 3 (h0.well.i (by decide)))) ?_))))))))))))))))))))))))
 rintro v L' ⟨rfl, rfl⟩; rw [show lgAccept ⟨la0.δ, la0.ω, la0.Λ⟩ 3 = la1 from rfl]
 refine .an rfl (.sm rfl (.q (.to (v' := .agg (enC (awe 4294967297)).toArray) (.buildN (pl := [(0, 1), (1, 1), (2, 1), (3, 8)]) (us := [(0, _)]) (cells := enC (awe 4294967297)) Tryz.underlying38 (by kernel_rfl) ze_38 rfl rfl) rfl) rfl (.oq (.c Tryz.func13 [_, _] (lappend_spec g x d la1.1.δ la1.1.ω la1.1.Λ (awe 4294967297) anyP (awe_X (by decide)) (h1.well.i (by decide)) h1.w.i)) ?_)))
 rintro v L' ⟨rfl, rfl⟩; rw [show lgAppend ⟨la1.1.δ, la1.1.ω, la1.1.Λ⟩ (awe 4294967297) = la2 from rfl]
 refine .an rfl (.sm rfl (.q (.to (v' := .agg (enC (awe 4294967298)).toArray) (.buildN (pl := [(0, 1), (1, 1), (2, 1), (3, 8)]) (us := [(0, _)]) (cells := enC (awe 4294967298)) Tryz.underlying38 (by kernel_rfl) ze_38 rfl rfl) rfl) rfl (.oq (.c Tryz.func13 [_, _] (lappend_spec g x d la2.1.δ la2.1.ω la2.1.Λ (awe 4294967298) anyP (awe_X (by decide)) (h2.well.i (by decide)) h2.w.i)) ?_)))
 rintro v L' ⟨rfl, rfl⟩; rw [show lgAppend ⟨la2.1.δ, la2.1.ω, la2.1.Λ⟩ (awe 4294967298) = la3 from rfl]
 refine .an rfl (.sm rfl (.oq (.c Tryz.func43 [_, _] (ladopt_spec g x d la3.1.δ la3.1.ω la3.1.Λ 1 (h3.well.i (by decide)) hsy)) ?_))
 rintro v L' ⟨rfl, rfl⟩; rw [show lgAdopt ⟨la3.1.δ, la3.1.ω, la3.1.Λ⟩ 1 = la4 from rfl]
 refine .an rfl (.sm rfl (.q (.to (v' := .agg (enC (awe 12884901889)).toArray) (.buildN (pl := [(0, 1), (1, 1), (2, 1), (3, 8)]) (us := [(0, _)]) (cells := enC (awe 12884901889)) Tryz.underlying38 (by kernel_rfl) ze_38 rfl rfl) rfl) rfl (.oq (.c Tryz.func13 [_, _] (lappend_spec g x d la4.1.δ la4.1.ω la4.1.Λ (awe 12884901889) anyP (awe_X (by decide)) (h4.well.i (by decide)) h4.w.i)) ?_)))
 rintro v L' ⟨rfl, rfl⟩; rw [show lgAppend ⟨la4.1.δ, la4.1.ω, la4.1.Λ⟩ (awe 12884901889) = la5 from rfl]
 refine .an rfl (.sm rfl (.oq (.c Tryz.func29 [_, _] (crash_spec d la5.1.δ (.slice none 0 0) [] (slR 3 1 (.slice none 0 0) 0 []) (fun h hp => slR_rd hp) (fun z hz => by cases hz))) ?_))
 rintro v L' ⟨rfl, rfl⟩; rw [la_crash]
 refine .nt (.seq (.dkOk (by repeat' constructor) fun hok6 => (.region (.m rfl (.oq (.c Tryz.func18 [_] (lopen_spec d la6 (by rw [la_len]; decide) hok6 (fun ω1 h1 => by rw [hO.w] at h1; cases h1; exact ⟨hO.doubt, by rw [hO.few]; decide, fun s hs => by have := hO.each s hs; omega⟩))) ?_)))))
 rintro v L' (⟨h, -, -⟩ | ⟨-, h, -, -⟩ | ⟨-, ω1, h1, ⟨h, -, -⟩ | ⟨Λ1, m, y, hl1, rfl, rfl⟩⟩); · rw [la_dead] at h; cases h
 · rw [hO.w] at h; cases h
 · rw [hO.w] at h1; cases h1; rw [hO.l] at h; cases h
 rw [hO.w] at h1; cases h1; rw [hO.l] at hl1; cases hl1
 refine .m rfl (.u (.extract rfl rfl) (.u (.extract rfl rfl) (.a rfl (.an rfl (.seq (.sm rfl (.q (.ptreq rfl rfl Tryz.underlying28) rfl (.nt (.condF rfl (.sk (.sm rfl (.oq (.c Tryz.func15 [_] (lmarks_spec m y Λ hO.li)) ?_))))))))))))
 rintro v L' ⟨am, cm, rfl, rfl⟩; rw [hO.marks]
 refine .an rfl (.seq (.slShape (v := .slice am _ cm) (xs := ints [4294967298]) (by repeat' constructor) (by decide) fun bm cm' em mbm _ => ?_))
 simp only [Value.slice.injEq, true_and] at em
 obtain ⟨rfl, rfl⟩ := em
 refine .region (.m rfl (.q (.as (v' := .bool true) (by exact congrArg Value.bool (decide_eq_true e1)) (.int rfl rfl rfl)) rfl (.m rfl (.grun (t := 59) rfl rfl rfl (.m rfl (.grun (t := 59) rfl rfl rfl (.q (.as (v' := .bool true) (by exact congrArg Value.bool (decide_eq_true e2)) (.int rfl rfl rfl)) rfl (.u (.pickT rfl rfl) (.m rfl (.grun (t := 63) rfl rfl rfl (.m rfl (.grun (t := 63) rfl rfl rfl (.q (.as (v' := .bool true) (by exact congrArg Value.bool (decide_eq_true e3)) (.int rfl rfl rfl)) rfl (.u (.pickT rfl rfl) (.m rfl (.grun (t := 67) rfl rfl rfl (.m rfl (.grun (t := 67) rfl rfl rfl (.q (.as (v' := .bool true) (by exact congrArg Value.bool (decide_eq_true e4)) (.int rfl rfl rfl)) rfl (.u (.pickT rfl rfl) (.m rfl (.grun (t := 71) rfl rfl rfl (.m rfl (.grun (t := 71) rfl rfl rfl (.q (.as (v' := .bool true) (by exact congrArg Value.bool (decide_eq_true e5)) (.int rfl rfl rfl)) rfl ?_)))))))))))))))))))))))))
 refine .u (.pickT rfl rfl) (.m rfl (.grun (t := 75) rfl rfl rfl (.m rfl (.grun (t := 75) rfl rfl rfl (.q (.as (v' := .bool true) (by rfl) (.int rfl rfl rfl)) rfl (.u (.pickT rfl rfl) (.an rfl (.sm rfl (.m rfl (.grun (t := 80) rfl rfl rfl (.m rfl (.grun (t := 80) rfl rfl rfl (.cv Tryz.func17 [_] (llast_spec m y Λ hO.li) ?_)))))))))))))
 refine .grun (t := 80) rfl rfl rfl (.q (.as (v' := .bool true) (by exact congrArg Value.bool (decide_eq_true hO.last)) (.int rfl rfl rfl)) rfl (.u (.pickT rfl rfl) (.m rfl (.grun (t := 85) rfl rfl rfl (.m rfl (.grun (t := 85) rfl rfl rfl (.u (.nilp rfl) (.grun (t := 85) rfl rfl rfl (.u (.fieldAddr rfl fo_79_0) (.grun (t := 85) rfl rfl rfl (.cv Tryz.func33 [_] (lacc_spec m y Λ) ?_)))))))))))
 refine .grun (t := 85) rfl rfl rfl (.q (.as (v' := .bool true) (by exact congrArg Value.bool (decide_eq_true hO.acc)) (.int rfl rfl rfl)) rfl (.u (.pickT rfl rfl) (.m rfl (.grun (t := 92) rfl rfl rfl (.m rfl (.grun (t := 92) rfl rfl rfl (.u (.nilp rfl) (.grun (t := 92) rfl rfl rfl (.u (.fieldAddr rfl fo_79_0) (.grun (t := 92) rfl rfl rfl (.cv Tryz.func34 [_] (lcur_spec m y Λ) ?_)))))))))))
 refine .grun (t := 92) rfl rfl rfl (.q (.as (v' := .bool true) (by exact congrArg Value.bool (decide_eq_true hO.cur)) (.int rfl rfl rfl)) rfl (.u (.pickT rfl rfl) (.m rfl (.grun (t := 99) rfl rfl rfl (.m rfl (.grun (t := 99) rfl rfl rfl (.q (.slen rfl Tryz.underlying31 rfl) rfl (.grun (t := 99) rfl rfl rfl (.q (.as (v' := .bool true) (by rfl) (.int rfl rfl rfl)) rfl (.u (.pickT rfl rfl) (.m rfl (.grun (t := 104) rfl rfl rfl (.m rfl (.grun (t := 104) rfl rfl rfl (.q (.indexAddr rfl rfl el_31 (by exact ⟨by decide, by decide⟩)) rfl (.grun (t := 104) rfl rfl rfl (.q (.loadEl (p := intR (.slice (some ⟨bm, 0, none⟩) ([4294967298] : List Int).length cm) [4294967298]) (i := 0) (v := vint 4294967298) rfl ag_3 (by repeat' constructor) (fun h hp => slR_rd hp) rfl) rfl (.grun (t := 104) rfl rfl rfl (.q (.as (v' := .bool true) (by rfl) (.int rfl rfl rfl)) rfl (.u (.pickT rfl rfl) (.m rfl (.grun (t := 110) rfl rfl rfl (.m rfl (.grun (t := 110) rfl rfl rfl ?_))))))))))))))))))))))))
 refine .oq (.c Tryz.func43 [_, _] (ladopt_spec m y d la6 ω Λ 4 hO.i (by rw [sync_done hO.live hO.doubt hO.synced]; exact hO.i))) ?_
 rintro v L' ⟨rfl, rfl⟩; rw [show (lgAdopt ⟨la6, ω, Λ⟩ 4).2 = 82 by unfold lgAdopt; dsimp only; rw [if_neg (by rw [hO.live]; decide), if_pos (.inr (by rw [hO.acc]; decide))]]
 refine .grun (t := 110) rfl rfl rfl (.q (.as (v' := .bool true) (by rfl) (.int rfl rfl rfl)) rfl (.u (.pickT rfl rfl) (.an rfl (.ret ?_))))
 exact .vv
theorem fm_cell {α : Type} {f : α → List Value} {sz k : Nat} {l : List α} {i : Nat} (hf : ∀ x ∈ l, (f x).length = sz) (hi : i < l.length) (hk : k < sz) : (l.flatMap f)[i * sz + k]? = (f l[i])[k]? := by
 have h := flatMap_at hf hi
 rw [← h, List.getElem?_take, if_pos hk, List.getElem?_drop]
theorem en_cell {l : List En} {i k : Nat} (hi : i < l.length) (hk : k < 11) : (l.flatMap enC)[i * 11 + k]? = (enC l[i])[k]? := fm_cell (f := enC) (sz := 11) (fun _ _ => rfl) hi hk
def wantF : List Int → List Int
 | [] => []
 | [z] => [z]
 | z :: y :: t => if y / 4294967296 = z / 4294967296 then wantF (y :: t) else z :: wantF (y :: t)
theorem marks_fold : ∀ (t : List Int) (out : List Int) (z : Int), (∀ y ∈ t, y ≠ 0) → t.foldl markStep (out ++ [z]) = out ++ wantF (z :: t)
 | [], out, z, _ => rfl
 | y :: t, out, z, h => by
  rw [List.foldl_cons]
  by_cases g : y / 4294967296 = z / 4294967296
  ·rw [mk_same (h y (List.mem_cons_self ..)) (by simp) (by rw [List.getLastD_concat]; exact g.symm), List.dropLast_concat, marks_fold t out y (fun x hx => h x (List.mem_cons_of_mem _ hx))]
   show _ = out ++ (if _ then _ else _); rw [if_pos g]
  ·rw [mk_new (h y (List.mem_cons_self ..)) (.inr (by rw [List.getLastD_concat]; exact fun q => g q.symm)), marks_fold t (out ++ [z]) y (fun x hx => h x (List.mem_cons_of_mem _ hx))]
   show _ = out ++ (if _ then _ else _); rw [if_neg g, List.append_assoc]; rfl
theorem marks_want {Λ : Lg} (hb : Λ.base = 0) (h : ∀ z ∈ Λ.zxs, 0 < z) : marksZ Λ = wantF Λ.zxs := by
 unfold marksZ
 rw [hb, List.foldl_cons, mk_0 rfl]
 cases hz : Λ.zxs with
 | nil => rfl
 | cons z t =>
  rw [hz] at h
  have h0 := h z (List.mem_cons_self ..)
  rw [List.foldl_cons, mk_new (by omega) (.inl rfl), marks_fold t [] z (fun y hy => by have := h y (List.mem_cons_of_mem _ hy); omega), List.nil_append]
theorem want_step {zs : List Int} {i : Nat} (h : i < zs.length) : wantF (zs.drop i) = (if i + 1 = zs.length ∨ ¬ zs.getD (i + 1) 0 / 4294967296 = zs.getD i 0 / 4294967296 then [zs.getD i 0] else []) ++ wantF (zs.drop (i + 1)) := by
 rw [List.drop_eq_getElem_cons h]
 have e : zs.getD i 0 = zs[i] := by simp [List.getD_eq_getElem?_getD, h]
 rw [e]
 rcases Nat.lt_or_ge (i + 1) zs.length with g | g
 ·have e2 : zs.getD (i + 1) 0 = zs[i + 1] := by simp [List.getD_eq_getElem?_getD, g]
  rw [e2, List.drop_eq_getElem_cons g]
  show (if zs[i + 1] / 4294967296 = zs[i] / 4294967296 then _ else _) = _
  by_cases q : zs[i + 1] / 4294967296 = zs[i] / 4294967296
  ·rw [if_pos q, if_neg (by rintro (g1 | g1); omega; exact g1 q)]; rfl
  ·rw [if_neg q, if_pos (.inr q)]; rfl
 ·rw [if_pos (.inl (by omega)), List.drop_eq_nil_of_le (by omega)]; rfl
theorem pos_at {Λ : Lg} (h : LgW Λ) {i : Nat} (hi : i < Λ.zxs.length) : Λ.base < Λ.zxs.getD i 0 := by
 have := h.rows.gt (Λ.zxs[i]) (List.getElem_mem hi)
 simpa [List.getD_eq_getElem?_getD, hi] using this
theorem ints_at {zs : List Int} {i : Nat} (h : i < zs.length) : (ints zs)[i * 1]? = some (vint (zs.getD i 0)) := by
 rw [Nat.mul_one]; simp [ints, List.getD_eq_getElem?_getD, h]
section
variable {P : Program} {E : Env} {L : List HP} {ty : TypeId}
theorem Quiet.quoU {t t' : TypeId} {x y : Operand} {a b : Int} (hx : ev E x = some (.int .u64 a)) (hy : ev E y = some (.int .u64 b)) (h0 : 0 ≤ a ∧ a < 18446744073709551616) (hb : 0 < b) :
  Quiet P ⟨none, .binOp .quo t x y t', ty, "", #[], none⟩ E L (.int .u64 (a / b)) := by
 intro ρ w ha _
 have e : a.tdiv b = a / b := Int.tdiv_eq_ediv_of_nonneg h0.1
 have h1 : a / b ≤ a := Int.ediv_le_self b h0.1
 have h2 : 0 ≤ a / b := Int.ediv_nonneg h0.1 (by omega)
 have hw : IntKind.u64.wrap (a / b) = a / b := by rw [u64wrap]; omega
 simp [execOp, ha x _ hx, ha y _ hy, eqGuard, binOp, Op.intDiv, Bind.bind, Sem.bind, Pure.pure, Sem.run, show b ≠ 0 by omega, e, hw]
theorem Quiet.remU {t t' : TypeId} {x y : Operand} {a b : Int} (hx : ev E x = some (.int .u64 a)) (hy : ev E y = some (.int .u64 b)) (h0 : 0 ≤ a) (hb : 0 < b) :
  Quiet P ⟨none, .binOp .rem t x y t', ty, "", #[], none⟩ E L (.int .u64 (a % b)) := by
 intro ρ w ha _
 have e : a.tmod b = a % b := Int.tmod_eq_emod_of_nonneg h0
 simp [execOp, ha x _ hx, ha y _ hy, eqGuard, binOp, Op.intDiv, Bind.bind, Sem.bind, Pure.pure, Sem.run, show b ≠ 0 by omega, e]
end
theorem ac_cell {l : List Ac} {i k : Nat} (hi : i < l.length) (hk : k < 2) : (l.flatMap acC)[i * 2 + k]? = (acC l[i])[k]? := fm_cell (f := acC) (sz := 2) (fun _ _ => rfl) hi hk
theorem nums_len {ns : List Int} (h : ∀ n ∈ ns, I64 n) : (ns.flatMap numB).length ≤ ns.length * 10 := by
 induction ns with
 | nil => simp
 | cons n ns ih =>
  have h1 := ih (fun x hx => h x (List.mem_cons_of_mem _ hx))
  have h2 := numB_len (h n (List.mem_cons_self ..))
  rw [List.flatMap_cons, List.length_append, List.length_cons]; omega
theorem r1zig_spec (n : Int) (hn : I64 n) : Fn Tryz.prog 196 #[vint n] [] fun v L => v = .int .u64 (zigZ n : Nat) ∧ L = [] := by
 refine Fn.intro Tryz.func196 rfl rfl fun F W => ?_
 refine .sr (.an rfl (.seq (.sm rfl (.ui rfl rfl rfl (.nt (.condD rfl (fun h4 => ?_) (fun h4 => ?_)))))))
 ·refine .sm rfl (.q (.conv rfl Tryz.underlying3 Tryz.underlying190) rfl (.q (.as (v' := .int .u64 (zigZ n : Nat)) (by exact congrArg (Value.int .u64) (by rw [u64wrap, u64wrap]; unfold zigZ; rw [if_pos (by omega)]; omega)) (.int rfl rfl rfl)) rfl (.an rfl (.rt ?_))))
  exact .vv
 refine .sk (.sm rfl (.q (.add rfl rfl (by omega)) rfl (.q (.neg rfl (by omega)) rfl (.q (.conv rfl Tryz.underlying3 Tryz.underlying190) rfl (.ui rfl rfl rfl (.q (.as (v' := .int .u64 (zigZ n : Nat)) (by exact congrArg (Value.int .u64) (by rw [u64wrap, u64wrap, u64wrap]; unfold zigZ; rw [if_neg (by omega)]; omega)) (.int rfl rfl rfl)) rfl (.an rfl (.ret ?_))))))))
 exact .vv
theorem sev_step' {u : Nat} (h : 128 ≤ u) (bs : Bs) : bs ++ [UInt8.ofNat (u % 128 + 128)] ++ sevZ (u / 128) = bs ++ sevZ u := by
 rw [sevZ.eq_1 u, if_neg (by omega), List.append_assoc]; rfl
theorem sev_last' {u : Nat} (h : ¬ 128 ≤ u) : [UInt8.ofNat u] = sevZ u := by
 rw [sevZ.eq_1 u, if_pos (by omega)]
theorem u8_of {u : Nat} (h : u < 256) : Value.int .u8 (IntKind.u8.wrap (u : Int)) = vbyte (UInt8.ofNat u) := by
 have e : IntKind.u8.wrap (u : Int) = (u : Int) := by simp [IntKind.wrap, IntKind.bits, IntKind.signed]; omega
 rw [e]; show Value.int .u8 (u : Int) = .int .u8 ((UInt8.ofNat u).toNat : Int)
 rw [u8_ofNat h]
theorem r1sev_spec (u0 : Nat) (hu : u0 < U64) : Fn Tryz.prog 195 #[.int .u64 u0] [] fun v L => v = vstr (sevZ u0) ∧ L = [] := by
 refine Fn.intro Tryz.func195 rfl rfl fun F W => ?_
 have hs10 := sev_len10 hu
 have h64 : U64 = 18446744073709551616 := rfl
 refine .sr (.an rfl (.seq (.add (slR_nil 5 1) (.region (.an rfl (.seq (.block (.loopK (ι := Nat × Value × Bs) (fun q E => (0, .int .u64 q.1) :: (3, q.2.1) :: E) (fun q => [bytR q.2.1 q.2.2]) (fun q => q.1 ≤ u0 ∧ (∃ a c, q.2.1 = .slice a q.2.2.length c) ∧ q.2.2 ++ sevZ q.1 = sevZ u0) (fun q => q.1) (u0, .slice none 0 0, []) (ts := [2]) (.cons rfl (.nil)) (⟨Nat.le_refl _, ⟨none, 0, rfl⟩, rfl⟩) ⟨rfl, rfl, rfl, trivial⟩ (by repeat' constructor) ?_))))))))
 rintro ⟨u, v, b⟩ ⟨hu0, ⟨av, cv, hv⟩, heq⟩
 dsimp only
 dsimp only at hu0 hv heq
 subst hv
 have hbl := congrArg List.length heq
 rw [List.length_append] at hbl
 have hsl := sev_len u
 refine .seq (.sm rfl (.ui rfl rfl rfl (.nt (.condD rfl (fun h5 => ?_) (fun h5 => ?_)))))
 ·refine .sk (.block (.sm rfl (.m rfl (.q (.to (v' := .int .u64 ((u % 128 : Nat) : Int)) (.remU rfl rfl (by omega) (by decide)) (by rfl)) rfl (.ui rfl rfl rfl (.q (.as (v' := vbyte (UInt8.ofNat (u % 128 + 128))) (by rw [u64wrap, show (((u % 128 : Nat) : Int) + 128) % 18446744073709551616 = ((u % 128 + 128 : Nat) : Int) by omega]; exact u8_of (by omega)) (.conv rfl Tryz.underlying190 Tryz.underlying5)) rfl (.oq (.buildSlice1 (vs := [_]) el_125 ze_5 rfl rfl rfl rfl rfl (by decide)) ?_)))))))
  rintro v L' ⟨b3, rfl, rfl⟩
  refine .oq (.append1 rfl rfl rfl el_125 ze_5 rfl rfl ?c12 ?c13 (Nat.le_refl _) ?c14 (by decide)) ?_
  case c12 => (first | (simp [isCell]; done) | (simp [isCell, setAll, Value.cells]; done))
  case c13 => rfl
  case c14 => omega
  rintro v L' ⟨⟨a3, c3, rfl⟩, rfl⟩
  refine .an rfl (.region (.m rfl (.q (.to (v' := .int .u64 ((u / 128 : Nat) : Int)) (.quoU rfl rfl (by omega) (by decide)) (by rfl)) rfl (.a rfl (.nil (.blk_n (.then_n (.slCast (T := 5) (sz := 1) (m' := (b ++ [(UInt8.ofNat (u % 128 + 128))]).length) (xs' := bysL (b ++ [(UInt8.ofNat (u % 128 + 128))])) (by repeat' constructor) (by simp) (by simp [bysL, Value.cells]) ?_))))))))
  exact .rk ((u / 128, .slice a3 (b.length + 1) c3, b ++ [(UInt8.ofNat (u % 128 + 128))])) (⟨by dsimp only; omega, ⟨a3, c3, by simp⟩, by dsimp only; rw [sev_step' (by omega)]; exact heq⟩) (by dsimp only; omega) ⟨rfl, rfl, rfl, trivial⟩
 refine .exit (.then_e (.then_e (.blk_e (.then_n (.sm rfl (.m rfl (.q (.as (v' := vbyte (UInt8.ofNat u)) (by exact u8_of (by omega)) (.conv rfl Tryz.underlying190 Tryz.underlying5)) rfl (.oq (.buildSlice1 (vs := [_]) el_125 ze_5 rfl rfl rfl rfl rfl (by decide)) ?_))))))))
 rintro v L' ⟨b5, rfl, rfl⟩
 refine .oq (.append1 rfl rfl rfl el_125 ze_5 rfl rfl ?c24 ?c25 (Nat.le_refl _) ?c26 (by decide)) ?_
 case c24 => (first | (simp [isCell]; done) | (simp [isCell, setAll, Value.cells]; done))
 case c25 => rfl
 case c26 => omega
 rintro v L' ⟨⟨a5, c5, rfl⟩, rfl⟩
 refine .an rfl (.seq (.slCast (T := 5) (sz := 1) (m' := (b ++ [(UInt8.ofNat u)]).length) (xs' := bysL (b ++ [(UInt8.ofNat u)])) (by repeat' constructor) (by simp) (by simp [bysL, Value.cells]) ?_))
 have hfin : b ++ [(UInt8.ofNat u)] = sevZ u0 := by rw [sev_last' (by omega)]; exact heq
 refine .region (.m rfl (.q (.bytesBy (cs := b ++ [(UInt8.ofNat u)]) (n := b.length + 1) (p := slR 5 1 (.slice a5 (b.length + 1) c5) (b ++ [(UInt8.ofNat u)]).length (bysL (b ++ [(UInt8.ofNat u)]))) rfl Tryz.underlying125 Tryz.underlying5 Tryz.underlying9 (fun h hp => by rw [show b.length + 1 = (b ++ [(UInt8.ofNat u)]).length by simp] at hp ⊢; exact slR_rd hp) (by repeat' constructor)) rfl (.an rfl (.ret ?_))))
 rw [hfin]
 exact .vv
theorem r1num_spec (n : Int) (hn : I64 n) : Fn Tryz.prog 165 #[vint n] [] fun v L => v = vstr (numB n) ∧ L = [] := by
 refine Fn.intro Tryz.func165 rfl rfl fun F W => ?_
 refine .sr (.an rfl (.sm rfl (.cv Tryz.func196 [_] (r1zig_spec n hn) ?_)))
 refine .cv Tryz.func195 [_] (r1sev_spec (zigZ n) (zig_lt hn)) ?_
 refine .an rfl (.ret ?_)
 exact .vv
theorem r1cnt_spec (n : Nat) (hn : n ≤ 4294967296) : Fn Tryz.prog 166 #[vint n] [] fun v L => v = vstr (cntB n) ∧ L = [] := by
 refine Fn.intro Tryz.func166 rfl rfl fun F W => ?_
 have hz : n < U64 := by unfold U64; omega
 refine .sr (.an rfl (.sm rfl (.u (.max2 rfl rfl) (.q (.as (v' := .int .u64 (n : Nat)) (by exact congrArg (Value.int .u64) (by rw [u64wrap]; omega)) (.conv rfl Tryz.underlying3 Tryz.underlying190)) rfl (.cv Tryz.func195 [_] (r1sev_spec n hz) ?_)))))
 refine .an rfl (.ret ?_)
 exact .vv
theorem r1txt_spec (s : Bs) (hs : s.length ≤ 4294900000) : Fn Tryz.prog 205 #[vstr s] [] fun v L => v = vstr (txtB s) ∧ L = [] := by
 refine Fn.intro Tryz.func205 rfl rfl fun F W => ?_
 have hc : (cntB s.length).length ≤ 10 := sev_len10 (by unfold U64; omega)
 refine .sr (.an rfl (.sm rfl (.q (.strlen rfl Tryz.underlying9 rfl) rfl (.cv Tryz.func166 [_] (r1cnt_spec s.length (by omega)) ?_))))
 refine .m rfl (.q (.concat rfl rfl (by omega)) rfl (.an rfl (.ret ?_)))
 exact .vv
theorem r2nums_spec (va : Value) (ns : List Int) (p : HP) (hp : ∀ h : Hp, p h → rdS 1 h va ns.length (ints ns)) (hi : ∀ n ∈ ns, I64 n) (hl : ns.length ≤ 1048576) : Fn Tryz.prog 137 #[va] [p] fun v L => v = vstr (ns.flatMap numB) ∧ L = [p] := by
 refine Fn.intro Tryz.func137 rfl rfl fun F W => ?_
 have hnl := nums_len hi
 refine .rdAny (p := p) hp (by repeat' constructor) fun aa ca e _ => ?_
 subst e
 refine .sr (.an rfl (.sr (.an rfl (.seq (.sr (.an rfl (.block (.loopK (ι := Nat × Bs) (fun q E => (4, vint q.1) :: (3, vstr q.2) :: E) (fun q => []) (fun q => q.1 ≤ ns.length ∧ q.2 = (ns.take q.1).flatMap numB) (fun q => ns.length - q.1) (0, []) (ts := [0, 2]) (.cons rfl (.cons rfl (.nil))) (⟨Nat.zero_le _, rfl⟩) ⟨rfl, rfl, rfl, rfl, trivial⟩ (by repeat' constructor) ?_))))))))
 rintro ⟨i, t⟩ ⟨hj, ht⟩
 dsimp only
 dsimp only at hj ht
 have hft := fm_take numB ns i
 rw [← ht] at hft
 refine .seq (.sm rfl (.m rfl (.q (.slen rfl Tryz.underlying31 rfl) rfl (.ui rfl rfl rfl (.nt (.condD rfl (fun h8 => ?_) (fun h8 => ?_)))))))
 ·have hi2 : i < ns.length := by omega
  have h64 := hi _ (List.getElem_mem hi2)
  have hb10 := numB_len h64
  refine .rdShape (p := p) hp (by repeat' constructor) (by omega) fun ba oa e => ?_
  subst e
  refine .sk (.seq (.block (.region (.m rfl (.m rfl (.m rfl (.q (.indexAddr rfl rfl el_31 (by omega)) rfl (.q (.loadEl (p := p) (i := i * 1) (v := vint ns[i]) rfl ag_3 (by repeat' constructor) hp (by rw [Nat.mul_one]; simp [ints, hi2])) rfl (.cv Tryz.func165 [_] (r1num_spec ns[i] h64) ?_)))))))))
  refine .q (.concat rfl rfl (by omega)) rfl (.a rfl (.nil (.blk_n (.then_n (.region (.m rfl (.q (.add rfl rfl (by omega)) rfl (.an rfl ?_))))))))
  exact .rk ((i + 1, t ++ numB ns[i])) (⟨by dsimp only; omega, by dsimp only; rw [fm_step numB hi2, ht]⟩) (by dsimp only; omega) ⟨rfl, rfl, rfl, rfl, trivial⟩
 have hie : i = ns.length := by omega
 have hfin : t = ns.flatMap numB := by rw [ht, hie, List.take_length]
 subst hfin
 refine .exit (.then_e (.then_e (.blk_e (.then_n (.sm rfl (.an rfl (.ret ?_)))))))
 exact .vv
theorem r2acls_spec (va : Value) (l : List Ac) (p : HP) (hp : ∀ h : Hp, p h → rdS 2 h va l.length (l.flatMap acC)) (hi : ∀ a ∈ l, AcI a) (hl : (aclB l).length ≤ 4294900000) (hn : l.length ≤ 1048576) : Fn Tryz.prog 206 #[va] [p] fun v L => v = vstr (aclB l) ∧ L = [p] := by
 refine Fn.intro Tryz.func206 rfl rfl fun F W => ?_
 refine .rdAny (p := p) hp (by repeat' constructor) fun aa ca e _ => ?_
 subst e
 have hll : (aclB l).length = (cntB l.length).length + (l.flatMap acB).length := by unfold aclB; rw [List.length_append]
 refine .sr (.an rfl (.sm rfl (.q (.slen rfl Tryz.underlying33 rfl) rfl (.cv Tryz.func166 [_] (r1cnt_spec l.length (by omega)) ?_))))
 refine .an rfl (.seq (.sr (.an rfl (.block (.loopK (ι := Nat × Bs) (fun q E => (4, vint q.1) :: (3, vstr q.2) :: E) (fun q => []) (fun q => q.1 ≤ l.length ∧ q.2 = cntB l.length ++ (l.take q.1).flatMap acB) (fun q => l.length - q.1) (0, cntB l.length) (ts := [0, 2]) (.cons rfl (.cons rfl (.nil))) (⟨Nat.zero_le _, by simp⟩) ⟨rfl, rfl, rfl, rfl, trivial⟩ (by repeat' constructor) ?_)))))
 rintro ⟨i, t⟩ ⟨hj, ht⟩
 dsimp only
 dsimp only at hj ht
 have htl : t.length = (cntB l.length).length + ((l.take i).flatMap acB).length := by rw [ht, List.length_append]
 refine .seq (.sm rfl (.m rfl (.q (.slen rfl Tryz.underlying33 rfl) rfl (.ui rfl rfl rfl (.nt (.condD rfl (fun h11 => ?_) (fun h11 => ?_)))))))
 ·have hi2 : i < l.length := by omega
  have hai := hi _ (List.getElem_mem hi2)
  have hfs := fm_stepL acB hi2
  have hab : (acB l[i]).length = (numB l[i].1).length + (txtB l[i].2).length := by unfold acB; rw [List.length_append]
  have htx : (txtB l[i].2).length = (cntB l[i].2.length).length + l[i].2.length := by unfold txtB; rw [List.length_append]
  have hn64 := hai.n
  refine .rdShape (p := p) hp (by repeat' constructor) (by omega) fun ba oa e => ?_
  subst e
  refine .sk (.seq (.block (.draw [] [[0, 1, 2, 3, 4, 5, 6, 7, 8, 9, 10, 11, 12, 13, 14, 15]] mixed (by kernel_rfl) (.go [p] (by repeat' constructor) (.mv rfl rfl (.mv rfl rfl (.mv rfl rfl (.kv rfl (.indexAddr rfl rfl el_33 (by omega)) (.kv rfl (.fieldAddr rfl fo_210_0) (.kv rfl (.loadRd (sz := 2) (j := i * 2 + 0) (p := p) (v := vint l[i].1) rfl ag_3 (by repeat' constructor) hp (by simp) ((ac_cell (k := 0) hi2 (by decide)).trans rfl)) (.m rfl (by kernel_rfl) (.c Tryz.func165 [_] (r1num_spec l[i].1 ?hn17)) (by repeat' constructor) ?_)))))))))))
  case hn17 => exact hn64
  refine D.kv rfl (.concat rfl rfl (by omega)) (.mv rfl rfl (.mv rfl rfl (.kv rfl (.indexAddr rfl rfl el_33 (by omega)) (.kv rfl (.fieldAddr rfl fo_210_1) (.kv rfl (.loadRd (sz := 2) (j := i * 2 + 1) (p := p) (v := vstr l[i].2) rfl ag_9 (by repeat' constructor) hp (by simp; omega) ((ac_cell (k := 1) hi2 (by decide)).trans rfl)) (.m rfl (by kernel_rfl) (.c Tryz.func205 [_] (r1txt_spec l[i].2 ?hb26)) (by repeat' constructor) ?_))))))
  case hb26 => omega
  refine D.kv rfl (.concat rfl rfl (by rw [List.length_append]; omega)) (.kv rfl (.assign rfl) (.ph (.fin (.blk_n (.then_n (.region (.m rfl (.q (.add rfl rfl (by omega)) rfl (.an rfl ?_)))))))))
  exact .rk ((i + 1, t ++ numB l[i].1 ++ txtB l[i].2)) (⟨by dsimp only; omega, by dsimp only; rw [fm_step acB hi2, ht]; unfold acB; simp only [List.append_assoc]⟩) (by dsimp only; omega) ⟨rfl, rfl, rfl, rfl, trivial⟩
 have hie : i = l.length := by omega
 have hfin : t = aclB l := by rw [ht, hie, List.take_length]; rfl
 subst hfin
 refine .exit (.then_e (.then_e (.blk_e (.then_n (.sm rfl (.an rfl (.ret ?_)))))))
 exact .vv
theorem r2part_spec (y : Pt) (p : HP) (hy : PtW p y) (hl : (ptB y).length ≤ 4294900000) (hn : y.acl.length ≤ 1048576) : Fn Tryz.prog 179 #[.agg (ptC y).toArray] [p] fun v L => v = vstr (ptB y) ∧ L = [p] := by
 refine Fn.intro Tryz.func179 rfl rfl fun F W => ?_
 have hpl := ptB_len y
 have hiy := hy.i
 refine .sr (.oq (.box rfl) ?_)
 rintro v L' ⟨b1, rfl, rfl⟩
 refine .a rfl (.nil (.ptCast (b := b1) (l' := ptC y) (by repeat' constructor) (by exact rfl) (.then_n (.seq (.draw [21, 22] [[0, 1, 2, 3, 4, 5, 6, 7, 8, 9, 10, 11, 12, 13, 14, 15, 16, 17, 18, 19, 20, 21, 22], [23, 24]] mixed (by kernel_rfl) (.go [ptc b1 _ _, p] (by repeat' constructor) (.k rfl (.fieldAddr rfl fo_36_0) (.k rfl (.ld rfl ag_3) (.m rfl (by kernel_rfl) (.c Tryz.func165 [_] (r1num_spec y.kind hiy.kind)) (by repeat' constructor) ?_)))))))))
 refine D.k rfl (.fieldAddr rfl fo_36_1) (.k rfl (.ld rfl ag_9) (.m rfl (by kernel_rfl) (.c Tryz.func205 [_] (r1txt_spec y.path (by omega))) (by repeat' constructor) ?_))
 refine D.k rfl (.concat rfl rfl (by simp only [List.length_append, txtB] at *; omega)) (.k rfl (.fieldAddr rfl fo_36_2) (.k rfl (.ld rfl ag_9) (.m rfl (by kernel_rfl) (.c Tryz.func205 [_] (r1txt_spec y.data (by omega))) (by repeat' constructor) ?_)))
 refine D.k rfl (.concat rfl rfl (by simp only [List.length_append, txtB] at *; omega)) (.k rfl (.fieldAddr rfl fo_36_3) (.k rfl (.ld rfl ag_33) (.m rfl (by kernel_rfl) (.c Tryz.func206 [_] (r2acls_spec y.aclV y.acl p hy.acl hiy.acl (by omega) hn)) (by repeat' constructor) ?_)))
 refine D.k rfl (.concat rfl rfl (by simp only [List.length_append, txtB] at *; omega)) (.kv rfl (.fieldAddr rfl fo_36_4) (.kv rfl (.ld rfl ag_3) (.kv rfl (.fieldAddr rfl fo_36_5) (.kv rfl (.ld rfl ag_3) (.kv rfl (.fieldAddr rfl fo_36_6) (.kv rfl (.ld rfl ag_25) (.hh rfl (.buildSlice1 (vs := [_, _, _]) el_31 ze_3 rfl rfl rfl rfl rfl (by decide)) ?_)))))))
 rintro v L' ⟨b2, rfl, rfl⟩
 refine D.hh rfl (.c Tryz.func137 [_] (r2nums_spec _ [y.own, y.num, y.err] (ptc b2 (ints [y.own, y.num, y.err]) 3) (fun h hp => slR_rd (slR_pt hp rfl)) (fun n hn => by simp only [List.mem_cons, List.not_mem_nil, or_false] at hn; rcases hn with rfl | rfl | rfl; exact hiy.own; exact hiy.num; exact hiy.err) (by simp))) ?_
 rintro v L' ⟨rfl, rfl⟩
 refine D.ph (.g0 (.kv rfl (.concat rfl rfl (by simp only [List.length_append, txtB] at *; omega)) (.kv rfl (.assign rfl) (.pf (.ret ?_)))))
 have hr : numB y.kind ++ txtB y.path ++ txtB y.data ++ aclB y.acl ++ [y.own, y.num, y.err].flatMap numB = ptB y := by unfold ptB; simp only [List.append_assoc]
 rw [hr]
 exact .vv
theorem r2txn_spec (y : Pt) (l : List Pt) (p : HP) (hy : PtW p y) (hs : ∀ h : Hp, p h → rdS 8 h y.subsV l.length (l.flatMap ptC)) (hi : ∀ z ∈ l, PtW p z ∧ z.acl.length ≤ 1048576) (hl : (ptB y).length + (subsB l).length ≤ 4294900000) (hn : y.acl.length ≤ 1048576) (hln : l.length ≤ 1048576) : Fn Tryz.prog 138 #[.agg (ptC y).toArray] [p] fun v L => v = vstr (ptB y ++ subsB l) ∧ L = [p] := by
 refine Fn.intro Tryz.func138 rfl rfl fun F W => ?_
 have hsl : (subsB l).length = (cntB l.length).length + (l.flatMap ptB).length := by unfold subsB; rw [List.length_append]
 obtain ⟨sv, hsv⟩ : ∃ sv, y.subsV = sv := ⟨_, rfl⟩
 rw [hsv] at hs
 refine .rdAny (p := p) hs (by repeat' constructor) fun aa ca e _ => ?_
 subst e
 have hyc : ptC y = [vint y.kind, vstr y.path, vstr y.data, y.aclV, vint y.own, vint y.num, vint y.err, .slice aa l.length ca] := by unfold ptC; rw [hsv]
 refine .sr (.oq (.box rfl) ?_)
 rintro v L' ⟨b1, rfl, rfl⟩
 refine .a rfl (.nil (.ptCast (b := b1) (l' := ptC y) (by repeat' constructor) (by exact rfl) (.then_n (.seq (.draw [] [[0, 1, 2, 3, 4, 5, 6, 7]] mixed (by kernel_rfl) (.go [ptc b1 _ _, p] (by repeat' constructor) (.kv rfl (.loadAs (vs := ptC y) rfl ag_36 (by repeat' constructor) (by simp [ptC]) rfl) (.m rfl (by kernel_rfl) (.c Tryz.func179 [_] (r2part_spec y p hy (by omega) hn)) (by repeat' constructor) ?_))))))))
 refine D.kv rfl (.fieldAddr rfl fo_36_7) (.kv rfl (.load rfl ag_34 (by repeat' constructor) (by rw [hyc]; rfl)) (.kv rfl (.slen rfl Tryz.underlying34 rfl) (.m rfl (by kernel_rfl) (.c Tryz.func166 [_] (r1cnt_spec l.length (by omega))) (by repeat' constructor) ?_)))
 refine D.kv rfl (.concat rfl rfl (by omega)) (.kv rfl (.assign rfl) (.pf (.seq (.sr (.an rfl (.block (.loopK (ι := Nat × Bs) (fun q E => (4, vint q.1) :: (3, vstr q.2) :: E) (fun q => []) (fun q => q.1 ≤ l.length ∧ q.2 = ptB y ++ cntB l.length ++ (l.take q.1).flatMap ptB) (fun q => l.length - q.1) (0, ptB y ++ cntB l.length) (ts := [1, 2]) (.cons rfl (.cons rfl (.nil))) (⟨Nat.zero_le _, by simp⟩) ⟨rfl, rfl, rfl, rfl, trivial⟩ (by repeat' constructor) ?_)))))))
 rintro ⟨i, t⟩ ⟨hj, ht⟩
 dsimp only
 dsimp only at hj ht
 have htl : t.length = (ptB y).length + (cntB l.length).length + ((l.take i).flatMap ptB).length := by rw [ht, List.length_append, List.length_append]
 refine .seq (.sm rfl (.u (.fieldAddr rfl fo_36_7) (.q (.load rfl ag_34 (by repeat' constructor) (by rw [hyc]; rfl)) rfl (.q (.slen rfl Tryz.underlying34 rfl) rfl (.ui rfl rfl rfl (.nt (.condD rfl (fun h16 => ?_) (fun h16 => ?_))))))))
 ·have hi2 : i < l.length := by omega
  have hfs := fm_stepL ptB hi2
  obtain ⟨hz1, hz2⟩ := hi _ (List.getElem_mem hi2)
  refine .rdShape (p := p) hs (by repeat' constructor) (by omega) fun ba oa e => ?_
  subst e
  refine .sk (.seq (.block (.region (.m rfl (.u (.fieldAddr rfl fo_36_7) (.q (.load rfl ag_34 (by repeat' constructor) (by rw [hyc]; rfl)) rfl (.m rfl (.q (.indexAddr rfl rfl el_34 (by omega)) rfl (.q (.loadRdA (sz := 8) (j := i * 8) (k := 8) (p := p) (vs := ptC l[i]) rfl ag_36 (by repeat' constructor) hs (by simp) (by omega) (by omega) (flatMap_at (f := ptC) (sz := 8) (fun _ _ => rfl) hi2)) rfl (.cv Tryz.func179 [_] (r2part_spec l[i] p hz1 (by omega) hz2) ?_))))))))))
  refine .q (.concat rfl rfl (by omega)) rfl (.a rfl (.nil (.blk_n (.then_n (.region (.m rfl (.q (.add rfl rfl (by omega)) rfl (.an rfl ?_))))))))
  exact .rk ((i + 1, t ++ ptB l[i])) (⟨by dsimp only; omega, by dsimp only; rw [fm_step ptB hi2, ht]; simp only [List.append_assoc]⟩) (by dsimp only; omega) ⟨rfl, rfl, rfl, rfl, trivial⟩
 have hie : i = l.length := by omega
 have hfin : t = ptB y ++ subsB l := by rw [ht, hie, List.take_length, List.append_assoc]; rfl
 subst hfin
 refine .exit (.then_e (.then_e (.blk_e (.then_n (.sm rfl (.an rfl (.ret ?_)))))))
 exact .vv
theorem r2put_spec (e : En) (p : HP) (he : EnL p e) : Fn Tryz.prog 77 #[.agg (enC e).toArray] [p] fun v L => v = vstr (enB e) ∧ L = [p] := by
 refine Fn.intro Tryz.func77 rfl rfl fun F W => ?_
 have hel := enB_len e
 have hle := he.len
 have hie := he.w.i
 refine .sr (.oq (.box rfl) ?_)
 rintro v L' ⟨b1, rfl, rfl⟩
 refine .a rfl (.nil (.ptCast (b := b1) (l' := enC e) (by repeat' constructor) (by exact rfl) (.then_n (.seq (.draw [6, 7] [[0, 1, 2, 3, 4, 5, 8, 9, 6, 7], [10, 11, 12]] mixed (by kernel_rfl) (.go [ptc b1 _ _, p] (by repeat' constructor) (.kv rfl (.fieldAddr rfl fo_38_0) (.kv rfl (.ld rfl ag_3) (.kv rfl (.fieldAddr rfl fo_38_1) (.kv rfl (.ld rfl ag_3) (.kv rfl (.fieldAddr rfl fo_38_2) (.kv rfl (.ld rfl ag_3) (.k rfl (.fieldAddr rfl fo_38_3) (.k rfl (.loadAs (vs := ptC e.x) rfl ag_36 (by repeat' constructor) (by simp [enC, ptC]) rfl) (.hh rfl (.buildSlice1 (vs := [_, _, _]) el_31 ze_3 rfl rfl rfl rfl rfl (by decide)) ?_)))))))))))))))
 rintro v L' ⟨b2, rfl, rfl⟩
 refine D.hh rfl (.c Tryz.func137 [_] (r2nums_spec _ [e.zx, e.ses, e.xid] (ptc b2 (ints [e.zx, e.ses, e.xid]) 3) (fun h hp => slR_rd (slR_pt hp rfl)) (fun n hn => by simp only [List.mem_cons, List.not_mem_nil, or_false] at hn; rcases hn with rfl | rfl | rfl; exact hie.zx; exact hie.ses; exact hie.xid) (by simp))) ?_
 rintro v L' ⟨rfl, rfl⟩
 refine D.ph (.go [ptc b1 _ _, p] (by repeat' constructor) (.m rfl (by kernel_rfl) (.c Tryz.func138 [_] (r2txn_spec e.x e.subs p he.w.x he.w.subs (fun z hz => ⟨he.w.sub hz, he.few.2.2 z hz⟩) (by omega) he.few.2.1 he.few.1)) (by repeat' constructor) ?_))
 refine D.kv rfl (.concat rfl rfl (by simp only [List.length_append, txtB] at *; omega)) (.kv rfl (.assign rfl) (.pf (.ret ?_)))
 have hr : [e.zx, e.ses, e.xid].flatMap numB ++ (ptB e.x ++ subsB e.subs) = enB e := by unfold enB; simp only [List.append_assoc]
 rw [hr]
 exact .vv
theorem rfwrong_spec (r : Nat) (s : Bs) (k : Nat) (e e' : Int) : Fn Tryz.prog 199 #[vptr r, vint e'] [rfW r s k e] fun v L => v = .tuple #[] ∧ L = [rfW r s k (if e = 0 then e' else e)] := by
 refine Fn.intro Tryz.func199 rfl rfl fun F W => ?_
 refine .rfOpen (by repeat' constructor) fun hkl hsz => (.sm rfl (.nf rfl fo_208_2 (.u (.ld rfl ag_25) (.ui rfl rfl rfl (.nt (.condD rfl (fun h8 => ?_) (fun h8 => ?_)))))))
 ·refine .region (.m rfl (.m rfl (.nf rfl fo_208_2 (.st rfl rfl rfl sz_25 ?_))))
  refine .nil (.done_n ?_)
  rw [if_pos h8]
  refine .rfFold (r := r) s (k) (e') (by repeat' constructor) (by first | rfl | (simp only [List.set]; congr; omega)) (by omega) hsz ?_
  exact .vv
 refine .skip (.done_n ?_)
 rw [if_neg h8]
 refine .rfFold (r := r) s (k) (e) (by repeat' constructor) (by first | rfl | (simp only [List.set]; congr; omega)) (by omega) hsz ?_
 exact .vv
theorem rfsevens_spec (r : Nat) (s : Bs) (k : Nat) (e : Int) : Fn Tryz.prog 197 #[vptr r] [rfW r s k e] fun v L => ∃ u m e', SevA s k e u m e' ∧ v = .int .u64 (u : Nat) ∧ L = [rfW r s (k + m) e'] := by
 refine Fn.intro Tryz.func197 rfl rfl fun F W => ?_
 refine .rfOpen (by repeat' constructor) fun hkl hsz => (.sr (.an rfl (.seq (.sr ?_))))
 rcases Decidable.em (e = 0) with he0 | he0
 ·subst he0
  refine .m rfl (.nf rfl fo_208_2 (.u (.ld rfl ag_25) (.q (.as (v' := .bool false) (by rfl) (.int rfl rfl rfl)) rfl (.nt (.condF rfl (.sk (.sr (.an rfl (.sr (.an rfl (.sr (.an rfl (.block (.loopK (ι := Nat × Nat) (fun q E => (5, vint ((q.1 + 1 : Nat) : Int)) :: (3, .int .u64 q.2) :: (4, .int .u64 ((128 ^ q.1 : Nat) : Int)) :: E) (fun q => [ptc r [vstr s, vint k, vint 0] 208]) (fun q => k + q.1 ≤ s.length ∧ q.1 ≤ 9 ∧ q.2 < 128 ^ q.1 ∧ sevP q.1 q.2 (s.drop (k + q.1)) = sevP 0 0 (s.drop k)) (fun q => s.length - q.1) (0, 0) (ts := [0]) (.cons rfl (.nil)) (⟨by dsimp only; omega, by dsimp only; omega, by dsimp only; decide, rfl⟩) ⟨rfl, rfl, rfl, rfl, trivial⟩ (by repeat' constructor) ?_))))))))))))))
  rintro ⟨j, u⟩ ⟨hj, hj9, huj, hsv⟩
  dsimp only
  dsimp only at hj hj9 huj hsv
  refine .seq (.block (.seq (.seq (.draw [] [[0, 1, 2, 3, 4, 5, 6, 7, 8, 9, 10, 11]] mixed (by kernel_rfl) (.g0 (.mv rfl rfl (.nf rfl rfl rfl fo_208_1 (.kv rfl (.ld rfl ag_3) (.mv rfl rfl (.kv rfl (.add rfl rfl (by omega)) (.mv rfl rfl (.nf rfl rfl rfl fo_208_0 (.kv rfl (.ld rfl ag_9) (.kv rfl (.strlen rfl Tryz.underlying9 rfl) (.kv rfl (.int rfl rfl rfl) (.pf (.condD rfl (fun h25 => ?_) (fun h25 => ?_))))))))))))))))))
  ·refine .rfFold (r := r) s (k) (0) (by repeat' constructor) (by first | rfl | (simp only [List.set]; congr; omega)) (by omega) hsz (.sm rfl (.oq (.c Tryz.func199 [_, _] (rfwrong_spec r s k 0 10)) ?_))
   rintro v L' ⟨rfl, rfl⟩; rw [if_pos rfl]
   refine .nt (.sr (.an rfl (.rt (.blk_r (.then_r (.then_r (.blk_r ?_)))))))
   exact .dn rfl rfl ⟨0, 0, 10, .inl ⟨.inr (by rw [← hsv]; exact sevP_out (by omega)), rfl, rfl, by decide⟩, rfl, rfl⟩
  have hlt : k + j < s.length := by omega
  have hxl := s[k + j].toNat_lt
  refine .sk (.seq (.draw [] [[0, 1, 2, 3, 4, 5, 6, 7, 8, 9, 10, 11, 12]] mixed (by kernel_rfl) (.g0 (.mv rfl rfl (.nf rfl rfl rfl fo_208_0 (.kv rfl (.ld rfl ag_9) (.mv rfl rfl (.nf rfl rfl rfl fo_208_1 (.kv rfl (.ld rfl ag_3) (.mv rfl rfl (.kv rfl (.add rfl rfl (by omega)) (.kv rfl (.as (v' := vint ((k + j : Nat) : Int)) (by congr 1; omega) (.sub rfl rfl (by omega))) (.kv rfl (.to (v' := vbyte s[k + j]) (.strIndex rfl rfl Tryz.underlying9 (by omega) (by rw [Int.toNat_natCast]; exact List.getElem?_eq_getElem hlt)) rfl) ?_)))))))))))))
  refine D.kv rfl (.assign rfl) (.pf (.seq (.sm rfl (.ui rfl rfl rfl (.m rfl (.dec (t := 42) rfl (fun h11_42 => ?_) (fun h11_42 => ?_)))))))
  ·refine .kDT (t := 41) rfl h11_42 (.grun (t := 42) rfl rfl rfl (.m rfl (.grun (t := 42) rfl rfl rfl (.ui rfl rfl rfl (.u (.pickT rfl rfl) (.nt (.condD rfl (fun h45 => ?_) (fun h45 => ?_))))))))
   ·refine .rfFold (r := r) s (k) (0) (by repeat' constructor) (by first | rfl | (simp only [List.set]; congr; omega)) (by omega) hsz (.sm rfl (.oq (.c Tryz.func199 [_, _] (rfwrong_spec r s k 0 11)) ?_))
    rintro v L' ⟨rfl, rfl⟩; rw [if_pos rfl]
    refine .nt (.sr (.an rfl (.rt (.blk_r (.then_r (.then_r (.blk_r ?_)))))))
    exact .dn rfl rfl ⟨0, 0, 11, .inl ⟨.inr (by rw [← hsv, sevP_at hlt, if_pos (.inl ⟨by omega, by omega⟩)]), rfl, rfl, by decide⟩, rfl, rfl⟩
   refine .sk (.seq ?_)
   have h9 : j = 9 → s[k + j].toNat ≤ 1 := fun g => (by omega)
   refine .region (.m rfl (.m rfl (.q (.to (v' := .int .u8 ((s[k + j].toNat % 128 : Nat) : Int)) (.remU8 rfl rfl (by omega) (by decide)) (by rfl)) rfl (.q (.as (v' := .int .u64 ((s[k + j].toNat % 128 : Nat) : Int)) (by exact congrArg (Value.int .u64) (by rw [u64wrap]; omega)) (.conv rfl Tryz.underlying5 Tryz.underlying190)) rfl (.m rfl (.ui rfl rfl rfl (.q (.as (v' := .int .u64 ((u + s[k + j].toNat % 128 * 128 ^ j : Nat) : Int)) (by exact congrArg (Value.int .u64) (sev_mul hj9 huj (by omega) (fun g => by have := h9 g; omega))) (.int rfl rfl rfl)) rfl (.an rfl (.sm rfl (.ui rfl rfl rfl (.an rfl (.seq (.sm rfl (.ui rfl rfl rfl (.nt (.condD rfl (fun h58 => ?_) (fun h58 => ?_)))))))))))))))))
   ·have hnb : ¬ badB j s[k + j] := by rintro (⟨g1, g2⟩ | ⟨g1, g2⟩); have := h9 g1; omega; omega
    have hj8 : j < 9 := by rcases Nat.lt_or_ge j 9 with g | g; exact g; exact absurd (h9 (by omega)) (by omega)
    refine .exit (.then_e (.blk_e (.then_n (.region (.m rfl (.q (.as (v' := vint ((j + 1 + 1 : Nat) : Int)) (by congr 1) (.add rfl rfl (by omega))) rfl (.an rfl ?_)))))))
    rw [unit_mul hj8]
    exact .rk ((j + 1, u + s[k + j].toNat % 128 * 128 ^ j)) (⟨by dsimp only; omega, by dsimp only; omega, by dsimp only; rw [Nat.pow_succ]; have := Nat.mul_le_mul_right (128 ^ j) (show s[k + j].toNat % 128 ≤ 127 by omega); omega, by dsimp only; rw [← hsv, sevP_at hlt, if_neg hnb, if_neg (by omega)]; rfl⟩) (by dsimp only; omega) ⟨rfl, rfl, rfl, rfl, trivial⟩
   refine .sk (.seq (.sm rfl (.ui rfl rfl rfl (.m rfl (.dec (t := 61) rfl (fun h17_61 => ?_) (fun h17_61 => ?_))))))
   ·refine .kDT (t := 60) rfl h17_61 (.grun (t := 61) rfl rfl rfl (.m rfl (.grun (t := 61) rfl rfl rfl (.ui rfl rfl rfl (.u (.pickT rfl rfl) (.nt (.condD rfl (fun h64 => ?_) (fun h64 => ?_))))))))
    ·refine .rfFold (r := r) s (k) (0) (by repeat' constructor) (by first | rfl | (simp only [List.set]; congr; omega)) (by omega) hsz (.sm rfl (.oq (.c Tryz.func199 [_, _] (rfwrong_spec r s k 0 11)) ?_))
     rintro v L' ⟨rfl, rfl⟩; rw [if_pos rfl]
     refine .nt (.sr (.an rfl (.rt (.blk_r (.then_r (.then_r (.blk_r ?_)))))))
     exact .dn rfl rfl ⟨0, 0, 11, .inl ⟨.inr (by rw [← hsv, sevP_at hlt, if_pos (.inr ⟨by omega, by omega⟩)]), rfl, rfl, by decide⟩, rfl, rfl⟩
    refine .sk (.seq ?_)
    have hnb : ¬ badB j s[k + j] := by rintro (⟨g1, g2⟩ | ⟨g1, g2⟩); have := h9 g1; omega; omega
    refine .region (.m rfl (.m rfl (.nf rfl fo_208_1 (.u (.ld rfl ag_3) (.m rfl (.q (.add rfl rfl (by omega)) rfl (.nf rfl fo_208_1 (.st rfl rfl rfl sz_3 ?_))))))))
    refine .nt (.sm rfl (.an rfl (.ret (.blk_r (.then_r (.then_r (.blk_r (.rfFold (r := r) s (k + (j + 1)) (0) (by repeat' constructor) (by first | rfl | (simp only [List.set]; congr; omega)) (by omega) hsz ?_))))))))
    exact .dn rfl rfl ⟨_, j + 1, 0, .inr ⟨rfl, rfl, by omega, by rw [← hsv, sevP_at hlt, if_neg hnb, if_pos (by omega)]; rfl⟩, rfl, rfl⟩
   refine .kDF (t := 60) rfl h17_61 (.gk (.gk (.u (.pickF rfl rfl) (.nt (.condF rfl (.sk (.seq ?_)))))))
   have hnb : ¬ badB j s[k + j] := by rintro (⟨g1, g2⟩ | ⟨g1, g2⟩); have := h9 g1; omega; omega
   refine .region (.m rfl (.m rfl (.nf rfl fo_208_1 (.u (.ld rfl ag_3) (.m rfl (.q (.add rfl rfl (by omega)) rfl (.nf rfl fo_208_1 (.st rfl rfl rfl sz_3 ?_))))))))
   refine .nt (.sm rfl (.an rfl (.ret (.blk_r (.then_r (.then_r (.blk_r (.rfFold (r := r) s (k + (j + 1)) (0) (by repeat' constructor) (by first | rfl | (simp only [List.set]; congr; omega)) (by omega) hsz ?_))))))))
   exact .dn rfl rfl ⟨_, j + 1, 0, .inr ⟨rfl, rfl, by omega, by rw [← hsv, sevP_at hlt, if_neg hnb, if_pos (by omega)]; rfl⟩, rfl, rfl⟩
  refine .kDF (t := 41) rfl h11_42 (.gk (.gk (.u (.pickF rfl rfl) (.nt (.condF rfl (.sk (.seq ?_)))))))
  have h9 : j = 9 → s[k + j].toNat ≤ 1 := fun g => absurd g (by omega)
  refine .region (.m rfl (.m rfl (.q (.to (v' := .int .u8 ((s[k + j].toNat % 128 : Nat) : Int)) (.remU8 rfl rfl (by omega) (by decide)) (by rfl)) rfl (.q (.as (v' := .int .u64 ((s[k + j].toNat % 128 : Nat) : Int)) (by exact congrArg (Value.int .u64) (by rw [u64wrap]; omega)) (.conv rfl Tryz.underlying5 Tryz.underlying190)) rfl (.m rfl (.ui rfl rfl rfl (.q (.as (v' := .int .u64 ((u + s[k + j].toNat % 128 * 128 ^ j : Nat) : Int)) (by exact congrArg (Value.int .u64) (sev_mul hj9 huj (by omega) (fun g => by have := h9 g; omega))) (.int rfl rfl rfl)) rfl (.an rfl (.sm rfl (.ui rfl rfl rfl (.an rfl (.seq (.sm rfl (.ui rfl rfl rfl (.nt (.condD rfl (fun h58 => ?_) (fun h58 => ?_)))))))))))))))))
  ·have hnb : ¬ badB j s[k + j] := by rintro (⟨g1, g2⟩ | ⟨g1, g2⟩); have := h9 g1; omega; omega
   have hj8 : j < 9 := by rcases Nat.lt_or_ge j 9 with g | g; exact g; exact absurd (h9 (by omega)) (by omega)
   refine .exit (.then_e (.blk_e (.then_n (.region (.m rfl (.q (.as (v' := vint ((j + 1 + 1 : Nat) : Int)) (by congr 1) (.add rfl rfl (by omega))) rfl (.an rfl ?_)))))))
   rw [unit_mul hj8]
   exact .rk ((j + 1, u + s[k + j].toNat % 128 * 128 ^ j)) (⟨by dsimp only; omega, by dsimp only; omega, by dsimp only; rw [Nat.pow_succ]; have := Nat.mul_le_mul_right (128 ^ j) (show s[k + j].toNat % 128 ≤ 127 by omega); omega, by dsimp only; rw [← hsv, sevP_at hlt, if_neg hnb, if_neg (by omega)]; rfl⟩) (by dsimp only; omega) ⟨rfl, rfl, rfl, rfl, trivial⟩
  refine .sk (.seq (.sm rfl (.ui rfl rfl rfl (.m rfl (.dec (t := 61) rfl (fun h17_61 => ?_) (fun h17_61 => ?_))))))
  ·refine .kDT (t := 60) rfl h17_61 (.grun (t := 61) rfl rfl rfl (.m rfl (.grun (t := 61) rfl rfl rfl (.ui rfl rfl rfl (.u (.pickT rfl rfl) (.nt (.condD rfl (fun h64 => ?_) (fun h64 => ?_))))))))
   ·refine .rfFold (r := r) s (k) (0) (by repeat' constructor) (by first | rfl | (simp only [List.set]; congr; omega)) (by omega) hsz (.sm rfl (.oq (.c Tryz.func199 [_, _] (rfwrong_spec r s k 0 11)) ?_))
    rintro v L' ⟨rfl, rfl⟩; rw [if_pos rfl]
    refine .nt (.sr (.an rfl (.rt (.blk_r (.then_r (.then_r (.blk_r ?_)))))))
    exact .dn rfl rfl ⟨0, 0, 11, .inl ⟨.inr (by rw [← hsv, sevP_at hlt, if_pos (.inr ⟨by omega, by omega⟩)]), rfl, rfl, by decide⟩, rfl, rfl⟩
   refine .sk (.seq ?_)
   have hnb : ¬ badB j s[k + j] := by rintro (⟨g1, g2⟩ | ⟨g1, g2⟩); have := h9 g1; omega; omega
   refine .region (.m rfl (.m rfl (.nf rfl fo_208_1 (.u (.ld rfl ag_3) (.m rfl (.q (.add rfl rfl (by omega)) rfl (.nf rfl fo_208_1 (.st rfl rfl rfl sz_3 ?_))))))))
   refine .nt (.sm rfl (.an rfl (.ret (.blk_r (.then_r (.then_r (.blk_r (.rfFold (r := r) s (k + (j + 1)) (0) (by repeat' constructor) (by first | rfl | (simp only [List.set]; congr; omega)) (by omega) hsz ?_))))))))
   exact .dn rfl rfl ⟨_, j + 1, 0, .inr ⟨rfl, rfl, by omega, by rw [← hsv, sevP_at hlt, if_neg hnb, if_pos (by omega)]; rfl⟩, rfl, rfl⟩
  refine .kDF (t := 60) rfl h17_61 (.gk (.gk (.u (.pickF rfl rfl) (.nt (.condF rfl (.sk (.seq ?_)))))))
  have hnb : ¬ badB j s[k + j] := by rintro (⟨g1, g2⟩ | ⟨g1, g2⟩); have := h9 g1; omega; omega
  refine .region (.m rfl (.m rfl (.nf rfl fo_208_1 (.u (.ld rfl ag_3) (.m rfl (.q (.add rfl rfl (by omega)) rfl (.nf rfl fo_208_1 (.st rfl rfl rfl sz_3 ?_))))))))
  refine .nt (.sm rfl (.an rfl (.ret (.blk_r (.then_r (.then_r (.blk_r (.rfFold (r := r) s (k + (j + 1)) (0) (by repeat' constructor) (by first | rfl | (simp only [List.set]; congr; omega)) (by omega) hsz ?_))))))))
  exact .dn rfl rfl ⟨_, j + 1, 0, .inr ⟨rfl, rfl, by omega, by rw [← hsv, sevP_at hlt, if_neg hnb, if_pos (by omega)]; rfl⟩, rfl, rfl⟩
 refine .m rfl (.nf rfl fo_208_2 (.u (.ld rfl ag_25) (.q (.as (v' := .bool true) (by simp [he0]) (.int rfl rfl rfl)) rfl (.nt (.condT rfl (.sr (.an rfl (.rt (.rfFold (r := r) s (k) (e) (by repeat' constructor) (by first | rfl | (simp only [List.set]; congr; omega)) (by omega) hsz ?_)))))))))
 exact .dn rfl rfl ⟨0, 0, e, .inl ⟨.inl he0, rfl, rfl, he0⟩, rfl, rfl⟩
theorem rfzag_spec (u : Nat) (hu : u < U64) : Fn Tryz.prog 198 #[.int .u64 (u : Nat)] [] fun v L => v = vint (zagZ u) ∧ L = [] := by
 refine Fn.intro Tryz.func198 rfl rfl fun F W => ?_
 have h64 : U64 = 18446744073709551616 := rfl
 refine .sr (.an rfl (.seq (.sm rfl (.q (.to (v' := .int .u64 ((u % 2 : Nat) : Int)) (.remU rfl rfl (by omega) (by decide)) (by rfl)) rfl (.ui rfl rfl rfl (.nt (.condD rfl (fun h5 => ?_) (fun h5 => ?_))))))))
 ·refine .sm rfl (.q (.to (v' := .int .u64 ((u / 2 : Nat) : Int)) (.quoU rfl rfl (by omega) (by decide)) (by rfl)) rfl (.q (.as (v' := vint ((u / 2 : Nat) : Int)) (by rw [i64w (by omega)]) (.conv rfl Tryz.underlying190 Tryz.underlying3)) rfl (.an rfl (.rt ?_))))
  exact .dn rfl rfl ⟨congrArg vint (by unfold zagZ; rw [if_pos (by omega)]), rfl⟩
 refine .sk (.sm rfl (.q (.to (v' := .int .u64 ((u / 2 : Nat) : Int)) (.quoU rfl rfl (by omega) (by decide)) (by rfl)) rfl (.q (.as (v' := vint ((u / 2 : Nat) : Int)) (by rw [i64w (by omega)]) (.conv rfl Tryz.underlying190 Tryz.underlying3)) rfl (.q (.neg rfl (by omega)) rfl (.q (.sub rfl rfl (by omega)) rfl (.an rfl (.ret ?_)))))))
 exact .dn rfl rfl ⟨congrArg vint (by unfold zagZ; rw [if_neg (by omega)]), rfl⟩
theorem rfnumW_spec (r : Nat) (s : Bs) (k : Nat) (e : Int) : Fn Tryz.prog 170 #[vptr r] [rfW r s k e] fun v L => ∃ k' e', stW s k' e' = (runP 0 numP (stW s k e)).2 ∧ v = vint (runP 0 numP (stW s k e)).1 ∧ L = [rfW r s k' e'] := by
 refine Fn.intro Tryz.func170 rfl rfl fun F W => ?_
 refine .sr (.an rfl (.sm rfl (.oq (.c Tryz.func197 [_] (rfsevens_spec r s k e)) ?_)))
 rintro v L' ⟨u, m, e', hA, rfl, rfl⟩; have hu := hA.lt
 refine .an rfl (.sm rfl (.cv Tryz.func198 [_] (rfzag_spec u hu) ?_))
 refine .an rfl (.ret ?_)
 rw [hA.num.2]
 exact .dn rfl rfl ⟨k + m, e', hA.num.1, rfl, rfl⟩
theorem SevA.fine {s : Bs} {k : Nat} {e : Int} {u m : Nat} {e' : Int} (h : SevA s k e u m e') (g : e' ≠ 0) : u = 0 := by
 rcases h with ⟨-, rfl, -⟩ | ⟨-, h, -⟩
 ·rfl
 ·exact absurd h g
theorem rfcountW_spec (r most : Nat) (hm : most ≤ 4294967296) (s : Bs) (k : Nat) (e : Int) : Fn Tryz.prog 171 #[vptr r, vint most] [rfW r s k e] fun v L => ∃ k' e', k' ≤ s.length ∧ stW s k' e' = (runP 0 (cntP most) (stW s k e)).2 ∧ v = vint ((runP 0 (cntP most) (stW s k e)).1 : Nat) ∧ L = [rfW r s k' e'] := by
 refine Fn.intro Tryz.func171 rfl rfl fun F W => ?_
 refine .rfOpen (by repeat' constructor) fun hkl hsz => (.sr (.an rfl (.sm rfl (.nf rfl fo_208_1 (.u (.ld rfl ag_3) (.a rfl (.nil (.rfFold (r := r) s (k) (e) (by repeat' constructor) (by first | rfl | (simp only [List.set]; congr; omega)) (by omega) hsz (.then_n (.sm rfl (.oq (.c Tryz.func197 [_] (rfsevens_spec r s k e)) ?_)))))))))))
 rintro v L' ⟨u, m, e', hA, rfl, rfl⟩; have hu := hA.lt
 refine .an rfl (.seq (.seq (.rfOpen (by repeat' constructor) fun hkm hsz => (.region (.m rfl (.nf rfl fo_208_2 (.u (.ld rfl ag_25) (.ui rfl rfl rfl (.m rfl (.dec (t := 18) rfl (fun h3_18 => ?_) (fun h3_18 => ?_)))))))))))
 ·refine .kDT (t := 17) rfl h3_18 (.grun (t := 18) rfl rfl rfl (.m rfl (.grun (t := 18) rfl rfl rfl (.m rfl (.grun (t := 18) rfl rfl rfl (.q (.as (v' := vint (most : Nat)) (by rw [Int.max_eq_left (by omega)]) (.max2 rfl rfl)) rfl (.grun (t := 18) rfl rfl rfl (.q (.as (v' := .int .u64 (most : Nat)) (by exact congrArg (Value.int .u64) (by rw [u64wrap]; omega)) (.conv rfl Tryz.underlying3 Tryz.underlying190)) rfl (.grun (t := 18) rfl rfl rfl (.ui rfl rfl rfl (.u (.pickT rfl rfl) (.nt (.condD rfl (fun h24 => ?_) (fun h24 => ?_))))))))))))))
  ·refine .sm rfl (.m rfl (.nf rfl fo_208_1 (.st rfl rfl rfl sz_3 ?_)))
   refine .nil (.rfFold (r := r) s (k) (e') (by repeat' constructor) (by first | rfl | (simp only [List.set]; congr; omega)) (by omega) hsz (.then_n (.sm rfl (.cv Tryz.func199 [_, _] (rfwrong_spec r s k e' 12) ?_))))
   refine .nt (.sr (.an rfl (.rt ?_)))
   rw [hA.cntT (most := most) (by omega)]
   exact .dn rfl rfl ⟨k, _, hkl, st_none (x := 12) (by decide), rfl, rfl⟩
  refine .sk (.seq ?_)
  have hnm : ¬ most < u := by omega
  have hu64 : U64 = 18446744073709551616 := rfl
  refine .region (.m rfl (.q (.as (v' := vint (u : Nat)) (by rw [i64w (by have : u ≤ most := Nat.not_lt.1 hnm; omega)]) (.conv rfl Tryz.underlying190 Tryz.underlying3)) rfl (.an rfl (.ret (.rfFold (r := r) s (k + m) (e') (by repeat' constructor) (by first | rfl | (simp only [List.set]; congr; omega)) (by omega) hsz ?_)))))
  obtain ⟨hc1, hc2⟩ := hA.cntF hnm
  rw [hc2]
  exact .dn rfl rfl ⟨k + m, e', hkm, hc1, rfl, rfl⟩
 refine .kDF (t := 17) rfl h3_18 (.gk (.gk (.gk (.gk (.gk (.u (.pickF rfl rfl) (.nt (.condF rfl (.sk (.seq ?_))))))))))
 have hnm : ¬ most < u := by have := hA.fine h3_18; omega
 have hu64 : U64 = 18446744073709551616 := rfl
 refine .region (.m rfl (.q (.as (v' := vint (u : Nat)) (by rw [i64w (by have : u ≤ most := Nat.not_lt.1 hnm; omega)]) (.conv rfl Tryz.underlying190 Tryz.underlying3)) rfl (.an rfl (.ret (.rfFold (r := r) s (k + m) (e') (by repeat' constructor) (by first | rfl | (simp only [List.set]; congr; omega)) (by omega) hsz ?_)))))
 obtain ⟨hc1, hc2⟩ := hA.cntF hnm
 rw [hc2]
 exact .dn rfl rfl ⟨k + m, e', hkm, hc1, rfl, rfl⟩
theorem st_bad {s : Bs} {k : Nat} {e : Int} (h : ¬ e = 0) : stW s k e = none := if_neg h
theorem txt_bad {most : Nat} {st : Rs} (h : (runP 0 (cntP most) st).2 = none) : (runP [] (txtP most) st).2 = none ∧ (runP [] (txtP most) st).1 = [] := by
  cases st with
  | none => exact ⟨rfl, rfl⟩
  | some q =>
    cases hc : cntP most q with
    | none => have f2 : runP [] (txtP most) (some q) = ([], none) := by unfold runP txtP; dsimp only; rw [hc]
              rw [f2]; exact ⟨rfl, rfl⟩
    | some x => have f : runP 0 (cntP most) (some q) = (x.1, some x.2) := by unfold runP; dsimp only; rw [hc]
                rw [f] at h; cases h
theorem rftextW_spec (r most : Nat) (hm : most ≤ 4294967296) (s : Bs) (k : Nat) (e : Int) : Fn Tryz.prog 233 #[vptr r, vint most] [rfW r s k e] fun v L => ∃ k' e', stW s k' e' = (runP [] (txtP most) (stW s k e)).2 ∧ v = vstr (runP [] (txtP most) (stW s k e)).1 ∧ L = [rfW r s k' e'] := by
 refine Fn.intro Tryz.func233 rfl rfl fun F W => ?_
 refine .rfOpen (by repeat' constructor) fun hkl hsz => (.sr (.an rfl (.sm rfl (.nf rfl fo_208_1 (.u (.ld rfl ag_3) (.a rfl (.nil (.rfFold (r := r) s (k) (e) (by repeat' constructor) (by first | rfl | (simp only [List.set]; congr; omega)) (by omega) hsz (.then_n (.sm rfl (.m rfl (.oq (.c Tryz.func171 [_, _] (rfcountW_spec r most hm s k e)) ?_))))))))))))
 rintro v L' ⟨k1, e1, hk1, hs1, rfl, rfl⟩; obtain ⟨n, hn⟩ : ∃ n, n = (runP 0 (cntP most) (stW s k e)).1 := ⟨_, rfl⟩; rw [← hn]
 refine .a rfl (.nil ?_)
 have hrun := txt_run hs1 hn hk1
 refine .then_n (.seq (.seq (.rfOpen (by repeat' constructor) fun _ _ => (.region (.m rfl (.nf rfl fo_208_2 (.u (.ld rfl ag_25) (.ui rfl rfl rfl (.nt (.condN rfl (fun h19 => ?_) (fun h19 => ?_)))))))))))
 ·have hst1 := st_bad (s := s) (k := k1) h19
  rw [hs1] at hst1
  obtain ⟨hb1, hb2⟩ := txt_bad hst1
  refine .sr (.an rfl (.rt (.rfFold (r := r) s (k1) (e1) (by repeat' constructor) (by first | rfl | (simp only [List.set]; congr; omega)) (by omega) hsz ?_)))
  rw [hb2]
  exact .dn rfl rfl ⟨k1, e1, (by rw [hb1]; exact st_bad h19), rfl, rfl⟩
 refine .sk (.seq (.seq (.draw [] [[0, 1, 2, 3, 4, 5, 6, 7, 8, 9, 10, 11]] mixed (by kernel_rfl) (.g0 (.mv rfl rfl (.nf rfl rfl rfl fo_208_0 (.kv rfl (.ld rfl ag_9) (.kv rfl (.strlen rfl Tryz.underlying9 rfl) (.mv rfl rfl (.nf rfl rfl rfl fo_208_1 (.kv rfl (.ld rfl ag_3) (.kv rfl (.sub rfl rfl (by omega)) (.mv rfl rfl (.kv rfl (.int rfl rfl rfl) (.pf (.condD rfl (fun h31 => ?_) (fun h31 => ?_)))))))))))))))))
 ·refine .sm rfl (.m rfl (.nf rfl fo_208_1 (.st rfl rfl rfl sz_3 ?_)))
  refine .nil (.rfFold (r := r) s (k) (e1) (by repeat' constructor) (by first | rfl | (simp only [List.set]; congr; omega)) (by omega) hsz (.then_n (.sm rfl (.cv Tryz.func199 [_, _] (rfwrong_spec r s k e1 10) ?_))))
  refine .nt (.sr (.an rfl (.rt ?_)))
  rw [hrun.1 (by omega)]
  exact .dn rfl rfl ⟨k, _, st_none (x := 10) (by decide), rfl, rfl⟩
 obtain ⟨hr1, hr2⟩ := hrun.2 (by omega)
 refine .sk (.seq (.draw [] [[0, 1, 2, 3, 4, 5, 6, 7, 8, 9, 10, 11, 12, 13, 14, 15]] mixed (by kernel_rfl) (.g0 (.mv rfl rfl (.nf rfl rfl rfl fo_208_0 (.kv rfl (.ld rfl ag_9) (.mv rfl rfl (.nf rfl rfl rfl fo_208_1 (.kv rfl (.ld rfl ag_3) (.mv rfl rfl (.nf rfl rfl rfl fo_208_1 (.kv rfl (.ld rfl ag_3) (.mv rfl rfl (.kv rfl (.as (v' := vint ((k1 + n : Nat) : Int)) (by first | rfl | (congr 1; omega)) (.add rfl rfl (by omega))) (.kv rfl (.to (v' := vstr ((s.take (k1 + n)).drop k1)) (.strMid rfl rfl rfl Tryz.underlying9 (by omega)) (by rfl)) (.kv rfl (.assign rfl) (.pf (.sm rfl (.m rfl (.nf rfl fo_208_1 (.u (.ld rfl ag_3) ?_)))))))))))))))))))))
 refine .m rfl (.q (.add rfl rfl (by omega)) rfl (.nf rfl fo_208_1 (.st rfl rfl rfl sz_3 ?_)))
 refine .nt (.sm rfl (.an rfl (.ret (.rfFold (r := r) s (k1 + n) (e1) (by repeat' constructor) (by first | rfl | (simp only [List.set]; congr; omega)) (by omega) hsz ?_))))
 rw [hr2]
 exact .dn rfl rfl ⟨k1 + n, e1, hr1, rfl, rfl⟩
theorem rfendW_spec (r : Nat) (s : Bs) (k : Nat) (e : Int) : Fn Tryz.prog 172 #[vptr r] [rfW r s k e] fun v L => ∃ e1, (e1 = 0 ↔ stW s k e = some []) ∧ v = vint e1 ∧ L = [rfW r s k e1] := by
 refine Fn.intro Tryz.func172 rfl rfl fun F W => ?_
 refine .rfOpen (by repeat' constructor) fun hkl hsz => (.sr (.an rfl (.seq (.seq (.draw [] [[0, 1, 2, 3, 4, 5, 6, 7, 8, 9]] mixed (by kernel_rfl) (.g0 (.mv rfl rfl (.nf rfl rfl rfl fo_208_1 (.kv rfl (.ld rfl ag_3) (.mv rfl rfl (.nf rfl rfl rfl fo_208_0 (.kv rfl (.ld rfl ag_9) (.kv rfl (.strlen rfl Tryz.underlying9 rfl) (.kv rfl (.int rfl rfl rfl) (.pf (.condN rfl (fun h12 => ?_) (fun h12 => ?_)))))))))))))))))
 ·refine .rfFold (r := r) s (k) (e) (by repeat' constructor) (by first | rfl | (simp only [List.set]; congr; omega)) (by omega) hsz (.region (.m rfl (.cv Tryz.func199 [_, _] (rfwrong_spec r s k e 11) ?_)))
  refine .nt (.seq (.rfOpen (by repeat' constructor) fun _ _ => (.region (.m rfl (.nf rfl fo_208_2 (.u (.ld rfl ag_25) (.an rfl (.ret (.rfFold (r := r) s (k) (if e = 0 then 11 else e) (by repeat' constructor) (by first | rfl | (simp only [List.set]; congr; omega)) (by omega) hsz ?_)))))))))
  exact .dn rfl rfl ⟨_, end_T (by omega), rfl, rfl⟩
 refine .sk (.sm rfl (.nf rfl fo_208_2 (.u (.ld rfl ag_25) (.an rfl (.ret (.rfFold (r := r) s (k) (e) (by repeat' constructor) (by first | rfl | (simp only [List.set]; congr; omega)) (by omega) hsz ?_))))))
 exact .dn rfl rfl ⟨_, end_F (by omega), rfl, rfl⟩
theorem rfnum_spec (r : Nat) (st : Rs) : Fn Tryz.prog 170 #[vptr r] [rfR r st] fun v L => v = vint (runP 0 numP st).1 ∧ L = [rfR r (runP 0 numP st).2] := Fn.rfUp (v := vint) (fun s k e => rfnumW_spec r s k e) st
theorem rfcount_spec (r most : Nat) (hm : most ≤ 4294967296) (st : Rs) : Fn Tryz.prog 171 #[vptr r, vint most] [rfR r st] fun v L => v = vint ((runP 0 (cntP most) st).1 : Nat) ∧ L = [rfR r (runP 0 (cntP most) st).2] := Fn.rfUp (v := fun n : Nat => vint n) (fun s k e => (rfcountW_spec r most hm s k e).mono fun _ _ ⟨k', e', _, h⟩ => ⟨k', e', h⟩) st
theorem rftext_spec (r most : Nat) (hm : most ≤ 4294967296) (st : Rs) : Fn Tryz.prog 233 #[vptr r, vint most] [rfR r st] fun v L => v = vstr (runP [] (txtP most) st).1 ∧ L = [rfR r (runP [] (txtP most) st).2] := Fn.rfUp (v := vstr) (fun s k e => rftextW_spec r most hm s k e) st
theorem rfend_spec (r : Nat) (st : Rs) : Fn Tryz.prog 172 #[vptr r] [rfR r st] fun v L => ∃ e1, (e1 = 0 ↔ st = some []) ∧ v = vint e1 ∧ ∃ st', L = [rfR r st'] := Fn.rfEnd (fun s k e => rfendW_spec r s k e) st
theorem rfnumR_spec (r : Nat) (st : Rs) : Fn Tryz.prog 170 #[vptr r] [rfR r st] fun v L => v = vint (numR st).1 ∧ L = [rfR r (numR st).2] := rfnum_spec r st
theorem rftxtR_spec (r : Nat) (st : Rs) : Fn Tryz.prog 233 #[vptr r, vint 4096] [rfR r st] fun v L => v = vstr (txtR st).1 ∧ L = [rfR r (txtR st).2] := rftext_spec r 4096 (by decide) st
theorem many_none {α : Type} {f : Rn α} (hf : (f none).2 = none) {st : Rs} : ∀ (k j : Nat), (manyR f j st).2 = none → (manyR f (j + k) st).2 = none
 | 0, _, h => h
 | k + 1, j, h => by
  show (f (manyR f (j + k) st).2).2 = none
  rw [many_none hf k j h]; exact hf
theorem many_stop {α : Type} {f : Rn α} (hf : (f none).2 = none) {st : Rs} {j m : Nat} (hj : j ≤ m) (h : (manyR f j st).2 = none) : (manyR f m st).2 = none := by
 have := many_none hf (m - j) j h
 rwa [show j + (m - j) = m by omega] at this
theorem many_fine {α : Type} {f : Rn α} (hf : (f none).2 = none) {st : Rs} {m : Nat} (h : (manyR f m st).2 ≠ none) : st ≠ none := fun g => h (many_stop (j := 0) hf (Nat.zero_le _) g)
theorem take_set (l : List Int) (k : Nat) (v : Int) : (ints l ++ List.replicate (k + 1) (vint 0)).set (0 + l.length * 1) (vint v) = ints (l ++ [v]) ++ List.replicate k (vint 0) := by
 have hl : (ints l).length = l.length := by simp [ints]
 rw [Nat.zero_add, Nat.mul_one, List.set_append_right _ _ (by omega), hl, Nat.sub_self, List.replicate_succ]
 simp [ints]
theorem r2count_spec (r : Nat) (st : Rs) : Fn Tryz.prog 227 #[vptr r] [rfR r st] fun v L => v = vint ((cntR st).1 : Nat) ∧ L = [rfR r (cntR st).2] := by
 refine Fn.intro Tryz.func227 rfl rfl fun F W => ?_
 refine .sr (.an rfl (.sm rfl (.cv Tryz.func171 [_, _] (rfcount_spec r 256 (by decide) st) ?_)))
 refine .an rfl (.ret ?_)
 exact .vv
theorem r2take_spec (r n : Nat) (st : Rs) (hn : n ≤ 1048576) : Fn Tryz.prog 213 #[vptr r, vint n] [rfR r st] fun v L => ∃ b, v = .slice (some ⟨b, 0, none⟩) n n ∧ L = [rfR r (manyR numR n st).2, ptc b (ints (manyR numR n st).1) 3] := by
 refine Fn.intro Tryz.func213 rfl rfl fun F W => ?_
 refine .sr (.an rfl (.sm rfl (.oq (.make rfl rfl el_31 ze_3 rfl ⟨by simp, by simp; rfl⟩ ?c3) ?_)))
 case c3 => omega
 rintro v L' ⟨bz, rfl, rfl⟩
 refine .a rfl (.nil ?_)
 simp only [Int.toNat_natCast, Nat.mul_one]
 refine .ptCast (b := bz) (l' := ints (manyR numR 0 st).1 ++ List.replicate (n - 0) (vint 0)) (by repeat' constructor) rfl (.then_n (.seq (.sr (.an rfl (.block (.loopK (ι := Nat) (fun q E => (6, vint q) :: E) (fun q => [rfR r (manyR numR q st).2, ptc bz (ints (manyR numR q st).1 ++ List.replicate (n - q) (vint 0)) 3]) (fun q => q ≤ n) (fun q => n - q) (0) (ts := [0, 1, 4, 5]) (.cons rfl (.cons rfl (.cons rfl (.cons rfl (.nil))))) (Nat.zero_le _) ⟨rfl, rfl, rfl, rfl, rfl, trivial⟩ (by repeat' constructor) ?_))))))
 rintro j hj
 refine .seq (.sm rfl (.m rfl (.ui rfl rfl rfl (.nt (.condD rfl (fun h11 => ?_) (fun h11 => ?_))))))
 ·have hj2 : j < n := by omega
  have hml := many_len numR st j
  refine .sk (.seq (.block (.region (.m rfl (.m rfl (.m rfl (.cv Tryz.func170 [_] (rfnumR_spec _ _) ?_)))))))
  refine .q (.indexAddr rfl rfl el_31 (by omega)) rfl (.oq (.store rfl rfl rfl sz_3 ?c16 (nfz0 _ _)) ?_)
  case c16 => simp [ints, hml]; omega
  rintro v L' rfl
  refine .nil (.blk_n (.then_n (.region (.m rfl (.q (.add rfl rfl (by omega)) rfl (.an rfl (.ptCast (b := bz) (l' := ints (manyR numR (j + 1) st).1 ++ List.replicate (n - (j + 1)) (vint 0)) (by repeat' constructor) (by rw [Int.toNat_natCast, show n - j = (n - (j + 1)) + 1 by omega]; have h := take_set (manyR numR j st).1 (n - (j + 1)) (numR (manyR numR j st).2).1; rw [many_len] at h; exact h) ?_)))))))
  exact .rk (j + 1) (by omega) (by omega) ⟨rfl, rfl, rfl, rfl, rfl, trivial⟩
 obtain rfl : j = n := by omega
 refine .ptCast (b := bz) (l' := ints (manyR numR j st).1) (by repeat' constructor) (by simp) (.exit (.then_e (.then_e (.blk_e (.then_n (.sm rfl (.an rfl (.ret ?_))))))))
 exact .dn rfl rfl ⟨bz, rfl, rfl⟩
theorem r2tacls_spec (r : Nat) (st : Rs) : Fn Tryz.prog 234 #[vptr r] [rfR r st] fun v L => ∃ (l : List Ac) (a : Option Addr) (c : Nat), v = .slice a l.length c ∧ l.length ≤ 256 ∧ ((rowsR acR st).2 ≠ none → l = (rowsR acR st).1) ∧ L = [rfR r (rowsR acR st).2, slR 210 2 v l.length (l.flatMap acC)] := by
 refine Fn.intro Tryz.func234 rfl rfl fun F W => ?_
 obtain ⟨m, hm⟩ : ∃ m, m = (cntR st).1 := ⟨_, rfl⟩
 obtain ⟨st1, hst1⟩ : ∃ s, s = (cntR st).2 := ⟨_, rfl⟩
 have hm2 := cntR_le st
 have hrow : rowsR acR st = manyR acR m st1 := by rw [hm, hst1]; rfl
 rw [hrow]
 refine .sr (.an rfl (.seq (.add (slR_nil 210 2) (.region (.an rfl (.sm rfl (.oq (.c Tryz.func227 [_] (r2count_spec r st)) ?_)))))))
 rintro v L' ⟨rfl, rfl⟩; rw [show (cntR st).1 = m from hm.symm, show (cntR st).2 = st1 from hst1.symm]
 refine .an rfl (.seq (.sr (.an rfl (.block (.loopK (ι := Nat × Value) (fun q E => (5, vint q.1) :: (3, q.2) :: E) (fun q => [rfR r (manyR acR q.1 st1).2, slR 210 2 q.2 q.1 ((manyR acR q.1 st1).1.flatMap acC)]) (fun q => q.1 ≤ m ∧ ∃ a c, q.2 = .slice a q.1 c) (fun q => m - q.1) (0, .slice none 0 0) (ts := [0, 2, 4]) (.cons rfl (.cons rfl (.cons rfl (.nil)))) (⟨Nat.zero_le _, none, 0, rfl⟩) ⟨rfl, rfl, rfl, rfl, rfl, trivial⟩ (by repeat' constructor) ?_)))))
 rintro ⟨j, u⟩ ⟨hj, au, cu, hu⟩
 dsimp only
 dsimp only at hj hu
 subst hu
 refine .seq (.seq (.rfLook (r := r) (by repeat' constructor) fun s0 k0 e0 hst0 hk0 hs0 => (.region (.m rfl (.m rfl (.ui rfl rfl rfl (.m rfl (.dec (t := 13) rfl (fun h4_13 => ?_) (fun h4_13 => ?_)))))))))
 ·refine .kDT (t := 12) rfl h4_13 (.grun (t := 13) rfl rfl rfl (.m rfl (.grun (t := 13) rfl rfl rfl (.u (.nilp rfl) (.grun (t := 13) rfl rfl rfl (.u (.fieldAddr rfl fo_208_2) (.grun (t := 13) rfl rfl rfl (.u (.ld rfl ag_25) (.grun (t := 13) rfl rfl rfl (.ui rfl rfl rfl (.u (.pickT rfl rfl) (.nil (.rfFold (r := r) s0 k0 e0 (by repeat' constructor) rfl hk0 hs0 (.rfUpF (r := r) (st := (manyR acR j st1).2) (by repeat' constructor) hst0 (.then_n (.condD rfl (fun h19 => ?_) (fun h19 => ?_)))))))))))))))))
  ·have hj2 : j < m := by omega
   refine .sk (.seq (.block (.sm rfl (.cv Tryz.func170 [_] (rfnumR_spec _ _) ?_))))
   refine .an rfl (.sm rfl (.cv Tryz.func233 [_, _] (rftxtR_spec r _) ?_))
   refine .an rfl (.region (.m rfl (.m rfl (.m rfl (.q (.to (v' := .agg (acC (acR (manyR acR j st1).2).1).toArray) (.build (us := [(0, _), (1, _)]) fl_210 ze_210 rfl rfl (by simp [isCell])) rfl) rfl (.oq (.buildSlice (vs := [_]) el_33 ze_210 rfl rfl rfl rfl (by first | (simp [Value.cells]; done) | (intro v hv; simp only [List.mem_cons, List.not_mem_nil, or_false] at hv; (repeat (first | (subst hv; rfl) | (rcases hv with hv | hv; (subst hv; rfl)))))) (by decide)) ?_))))))
   rintro v L' ⟨b4, rfl, rfl⟩
   refine .oq (.append1 rfl rfl rfl el_33 ze_210 rfl rfl ?c25 ?c26 (Nat.le_refl _) ?c27 (by decide)) ?_
   case c25 => simp only [List.map_cons, List.map_nil, List.flatten_cons, List.flatten_nil, List.append_nil]; simp [Value.cells, acC, isCell]
   case c26 => rfl
   case c27 => omega
   rintro v L' ⟨⟨a5, c5, rfl⟩, rfl⟩
   refine .a rfl (.nil (.blk_n (.then_n (.region (.m rfl (.q (.add rfl rfl (by omega)) rfl (.an rfl (.slCast (T := 210) (sz := 2) (m' := j + 1) (xs' := (manyR acR (j + 1) st1).1.flatMap acC) (by repeat' constructor) (by exact rfl) (by show _ = ((manyR acR j st1).1 ++ [_]).flatMap acC; rw [List.flatMap_append]; simp [Value.cells, acC]) ?_))))))))
   exact .rk ((j + 1, .slice a5 (j + 1) c5)) (⟨by dsimp only; omega, _, _, rfl⟩) (by dsimp only; omega) ⟨rfl, rfl, rfl, rfl, rfl, trivial⟩
  refine .exit (.then_e (.then_e (.blk_e (.then_n (.seq ?_)))))
  have hml := many_len acR st1 j
  have hbad : (manyR acR j st1).2 = none := by rw [← hst0]; exact st_bad h19
  have hfin := many_stop (f := acR) rfl hj hbad
  refine .region (.m rfl (.an rfl (.ret ?_)))
  rw [hfin, hbad]
  exact .dn rfl rfl ⟨(manyR acR j st1).1, au, cu, (by rw [hml]), (by omega), (fun g => absurd rfl g), (by rw [hml])⟩
 refine .kDF (t := 12) rfl h4_13 (.gk (.gk (.gk (.gk (.gk (.u (.pickF rfl rfl) (.nil (.rfFold (r := r) s0 k0 e0 (by repeat' constructor) rfl hk0 hs0 (.rfUpF (r := r) (st := (manyR acR j st1).2) (by repeat' constructor) hst0 (.then_n (.condF rfl (.exit (.then_e (.then_e (.blk_e (.then_n (.seq ?_)))))))))))))))))
 have hml := many_len acR st1 j
 have hjm : j = m := by omega
 subst hjm
 refine .region (.m rfl (.an rfl (.ret ?_)))
 exact .dn rfl rfl ⟨(manyR acR j st1).1, au, cu, (by rw [hml]), (by omega), (fun _ => rfl), (by rw [hml])⟩
theorem r2tpart_spec (r : Nat) (st : Rs) : Fn Tryz.prog 226 #[vptr r] [rfR r st] fun v L => ∃ y : Pt, ((ptR st).2 ≠ none → y.pl = (ptR st).1) ∧ y.acl.length ≤ 256 ∧ isCell y.aclV = true ∧ y.subsV = nilV ∧ v = .agg (ptC y).toArray ∧ L = [rfR r (ptR st).2, aclR y] := by
 refine Fn.intro Tryz.func226 rfl rfl fun F W => ?_
 refine .sr (.oq (.allocA ze_36) ?_)
 rintro v L' ⟨b2, rfl, rfl⟩
 refine .nt (.sr (.q (.to (v' := .agg (ptC ⟨0, [], [], nilV, [], 0, 0, 0, nilV⟩).toArray) (.build (us := []) fl_36 ze_36 rfl rfl (by simp [isCell])) rfl) rfl (.oq (.allocA ze_36) ?_)))
 rintro v L' ⟨b3, rfl, rfl⟩
 refine .oq (.storeA rfl rfl ?c6 sz_36 ?c9 ?c7 (nfz0 _ _)) ?_
 case c6 => decide
 case c9 => rfl
 case c7 => simp [ptC]
 rintro v L' rfl
 refine .nil (.ptCast (b := b3) (l' := ptC ⟨0, [], [], nilV, [], 0, 0, 0, nilV⟩) (by repeat' constructor) (by exact rfl) (.then_n (.sm rfl (.cv Tryz.func170 [_] (rfnumR_spec _ _) ?_))))
 refine .u (.fieldAddr rfl fo_36_0) (.oq (.store rfl rfl rfl sz_3 ?c15 (nfz0 _ _)) ?_)
 case c15 => simp [ptC]
 rintro v L' rfl
 refine .nt (.sm rfl (.cv Tryz.func233 [_, _] (rftxtR_spec r _) ?_))
 refine .u (.fieldAddr rfl fo_36_1) (.oq (.store rfl rfl rfl sz_9 ?c22 (nfz0 _ _)) ?_)
 case c22 => simp [ptC]
 rintro v L' rfl
 refine .nt (.sm rfl (.cv Tryz.func233 [_, _] (rftxtR_spec r _) ?_))
 refine .u (.fieldAddr rfl fo_36_2) (.oq (.store rfl rfl rfl sz_9 ?c29 (nfz0 _ _)) ?_)
 case c29 => simp [ptC]
 rintro v L' rfl
 refine .nt (.sm rfl (.oq (.c Tryz.func234 [_] (r2tacls_spec r _)) ?_))
 rintro v L' ⟨la, aa, ca, rfl, hla, hlr, rfl⟩
 refine .u (.fieldAddr rfl fo_36_3) (.oq (.store rfl rfl rfl sz_33 ?c36 (nfz0 _ _)) ?_)
 case c36 => simp [ptC]
 rintro v L' rfl
 refine .nt (.sm rfl (.oq (.c Tryz.func213 [_, _] (r2take_spec r 3 _ (by decide))) ?_))
 rintro v L' ⟨bt, rfl, rfl⟩
 refine .an rfl (.sm rfl (.q (.indexAddr rfl rfl el_31 (by omega)) rfl (.u (.ld rfl ag_3) (.u (.fieldAddr rfl fo_36_4) (.oq (.store rfl rfl rfl sz_3 ?c45 (nfz0 _ _)) ?_)))))
 case c45 => simp [ptC]
 rintro v L' rfl
 refine .nt (.sm rfl (.q (.indexAddr rfl rfl el_31 (by omega)) rfl (.u (.ld rfl ag_3) (.u (.fieldAddr rfl fo_36_5) (.oq (.store rfl rfl rfl sz_3 ?c51 (nfz0 _ _)) ?_)))))
 case c51 => simp [ptC]
 rintro v L' rfl
 refine .nt (.sm rfl (.q (.indexAddr rfl rfl el_31 (by omega)) rfl (.u (.ld rfl ag_3) (.u (.fieldAddr rfl fo_36_6) (.oq (.store rfl rfl rfl sz_25 ?c57 (nfz0 _ _)) ?_)))))
 case c57 => simp [ptC]
 rintro v L' rfl
 refine .nil ?_
 obtain ⟨y, hy⟩ : ∃ y : Pt, y = (⟨(numR st).1, (txtR (numR st).2).1, (txtR (txtR (numR st).2).2).1, .slice aa la.length ca, la, (numR (manyR numR 0 (rowsR acR (txtR (txtR (numR st).2).2).2).2).2).1, (numR (manyR numR 1 (rowsR acR (txtR (txtR (numR st).2).2).2).2).2).1, (numR (manyR numR 2 (rowsR acR (txtR (txtR (numR st).2).2).2).2).2).1, nilV⟩ : Pt) := ⟨_, rfl⟩
 refine .ptCast (b := b3) (l' := ptC y) (by repeat' constructor) (by rw [hy]; exact rfl) (.then_n (.sr (.q (.loadAs (vs := ptC y) rfl ag_36 (by repeat' constructor) (by simp [ptC]) rfl) rfl (.oq (.storeA rfl rfl ?c61 sz_36 ?c64 ?c62 (nfz0 _ _)) ?_))))
 case c61 => exact pt_cells (by rw [hy]; rfl) (by rw [hy]; rfl)
 case c64 => rfl
 case c62 => simp [ptC]
 rintro v L' rfl
 refine .nt (.ret (.ptCast (b := b2) (l' := ptC y) (by repeat' constructor) (by exact rfl) ?_))
 subst hy
 exact .d1 rfl (.cellA rfl ag_36 (by repeat' constructor) (by simp [ptC]) rfl) ⟨(⟨(numR st).1, (txtR (numR st).2).1, (txtR (txtR (numR st).2).2).1, .slice aa la.length ca, la, (numR (manyR numR 0 (rowsR acR (txtR (txtR (numR st).2).2).2).2).2).1, (numR (manyR numR 1 (rowsR acR (txtR (txtR (numR st).2).2).2).2).2).1, (numR (manyR numR 2 (rowsR acR (txtR (txtR (numR st).2).2).2).2).2).1, nilV⟩ : Pt), (fun g => by have h4 := many_fine (f := numR) (m := 3) (st := (rowsR acR (txtR (txtR (numR st).2).2).2).2) rfl g; have h5 := hlr h4; subst h5; rfl), hla, rfl, rfl, rfl, rfl⟩
theorem r2ttxn_spec (r : Nat) (st : Rs) : Fn Tryz.prog 214 #[vptr r] [rfR r st] fun v L => ∃ (y : Pt) (ys : List Pt) (a : Option Addr) (c : Nat), ((rowsR ptR (ptR st).2).2 ≠ none → y.pl = (ptR st).1 ∧ ys.map Pt.pl = (rowsR ptR (ptR st).2).1) ∧ isCell y.aclV = true ∧ (∀ z ∈ ys, isCell z.aclV = true ∧ z.subsV = nilV) ∧ v = .agg (ptC (y.ws (.slice a ys.length c))).toArray ∧ L = [rfR r (rowsR ptR (ptR st).2).2, aclR y, slR 36 8 (.slice a ys.length c) ys.length (ys.flatMap ptC), bigR aclR ys] := by
 refine Fn.intro Tryz.func214 rfl rfl fun F W => ?_
 obtain ⟨st0, hst00⟩ : ∃ s, s = (ptR st).2 := ⟨_, rfl⟩
 obtain ⟨m, hm⟩ : ∃ m, m = (cntR st0).1 := ⟨_, rfl⟩
 obtain ⟨st1, hst1⟩ : ∃ s, s = (cntR st0).2 := ⟨_, rfl⟩
 have hm2 := cntR_le st0
 have hrow : rowsR ptR st0 = manyR ptR m st1 := by rw [hm, hst1]; rfl
 rw [← hst00, hrow]
 refine .sr (.oq (.allocA ze_36) ?_)
 rintro v L' ⟨b2, rfl, rfl⟩
 refine .nt (.sm rfl (.oq (.c Tryz.func226 [_] (r2tpart_spec r st)) ?_))
 rintro v L' ⟨y, hyr, hyl, hyc, hys, rfl, rfl⟩; rw [← hst00] at hyr ⊢
 refine .oq (.allocA ze_36) ?_
 rintro v L' ⟨b3, rfl, rfl⟩
 refine .oq (.storeA rfl rfl ?c8 sz_36 ?c11 ?c9 (nfz0 _ _)) ?_
 case c8 => exact pt_cells hyc (by rw [hys]; rfl)
 case c11 => rfl
 case c9 => simp [ptC]
 rintro v L' rfl
 refine .nil (.ptCast (b := b3) (l' := ptC (y.ws (.slice none 0 0))) (by repeat' constructor) (by rw [show ptC (y.ws (.slice none 0 0)) = ptC y by unfold Pt.ws ptC; rw [hys]]; exact rfl) (.then_n (.sm rfl (.oq (.c Tryz.func227 [_] (r2count_spec r st0)) ?_))))
 rintro v L' ⟨rfl, rfl⟩; rw [show (cntR st0).1 = m from hm.symm, show (cntR st0).2 = st1 from hst1.symm]
 refine .an rfl (.seq (.seq (.add (slR_nil 36 8) (.add (p := bigR aclR []) (fun h => big_nil h) (.region (.an rfl (.block (.loopK (ι := Nat × Value × (List Pt)) (fun q E => (5, vint q.1) :: E) (fun q => [rfR r (manyR ptR q.1 st1).2, ptc b3 (ptC (y.ws q.2.1)) 36, slR 36 8 q.2.1 q.2.2.length (q.2.2.flatMap ptC), bigR aclR q.2.2]) (fun q => q.1 ≤ m ∧ q.2.2.length = q.1 ∧ (∃ a c, q.2.1 = .slice a q.1 c) ∧ ((manyR ptR q.1 st1).2 ≠ none → q.2.2.map Pt.pl = (manyR ptR q.1 st1).1) ∧ ∀ z ∈ q.2.2, isCell z.aclV = true ∧ z.subsV = nilV) (fun q => m - q.1) (0, .slice none 0 0, []) (ts := [0, 2, 3, 4]) (.cons rfl (.cons rfl (.cons rfl (.cons rfl (.nil))))) (⟨Nat.zero_le _, rfl, ⟨none, 0, rfl⟩, (fun _ => rfl), fun z hz => by cases hz⟩) ⟨rfl, rfl, rfl, rfl, rfl, trivial⟩ (by repeat' constructor) ?_))))))))
 rintro ⟨j, u, ys⟩ ⟨hj, hyl2, ⟨au, cu, hu⟩, hyr2, hyc2⟩
 dsimp only
 dsimp only at hj hyl2 hu hyr2 hyc2
 subst hu
 subst hyl2
 refine .seq (.seq (.rfLook (r := r) (by repeat' constructor) fun s0 k0 e0 hst0 hk0 hs0 => (.region (.m rfl (.m rfl (.ui rfl rfl rfl (.m rfl (.dec (t := 14) rfl (fun h4_14 => ?_) (fun h4_14 => ?_)))))))))
 ·refine .kDT (t := 13) rfl h4_14 (.grun (t := 14) rfl rfl rfl (.m rfl (.grun (t := 14) rfl rfl rfl (.u (.nilp rfl) (.grun (t := 14) rfl rfl rfl (.u (.fieldAddr rfl fo_208_2) (.grun (t := 14) rfl rfl rfl (.u (.ld rfl ag_25) (.grun (t := 14) rfl rfl rfl (.ui rfl rfl rfl (.u (.pickT rfl rfl) (.nil (.rfFold (r := r) s0 k0 e0 (by repeat' constructor) rfl hk0 hs0 (.rfUpF (r := r) (st := (manyR ptR ys.length st1).2) (by repeat' constructor) hst0 (.then_n (.condD rfl (fun h20 => ?_) (fun h20 => ?_)))))))))))))))))
  ·have hj2 : ys.length < m := by omega
   refine .sk (.seq (.block (.sm rfl (.oq (.c Tryz.func226 [_] (r2tpart_spec r _)) ?_))))
   rintro v L' ⟨z, hzr, hzl, hzc, hzs, rfl, rfl⟩
   refine .oq (.allocA ze_36) ?_
   rintro v L' ⟨b6, rfl, rfl⟩
   refine .oq (.storeA rfl rfl ?c30 sz_36 ?c33 ?c31 (nfz0 _ _)) ?_
   case c30 => exact pt_cells hzc (by rw [hzs]; rfl)
   case c33 => rfl
   case c31 => simp [ptC]
   rintro v L' rfl
   refine .nil (.ptCast (b := b6) (l' := ptC z) (by repeat' constructor) (by exact rfl) (.then_n (.region (.u (.fieldAddr rfl fo_36_7) (.u (.ld rfl ag_34) (.q (.loadAs (vs := ptC z) rfl ag_36 (by repeat' constructor) (by simp [ptC]) rfl) rfl (.oq (.buildSlice (vs := [_]) el_34 ze_36 rfl rfl rfl rfl (by first | (simp [Value.cells]; done) | (intro v hv; simp only [List.mem_cons, List.not_mem_nil, or_false] at hv; (repeat (first | (subst hv; rfl) | (rcases hv with hv | hv; (subst hv; rfl)))))) (by decide)) ?_)))))))
   rintro v L' ⟨b7, rfl, rfl⟩
   refine .oq (.append1 rfl rfl rfl el_34 ze_36 rfl rfl ?c40 ?c41 (Nat.le_refl _) ?c42 (by decide)) ?_
   case c40 => simp only [List.map_cons, List.map_nil, List.flatten_cons, List.flatten_nil, List.append_nil]; simp only [Value.cells]; intro w hw; exact pt_cells (y := z) hzc (by rw [hzs]; rfl) w (by simpa using hw)
   case c41 => rfl
   case c42 => omega
   rintro v L' ⟨⟨a4, c4, rfl⟩, rfl⟩
   refine .u (.fieldAddr rfl fo_36_7) (.oq (.store rfl rfl rfl sz_34 ?c46 (nfz0 _ _)) ?_)
   case c46 => simp [ptC]
   rintro v L' rfl
   refine .nil (.blk_n (.then_n (.region (.m rfl (.q (.add rfl rfl (by omega)) rfl (.an rfl (.bigAdd (f := aclR) (l := ys) (p := aclR z) z rfl (by repeat' constructor) (.slCast (T := 36) (sz := 8) (m' := (ys ++ [z]).length) (xs' := (ys ++ [z]).flatMap ptC) (by repeat' constructor) (by simp) (by rw [List.flatMap_append]; simp [Value.cells]) (.ptCast (b := b3) (l' := ptC (y.ws (.slice a4 (ys.length + 1) c4))) (by repeat' constructor) (by exact rfl) ?_)))))))))
   exact .rk ((ys.length + 1, .slice a4 (ys.length + 1) c4, ys ++ [z])) (⟨by dsimp only; omega, by simp, ⟨_, _, rfl⟩, (fun g => by show (ys ++ [z]).map Pt.pl = (manyR ptR ys.length st1).1 ++ [_]; have g2 : (manyR ptR ys.length st1).2 ≠ none := (fun g3 => g (by show (ptR (manyR ptR ys.length st1).2).2 = none; rw [g3]; rfl)); rw [List.map_append, hyr2 g2]; have g4 := hzr g; rw [← g4]; rfl), fun w hw => by rcases List.mem_append.1 hw with hw | hw; exact hyc2 w hw; rw [List.mem_singleton] at hw; subst hw; exact ⟨hzc, hzs⟩⟩) (by dsimp only; omega) ⟨rfl, rfl, rfl, rfl, rfl, trivial⟩
  refine .exit (.then_e (.then_e (.blk_e (.then_n (.seq ?_)))))
  have hbad : (manyR ptR ys.length st1).2 = none := by rw [← hst0]; exact st_bad h20
  have hfin := many_stop (f := ptR) rfl hj hbad
  refine .region (.q (.loadAs (vs := ptC (y.ws (.slice au ys.length cu))) rfl ag_36 (by repeat' constructor) (by simp [ptC]) rfl) rfl (.oq (.storeA rfl rfl ?c52 sz_36 ?c55 ?c53 (nfz0 _ _)) ?_))
  case c52 => exact pt_cells hyc rfl
  case c55 => rfl
  case c53 => simp [ptC]
  rintro v L' rfl
  refine .nt (.ret (.ptCast (b := b2) (l' := ptC (y.ws (.slice au ys.length cu))) (by repeat' constructor) (by exact rfl) ?_))
  rw [hfin, hbad]
  exact .d1 rfl (.cellA rfl ag_36 (by repeat' constructor) (by simp [ptC]) rfl) ⟨y, ys, au, cu, (fun g => absurd rfl g), hyc, hyc2, rfl, rfl⟩
 refine .kDF (t := 13) rfl h4_14 (.gk (.gk (.gk (.gk (.gk (.u (.pickF rfl rfl) (.nil (.rfFold (r := r) s0 k0 e0 (by repeat' constructor) rfl hk0 hs0 (.rfUpF (r := r) (st := (manyR ptR ys.length st1).2) (by repeat' constructor) hst0 (.then_n (.condF rfl (.exit (.then_e (.then_e (.blk_e (.then_n (.seq ?_)))))))))))))))))
 have hjm : ys.length = m := by omega
 refine .region (.q (.loadAs (vs := ptC (y.ws (.slice au ys.length cu))) rfl ag_36 (by repeat' constructor) (by simp [ptC]) rfl) rfl (.oq (.storeA rfl rfl ?c59 sz_36 ?c62 ?c60 (nfz0 _ _)) ?_))
 case c59 => exact pt_cells hyc rfl
 case c62 => rfl
 case c60 => simp [ptC]
 rintro v L' rfl
 refine .nt (.ret (.ptCast (b := b2) (l' := ptC (y.ws (.slice au ys.length cu))) (by repeat' constructor) (by exact rfl) ?_))
 rw [← hjm]
 exact .d1 rfl (.cellA rfl ag_36 (by repeat' constructor) (by simp [ptC]) rfl) ⟨y, ys, au, cu, (fun g => ⟨hyr (fun g2 => g (by rw [hst1, g2] ; exact many_stop (f := ptR) (j := 0) rfl (Nat.zero_le _) rfl)), hyr2 g⟩), hyc, hyc2, rfl, rfl⟩
theorem fill_e4 (z s x : Int) (y : Pt) (l : List Pt) : Instr.fill (fun i => [(0, 1), (1, 1), (2, 1), (3, 8)].toArray[i]?) ([.int .i64 0, .int .i64 0, .int .i64 0, .int .i64 0, .string (bs []), .string (bs []), .slice none 0 0, .int .i64 0, .int .i64 0, .int .i64 0, .slice none 0 0] : List Value).toArray [(0, vint z), (1, vint s), (2, vint x), (3, .agg (ptC y).toArray)] = some (enC ⟨z, s, x, y, l⟩).toArray := by kernel_rfl
theorem r2tent_spec (r : Nat) (st : Rs) : Fn Tryz.prog 200 #[vptr r] [rfR r st] fun v L => ∃ e : En, ((enR st).2 ≠ none → e.pl = (enR st).1) ∧ EnK e ∧ v = .agg (enC e).toArray ∧ L = [rfR r (enR st).2, entR e] := by
 refine Fn.intro Tryz.func200 rfl rfl fun F W => ?_
 refine .sr (.oq (.allocA ze_38) ?_)
 rintro v L' ⟨b2, rfl, rfl⟩
 refine .nt (.sm rfl (.oq (.c Tryz.func213 [_, _] (r2take_spec r 3 st (by decide))) ?_))
 rintro v L' ⟨bt, rfl, rfl⟩
 refine .an rfl (.sm rfl (.oq (.c Tryz.func214 [_] (r2ttxn_spec r _)) ?_))
 rintro v L' ⟨y, ys, sa, sc, hyr, hyc, hyc2, rfl, rfl⟩
 refine .oq (.allocA ze_36) ?_
 rintro v L' ⟨b4, rfl, rfl⟩
 refine .oq (.storeA rfl rfl ?c11 sz_36 ?c14 ?c12 (nfz0 _ _)) ?_
 case c11 => exact pt_cells hyc rfl
 case c14 => rfl
 case c12 => simp [ptC]
 rintro v L' rfl
 refine .nil (.ptCast (b := b4) (l' := ptC (y.ws (.slice sa ys.length sc))) (by repeat' constructor) (by exact rfl) (.then_n (.seq ?_)))
 have hek : EnK (⟨(numR (manyR numR 0 st).2).1, (numR (manyR numR 1 st).2).1, (numR (manyR numR 2 st).2).1, y.ws (.slice sa ys.length sc), ys⟩ : En) := ⟨⟨hyc, rfl⟩, hyc2⟩
 refine .draw [11] [[0, 1, 2, 3, 4, 5, 6, 7, 8, 9, 10, 11]] mixed (by kernel_rfl) (.g0 (.mv rfl rfl (.kv rfl (.indexAddr rfl rfl el_31 (by omega)) (.kv rfl (.ld rfl ag_3) (.mv rfl rfl (.kv rfl (.indexAddr rfl rfl el_31 (by omega)) (.kv rfl (.ld rfl ag_3) (.mv rfl rfl (.kv rfl (.indexAddr rfl rfl el_31 (by omega)) (.kv rfl (.ld rfl ag_3) (.kv rfl (.loadAs (vs := ptC (y.ws (.slice sa ys.length sc))) rfl ag_36 (by repeat' constructor) (by simp [ptC]) rfl) (.kv rfl (.to (v' := .agg (enC (⟨(numR (manyR numR 0 st).2).1, (numR (manyR numR 1 st).2).1, (numR (manyR numR 2 st).2).1, y.ws (.slice sa ys.length sc), ys⟩ : En)).toArray) (.buildN (pl := [(0, 1), (1, 1), (2, 1), (3, 8)]) (us := [(0, vint (numR (manyR numR 0 st).2).1), (1, vint (numR (manyR numR 1 st).2).1), (2, vint (numR (manyR numR 2 st).2).1), (3, .agg (ptC (y.ws (.slice sa ys.length sc))).toArray)]) (cells := enC (⟨(numR (manyR numR 0 st).2).1, (numR (manyR numR 1 st).2).1, (numR (manyR numR 2 st).2).1, y.ws (.slice sa ys.length sc), ys⟩ : En)) Tryz.underlying38 (by kernel_rfl) ze_38 rfl (fill_e4 _ _ _ _ _)) rfl) ?_))))))))))))
 refine D.hh rfl (.storeA rfl rfl ?c24 sz_38 ?c27 ?c25 (nfz0 _ _)) ?_
 case c24 => exact hek.cells
 case c27 => rfl
 case c25 => simp [enC, ptC]
 rintro v L' rfl
 refine D.pf (.ret (.ptCast (b := b2) (l' := enC (⟨(numR (manyR numR 0 st).2).1, (numR (manyR numR 1 st).2).1, (numR (manyR numR 2 st).2).1, y.ws (.slice sa ys.length sc), ys⟩ : En)) (by repeat' constructor) (by exact rfl) (.fold (p := entR (⟨(numR (manyR numR 0 st).2).1, (numR (manyR numR 1 st).2).1, (numR (manyR numR 2 st).2).1, y.ws (.slice sa ys.length sc), ys⟩ : En)) (q := [aclR y, slR 36 8 (.slice sa ys.length sc) ys.length (ys.flatMap ptC), bigR aclR ys]) (by repeat' constructor) (fun _ hp => hp) ?_)))
 exact .d1 rfl (.cellA rfl ag_38 (by repeat' constructor) (by simp [enC, ptC]) rfl) ⟨_, (fun g => by obtain ⟨g1, g2⟩ := hyr g; unfold En.pl; dsimp only; rw [g2]; rw [show (y.ws (.slice sa ys.length sc)).pl = y.pl from rfl, g1]; rfl), hek, rfl, rfl⟩
theorem r2get_spec (s : Bs) (hs : s.length ≤ 2147483648) : Fn Tryz.prog 173 #[vstr s] [] fun v L => ∃ e er, GotZ s e er ∧ v = .tuple #[.agg (enC e).toArray, vint er] ∧ L = [entR e] := by
 refine Fn.intro Tryz.func173 rfl rfl fun F W => ?_
 refine .sr (.oq (.allocA ze_38) ?_)
 rintro v L' ⟨b2, rfl, rfl⟩
 refine .an rfl (.sm rfl (.q (.to (v' := .agg [vstr s, vint 0, vint 0].toArray) (.build (us := [(0, _)]) fl_208 ze_208 rfl rfl (by simp [isCell])) rfl) rfl (.oq (.box rfl) ?_)))
 rintro v L' ⟨r, rfl, rfl⟩
 refine .an rfl (.seq (.rfFold (r := r) s 0 0 (by repeat' constructor) rfl (Nat.zero_le _) hs (.rfUpF (r := r) (st := some s) (by repeat' constructor) rfl (.region (.m rfl (.oq (.c Tryz.func200 [_] (r2tent_spec r (some s))) ?_))))))
 rintro v L' ⟨e, hpl, hek, rfl, rfl⟩
 refine .oq (.allocA ze_38) ?_
 rintro v L' ⟨b5, rfl, rfl⟩
 refine .oq (.storeA rfl rfl ?c12 sz_38 ?c15 ?c13 (nfz0 _ _)) ?_
 case c12 => exact hek.cells
 case c15 => rfl
 case c13 => simp [enC, ptC]
 rintro v L' rfl
 refine .nil (.ptCast (b := b5) (l' := enC e) (by repeat' constructor) (by exact rfl) (.then_n (.seq (.sm rfl (.oq (.c Tryz.func172 [_] (rfend_spec r _)) ?_)))))
 rintro v L' ⟨e1, he1, rfl, st', rfl⟩
 refine .ui rfl rfl rfl (.nt (.condN rfl (fun h13 => ?_) (fun h13 => ?_)))
 ·refine .sr (.q (.to (v' := .agg (enC en0).toArray) (.buildN (pl := [(0, 1), (1, 1), (2, 1), (3, 8)]) (us := []) (cells := enC en0) Tryz.underlying38 (by kernel_rfl) ze_38 rfl rfl) rfl) rfl (.oq (.storeA rfl rfl ?c21 sz_38 ?c24 ?c22 (nfz0 _ _)) ?_))
  case c21 => decide
  case c24 => rfl
  case c22 => simp [enC, ptC]
  rintro v L' rfl
  refine .a rfl (.nil (.ptCast (b := b2) (l' := enC en0) (by repeat' constructor) (by exact rfl) (.add entR_0 (.then_n (.rt ?_)))))
  exact .d2 rfl (.cellA rfl ag_38 (by repeat' constructor) (by simp [enC, ptC]) rfl) (.tmp rfl) ⟨en0, 120, .inr ⟨rfl, get_bad (fun g => h13 (he1.2 g)), rfl⟩, rfl, rfl⟩
 refine .sk (.sr (.q (.loadAs (vs := enC e) rfl ag_38 (by repeat' constructor) (by simp [enC, ptC]) rfl) rfl (.oq (.storeA rfl rfl ?c28 sz_38 ?c31 ?c29 (nfz0 _ _)) ?_)))
 case c28 => exact hek.cells
 case c31 => rfl
 case c29 => simp [enC, ptC]
 rintro v L' rfl
 refine .a rfl (.nil (.ptCast (b := b2) (l' := enC e) (by repeat' constructor) (by exact rfl) (.then_n (.ret ?_))))
 exact .d2 rfl (.cellA rfl ag_38 (by repeat' constructor) (by simp [enC, ptC]) rfl) (.tmp rfl) ⟨e, 0, .inl ⟨rfl, (by rw [hpl (by rw [he1.1 h13]; exact fun g => by cases g)]; exact get_ok (he1.1 h13)), hek⟩, rfl, rfl⟩
def Dk.calm (δ : Dk) : Dk := { δ with left := 0 }
theorem dbt_err (r : Dk × Wl × Int) : (dbt r).2.2 = r.2.2 ∧ (dbt r).1 = r.1 := by unfold dbt; split <;> exact ⟨rfl, rfl⟩
structure Dur (δ δ0 : Dk) (area : Int) (L : Bs) : Prop where
 len : δ.now.length = δ0.now.length
 mark : ∀ k : Nat, k < 2 → δ.now.getD k [] = δ0.now.getD k []
 marks : ∀ k : Nat, k < 2 → alook δ.old (k : Int) = none
 here : Area δ area L
 olds : ∀ i : Nat, (i : Int) < halfZ δ → ∀ o, alook δ.old (2 + area * halfZ δ + (i : Int)) = some o → chunk L i <+: o
structure Lv (δ : Dk) (ω : Wl) (N : Int) : Prop where
 dead : δ.dead = false
 well : Well δ.calm ω N
 kp : Kp δ ω
 dur : Dur δ δ ω.area (laidZ (ω.recs.take ω.synced.toNat))
theorem back {σ : Dk} {ω : Wl} {N : Int} (hd : Al σ) (ho : σ.old = []) (hdb : ω.doubt = false) (hfull : ω.synced = ω.recs.length) (size : 2 ≤ σ.now.length ∧ σ.now.length ≤ 32768) (acts : σ.acts ≤ N) (area : 0 ≤ ω.area ∧ ω.area ≤ 1) (count : 1 ≤ ω.count ∧ ω.count ≤ 4294967295)
  (ha : 0 ≤ ω.a ∧ ω.a ≤ 9223372036854775807) (hb : 0 ≤ ω.b ∧ ω.b ≤ 9223372036854775807) (hl : ∀ s ∈ ω.recs, s.length ≤ 4000) (fits : ((laidZ ω.recs).length : Int) ≤ 64 * halfZ σ)
  (this : mkAt σ ω.count = ω.now.sec) (other : TailC ω.count (mkAt σ (ω.count + 1))) (hA : Area σ ω.area (laidZ ω.recs)) (hok : σ.Ok) : Lv σ ω N ∧ openZ σ = some ω := by
 have hk : Kp σ ω := ⟨count.1, ha, hb, hl, this, other, hA⟩
 have hw : Well σ ω N := ⟨hd, hdb, size, acts, area, ⟨by omega, count.2⟩, ⟨by omega, by omega⟩, fits⟩
 have hc : σ.calm = σ := by
  obtain ⟨n, o, a, l, d⟩ := σ
  have : l = 0 := hd.left
  subst this; rfl
 refine ⟨⟨hd.dead, by rw [hc]; exact hw, hk, ⟨rfl, fun _ _ => rfl, fun k _ => by rw [ho]; rfl, hA.less (laid_pre _ _), fun i _ o h => by rw [ho] at h; cases h⟩⟩, ?_⟩
 rw [opened hk hw hok]
 obtain ⟨r, sy, ar, ct, x, y, db⟩ := ω
 dsimp only at hfull hdb ⊢
 subst hdb
 rw [hfull, Int.toNat_natCast, List.take_length]
def endL (Λ : Lg) (f : Lg → Lg) (r : Dk × Wl × Int) : Ld × Int := if (metL Λ r).2 = 0 then (⟨r.1, r.2.1, f (metL Λ r).1.Λ⟩, 0) else metL Λ r
def cutL (Λ : Lg) (n : Nat) : Lg := ⟨Λ.acc, Λ.cur, Λ.base, Λ.snap, Λ.ents.take n, Λ.zxs.take n, Λ.doubt⟩
def newL (Λ : Lg) (base : Int) (snap : Bs) (es : List Bs) (zs : List Int) : Lg := ⟨Λ.acc, Λ.cur, base, snap, es, zs, Λ.doubt⟩
/-! ### What lasts -/
theorem LgW.cut {Λ : Lg} (h : LgW Λ) (k : Nat) (d : Bool) : LgW ⟨Λ.acc, Λ.cur, Λ.base, Λ.snap, Λ.ents.take k, Λ.zxs.take k, d⟩ :=
 ⟨by have := h.few; show (Λ.ents.take k).length ≤ 200; rw [List.length_take]; omega, fun x hx => h.each x (List.mem_of_mem_take hx), h.base, h.snap, h.rows.take k, h.eps⟩
section
variable {P : Program} {ops : Array Oper} {n : Nat} {RO : List HP} {H : List Nat} {Fin : EF → List HP → Prop}
variable {j : Nat} {S : List Nat} {E : Env} {RW : List HP} {op : Op} {ty : TypeId} {pos : String} {aft : Array Edge}
end
theorem cloneI_spec (v : Value) (n : Nat) (xs : List Value) (p : HP) (hr : ∀ h : Hp, p h → rdS 1 h v n xs) (hc : ∀ y ∈ xs, isCell y = true) (hb : n ≤ 4294967296) : Fn Tryz.prog 181 #[v] [p] fun u L => (∃ a c, u = .slice a n c) ∧ L = [slR 3 1 u n xs, p] := by
 refine Fn.intro Tryz.func181 rfl rfl fun F W => ?_
 refine .rdAny (p := p) hr (by repeat' constructor) fun aa ca e hlen => ?_
 subst e
 refine .sr (.an rfl (.seq (.sm rfl ?_)))
 rcases aa with _ | aa
 ·refine .q (.sleq rfl rfl Tryz.underlying31) rfl (.nt (.condT rfl (.sr (.an rfl (.rt (.nilEmpty (p := p) hr (by repeat' constructor) fun e1 e2 => ?_))))))
  subst e1; subst e2
  refine .add (slR_nil 3 1) ?_
  exact .dn rfl rfl ⟨⟨_, _, rfl⟩, rfl⟩
 refine .q (.sleq rfl rfl Tryz.underlying31) rfl (.nt (.condF rfl (.sk (.sr (.oq (.buildSlice1 (vs := []) el_31 ze_3 rfl rfl rfl rfl rfl (by decide)) ?_)))))
 rintro v L' ⟨b0, rfl, rfl⟩
 refine .m rfl (.slMake (n := 0) (c := 0) (xs := []) (b := b0) (by repeat' constructor) (Nat.le_refl _) (Nat.zero_le _) rfl (.oq (.append (n := 0) (m := n) (xs := []) (ys := xs) (p := p) rfl rfl rfl el_31 (.inl ⟨_, Tryz.underlying31⟩) ze_3 rfl rfl ?hc9 ?hr10 ?hb11 (by decide)) ?_))
 case hc9 => exact hc
 case hr10 => exact hr
 case hb11 => omega
 rintro v L' ⟨⟨a1, c1, rfl⟩, rfl⟩; rw [Nat.zero_add, List.nil_append]
 refine .an rfl (.ret ?_)
 exact .dn rfl rfl ⟨⟨_, _, rfl⟩, rfl⟩
theorem snan_spec (a : Int) : Fn Tryz.prog 175 #[vint a] [] fun v L => v = .bool false ∧ L = [] := by
 refine Fn.intro Tryz.func175 rfl rfl fun F W => ?_
 refine .sr (.an rfl (.sm rfl (.m rfl (.q (.as (v' := .bool false) (by simp) (.int rfl rfl rfl)) rfl (.an rfl (.ret ?_))))))
 exact .vv
theorem cnan_spec (a : Int) : Fn Tryz.prog 201 #[vint a] [] fun v L => v = .bool false ∧ L = [] := by
 refine Fn.intro Tryz.func201 rfl rfl fun F W => ?_
 refine .sr (.an rfl (.sm rfl (.m rfl (.q (.as (v' := .bool false) (by simp) (.int rfl rfl rfl)) rfl (.an rfl (.ret ?_))))))
 exact .vv
theorem less_spec (a b : Int) : Fn Tryz.prog 174 #[vint a, vint b] [] fun v L => v = .bool (decide (a < b)) ∧ L = [] := by
 refine Fn.intro Tryz.func174 rfl rfl fun F W => ?_
 refine .sr (.an rfl (.sm rfl (.cv Tryz.func201 [_] (cnan_spec a) ?_)))
 refine .m rfl (.gk (.gk (.gk (.u (.pickF rfl rfl) (.m rfl (.grun (t := 12) rfl rfl rfl (.m rfl (.grun (t := 12) rfl rfl rfl (.m rfl (.grun (t := 12) rfl rfl rfl (.ui rfl rfl rfl (.u (.pickF rfl rfl) (.an rfl (.ret ?_))))))))))))))
 exact .vv
theorem bs_in {zs : List Int} {z : Int} {i : Nat} (hs : zs.Pairwise (· < ·)) (hi : i < zs.length) (h : zs.getD i 0 = z) : z ∈ zs ∧ i = zs.idxOf z := by
 have e : zs[i] = z := by simpa [List.getD_eq_getElem?_getD, hi] using h
 have hn : zs.Nodup := hs.imp (fun h => by omega)
 refine ⟨e ▸ List.getElem_mem hi, ?_⟩
 have hl := List.idxOf_lt_length_of_mem (e ▸ List.getElem_mem hi : z ∈ zs)
 have h1 : zs[zs.idxOf z] = z := List.getElem_idxOf hl
 exact (List.getElem_inj hn).1 (e.trans h1.symm)
theorem bs_out {zs : List Int} {z : Int} {i : Nat} (hs : zs.Pairwise (· < ·)) (h1 : ∀ k, k < i → zs.getD k 0 < z) (h2 : ∀ k, i ≤ k → k < zs.length → z ≤ zs.getD k 0) (h : ¬ (i < zs.length ∧ zs.getD i 0 = z)) : ¬ z ∈ zs := by
 intro hm
 obtain ⟨k, hk, hz⟩ := List.mem_iff_getElem.1 hm
 have e : zs.getD k 0 = z := by simpa [List.getD_eq_getElem?_getD, hk] using hz
 rcases Nat.lt_or_ge k i with g | g
 ·have := h1 k g; omega
 ·have hi : i < zs.length := by omega
  have h3 := h2 i (Nat.le_refl _) hi
  rcases Nat.eq_or_lt_of_le g with g | g
  ·subst g; exact h ⟨hi, e⟩
  ·have := List.pairwise_iff_getElem.1 hs i k hi hk g
   have e1 : zs.getD i 0 = zs[i] := by simp [List.getD_eq_getElem?_getD, hi]
   exact h ⟨hi, by omega⟩
theorem half_conv (a b : Nat) (h : a + b ≤ 8589934592) : Value.int .i64 (IntKind.i64.wrap ((IntKind.u64.wrap ((a : Int) + b)).fdiv (2 ^ min (1 : Int).toNat IntKind.u64.bits))) = vint (((a + b) / 2 : Nat) : Int) := by
 have e1 : IntKind.u64.wrap ((a : Int) + b) = ((a + b : Nat) : Int) := by
  simp [IntKind.wrap, IntKind.bits, IntKind.signed]; omega
 rw [e1]
 have e2 : ((a + b : Nat) : Int).fdiv (2 ^ min (1 : Int).toNat IntKind.u64.bits) = (((a + b) / 2 : Nat) : Int) := by
  show ((a + b : Nat) : Int).fdiv 2 = _
  rw [Int.fdiv_eq_ediv_of_nonneg _ (by decide)]; omega
 rw [e2]
 have e3 : IntKind.i64.wrap (((a + b) / 2 : Nat) : Int) = (((a + b) / 2 : Nat) : Int) := by
  rw [wrap64]; omega
 rw [e3]
theorem up_at {zs : List Int} (hs : zs.Pairwise (· < ·)) {a b : Nat} (h : a < b) (hb : b < zs.length) : zs.getD a 0 < zs.getD b 0 := by
 have := List.pairwise_iff_getElem.1 hs a b (by omega) hb h
 simpa [List.getD_eq_getElem?_getD, hb, show a < zs.length by omega] using this
theorem up_lt {zs : List Int} (hs : zs.Pairwise (· < ·)) {a b : Nat} {z : Int} (hb : b < zs.length) (h : a < b) (hz : zs.getD b 0 < z) : zs.getD a 0 < z := by
 have := up_at hs h hb; omega
theorem up_ge {zs : List Int} (hs : zs.Pairwise (· < ·)) {a b : Nat} {z : Int} (h : b ≤ a) (ha : a < zs.length) (hz : ¬ zs.getD b 0 < z) : z ≤ zs.getD a 0 := by
 rcases Nat.eq_or_lt_of_le h with g | g
 ·subst g; omega
 ·have := up_at hs g ha; omega
theorem bsearch_spec (va : Value) (zs : List Int) (z : Int) (p : HP) (hr : ∀ h : Hp, p h → rdS 1 h va zs.length (ints zs)) (hs : zs.Pairwise (· < ·)) (hl : zs.length ≤ 4294967296) : Fn Tryz.prog 133 #[va, vint z] [p] fun v L => (∃ i : Nat, v = .tuple #[vint i, .bool (decide (z ∈ zs))] ∧ (z ∈ zs → i = zs.idxOf z)) ∧ L = [p] := by
 refine Fn.intro Tryz.func133 rfl rfl fun F W => ?_
 refine .rdAny (p := p) hr (by repeat' constructor) fun aa ca e0 _ => ?_
 subst e0
 refine .sr (.a rfl (.an rfl (.sm rfl (.q (.slen rfl Tryz.underlying31 rfl) rfl (.an rfl (.sm rfl (.a rfl (.an rfl (.seq (.block (.loopK (ι := Nat × Nat) (fun q E => (7, vint q.1) :: (8, vint q.2) :: E) (fun q => []) (fun q => q.1 ≤ q.2 ∧ q.2 ≤ zs.length ∧ (∀ k, k < q.1 → zs.getD k 0 < z) ∧ ∀ k, q.2 ≤ k → k < zs.length → z ≤ zs.getD k 0) (fun q => q.2 - q.1) (0, zs.length) (ts := [0, 1, 4, 5, 6]) (.cons rfl (.cons rfl (.cons rfl (.cons rfl (.cons rfl (.nil)))))) (⟨Nat.zero_le _, Nat.le_refl _, fun k hk => absurd hk (Nat.not_lt_zero k), fun k h1 h2 => absurd h2 (Nat.not_lt.2 h1)⟩) ⟨rfl, rfl, rfl, rfl, rfl, rfl, rfl, trivial⟩ (by repeat' constructor) ?_)))))))))))
 rintro ⟨i, j⟩ ⟨hij, hj, hlo, hhi⟩
 dsimp only
 dsimp only at hij hj hlo hhi
 refine .seq (.sm rfl (.m rfl (.ui rfl rfl rfl (.nt (.condD rfl (fun h15 => ?_) (fun h15 => ?_))))))
 ·have hm : (i + j) / 2 < zs.length := by omega
  refine .rdShape (p := p) hr (by repeat' constructor) (by omega) fun ba oa e => ?_
  subst e
  refine .sk (.block (.sm rfl (.m rfl (.q (.add rfl rfl (by omega)) rfl (.q (.conv rfl Tryz.underlying3 Tryz.underlying39) rfl (.q (.shr rfl rfl (by first | decide | omega)) rfl (.q (.as (v' := vint (((i + j) / 2 : Nat) : Int)) (by exact half_conv i j (by omega)) (.conv rfl Tryz.underlying39 Tryz.underlying3)) rfl (.an rfl (.sm rfl (.m rfl (.q (.indexAddr rfl rfl el_31 (by omega)) rfl (.q (.loadEl (p := p) (i := ((i + j) / 2) * 1) (v := vint (zs.getD ((i + j) / 2) 0)) rfl ag_3 (by repeat' constructor) hr (by have hil : (i + j) / 2 < zs.length := (by omega); simp [ints, List.getD_eq_getElem?_getD, hil])) rfl ?_))))))))))))
  refine .m rfl (.cv Tryz.func174 [_, _] (less_spec _ z) ?_)
  refine .nt (.condD rfl (fun h27 => ?_) (fun h27 => ?_))
  ·refine .region (.m rfl (.q (.add rfl rfl (by omega)) rfl (.a rfl (.nil (.blk_n (.then_n ?_))))))
   exact .rk (((i + j) / 2 + 1, j)) (⟨by dsimp only; omega, hj, fun k hk => by rcases Nat.lt_or_ge k ((i + j) / 2) with g | g; exact up_lt hs (by omega) g h27; obtain rfl : k = (i + j) / 2 := (by dsimp only at hk; omega); exact h27, hhi⟩) (by dsimp only; omega) ⟨rfl, rfl, rfl, rfl, rfl, rfl, rfl, trivial⟩
  refine .region (.m rfl (.a rfl (.nil (.blk_n (.then_n ?_)))))
  exact .rk ((i, (i + j) / 2)) (⟨by dsimp only; omega, by dsimp only; omega, hlo, fun k h1 h2 => up_ge hs h1 h2 h27⟩) (by dsimp only; omega) ⟨rfl, rfl, rfl, rfl, rfl, rfl, rfl, trivial⟩
 refine .exit (.then_e (.then_e (.blk_e (.then_n (.sm rfl (.m rfl (.m rfl (.ui rfl rfl rfl (.m rfl (.dec (t := 35) rfl (fun h8_35 => ?_) (fun h8_35 => ?_)))))))))))
 ·refine .rdShape (p := p) hr (by repeat' constructor) (by omega) fun ba oa e => ?_
  subst e
  refine .kDT (t := 34) rfl h8_35 (.grun (t := 35) rfl rfl rfl (.m rfl (.grun (t := 35) rfl rfl rfl (.m rfl (.grun (t := 35) rfl rfl rfl (.q (.indexAddr rfl rfl el_31 (by omega)) rfl (.grun (t := 35) rfl rfl rfl (.q (.loadEl (p := p) (i := (i) * 1) (v := vint (zs.getD (i) 0)) rfl ag_3 (by repeat' constructor) hr (by have hil : i < zs.length := (by omega); simp [ints, List.getD_eq_getElem?_getD, hil])) rfl ?_))))))))
  refine .grun (t := 35) rfl rfl rfl (.m rfl (.grun (t := 35) rfl rfl rfl (.ui rfl rfl rfl (.grun (t := 35) rfl rfl rfl (.m rfl (.dec (t := 42) rfl (fun h8_42 => ?_) (fun h8_42 => ?_)))))))
  ·refine .kDT (t := 41) rfl h8_42 (.gk (.gk (.gk (.gk (.gk (.gk (.gskipU (t := 48) rfl rfl rfl (.gskipU (t := 48) rfl rfl rfl (.gk (.grun (t := 35) rfl rfl rfl (.u (.pickT rfl rfl) (.u (.pickT rfl rfl) (.a rfl (.an rfl (.ret ?_)))))))))))))))
   have hji : j = i := by omega
   subst hji
   exact .dn rfl rfl ⟨⟨_, by rw [decide_eq_true (bs_in hs (by omega) h8_42).1], fun _ => (bs_in hs (by omega) h8_42).2⟩, rfl⟩
  refine .kDF (t := 41) rfl h8_42 (.grun (t := 42) rfl rfl rfl (.m rfl (.grun (t := 42) rfl rfl rfl (.m rfl (.grun (t := 42) rfl rfl rfl (.q (.indexAddr rfl rfl el_31 (by omega)) rfl (.grun (t := 42) rfl rfl rfl (.q (.loadEl (p := p) (i := (i) * 1) (v := vint (zs.getD (i) 0)) rfl ag_3 (by repeat' constructor) hr (by have hil : i < zs.length := (by omega); simp [ints, List.getD_eq_getElem?_getD, hil])) rfl ?_))))))))
  refine .grun (t := 42) rfl rfl rfl (.cv Tryz.func175 [_] (snan_spec _) ?_)
  refine .grun (t := 42) rfl rfl rfl (.m rfl (.gk (.gk (.grun (t := 42) rfl rfl rfl (.u (.pickF rfl rfl) (.grun (t := 35) rfl rfl rfl (.u (.pickF rfl rfl) (.u (.pickT rfl rfl) (.a rfl (.an rfl (.ret ?_)))))))))))
  have hji : j = i := by omega
  subst hji
  exact .dn rfl rfl ⟨⟨_, by rw [decide_eq_false (bs_out hs hlo hhi (fun g => h8_42 g.2))], fun h => absurd h (bs_out hs hlo hhi (fun g => h8_42 g.2))⟩, rfl⟩
 refine .kDF (t := 34) rfl h8_35 (.gk (.gk (.gk (.gk (.gk (.gk (.gk (.gskipU (t := 42) rfl rfl rfl (.gskipU (t := 42) rfl rfl rfl (.gskipU (t := 42) rfl rfl rfl (.gskipU (t := 42) rfl rfl rfl (.gskipU (t := 42) rfl rfl rfl (.gskipU (t := 42) rfl rfl rfl (.gskipU (t := 48) rfl rfl rfl (.gskipU (t := 48) rfl rfl rfl (.gskipU (t := 42) rfl rfl rfl (.gk (.u (.pickF rfl rfl) (.a rfl (.an rfl (.ret ?_)))))))))))))))))))))
 have hji : j = i := by omega
 subst hji
 exact .dn rfl rfl ⟨⟨_, by rw [decide_eq_false (bs_out hs hlo hhi (fun g => by omega))], fun h => absurd h (bs_out hs hlo hhi (fun g => by omega))⟩, rfl⟩
theorem lupto_spec (g x : Nat) (Λ : Lg) (z : Int) (hΛ : LgI Λ) (hs : Λ.zxs.Pairwise (· < ·)) : Fn Tryz.prog 74 #[vptr g, vint z] [lgR g x Λ] fun v L => v = .tuple #[vint ((placeZ Λ z).getD 0 : Nat), .bool (placeZ Λ z).isSome] ∧ L = [lgR g x Λ] := by
 refine Fn.intro Tryz.func74 rfl rfl fun F W => ?_
 refine .lgOpen (by repeat' constructor) fun ea ec za zc => ?_
 have h1 := hΛ.ents
 have h2 := hΛ.same
 refine .sr (.a rfl (.an rfl (.sm rfl (.nf rfl fo_79_5 (.u (.ld rfl ag_31) (.m rfl (.oq (.c Tryz.func133 [_, _] (bsearch_spec _ Λ.zxs z (intR (.slice za Λ.zxs.length zc) Λ.zxs) (fun h hp => slR_rd hp) hs (by omega))) ?_)))))))
 rintro v L' ⟨⟨i, rfl, hix⟩, rfl⟩
 refine .m rfl (.u (.extract rfl rfl) (.u (.extract rfl rfl) (.a rfl (.an rfl (.seq (.sm rfl (.nt (.condD rfl (fun h17 => ?_) (fun h17 => ?_)))))))))
 ·have hil := List.idxOf_lt_length_of_mem h17
  have hi := hix h17
  refine .sm rfl (.q (.add rfl rfl (by omega)) rfl (.a rfl (.an rfl (.rt (.lf (g := g) (x := x) (ea := ea) (ec := ec) (za := za) (zc := zc) (m := Λ.ents.length) (k := Λ.zxs.length) Λ ?_)))))
  have hp : placeZ Λ z = some (Λ.zxs.idxOf z + 1) := by unfold placeZ; rw [if_pos h17]
  rw [hp, hi]
  exact .dn rfl rfl ⟨by simp, rfl⟩
 refine .sk (.seq (.draw [] [[0, 1, 2, 3, 4, 5, 6, 7]] mixed (by kernel_rfl) (.g0 (.mv rfl rfl (.mv rfl rfl (.nf rfl rfl rfl fo_79_2 (.kv rfl (.ld rfl ag_3) (.kv rfl (.int rfl rfl rfl) (.kv rfl (.assign rfl) (.kv rfl (.assign rfl) (.pf (.ret (.lf (g := g) (x := x) (ea := ea) (ec := ec) (za := za) (zc := zc) (m := Λ.ents.length) (k := Λ.zxs.length) Λ ?_)))))))))))))
 have hp : placeZ Λ z = if z = Λ.base then some 0 else none := by unfold placeZ; rw [if_neg h17]
 rw [hp]
 exact .dn rfl rfl ⟨by by_cases hz : z = Λ.base <;> simp [hz], rfl⟩
theorem lmetC_spec (g x : Nat) (Λ : Lg) (e : Int) (ea : Option Addr) (ec : Nat) (za : Option Addr) (zc : Nat) : Fn Tryz.prog 50 #[vptr g, vint e] [ptc g [vint Λ.acc, vint Λ.cur, vptr x, vint Λ.base, vstr Λ.snap, .slice ea Λ.ents.length ec, .slice za Λ.zxs.length zc, .bool Λ.doubt] 79] fun v L => v = vint (metE e) ∧ L = [ptc g [vint Λ.acc, vint Λ.cur, vptr x, vint Λ.base, vstr Λ.snap, .slice ea Λ.ents.length ec, .slice za Λ.zxs.length zc, .bool (Λ.met e).doubt] 79] := by
 refine Fn.intro Tryz.func50 rfl rfl fun F W => ?_
 refine .sr (.an rfl (.seq (.sm rfl (.nt (.block (.sr (.ui rfl rfl rfl (.an rfl (.condD rfl (fun h6 => ?_) (fun h6 => ?_))))))))))
 ·refine .region (.m rfl (.nf rfl fo_79_6 (.st rfl rfl rfl sz_4 ?_)))
  refine .nil (.blk_n (.then_n (.sm rfl (.an rfl (.ret ?_)))))
  have hm : (Λ.met e).doubt = true := by unfold Lg.met; rw [if_pos h6]
  have he : metE e = e := by unfold metE; rw [if_neg (by omega)]
  rw [hm, he]
  exact .vv
 refine .seq (.sr (.ui rfl rfl rfl (.an rfl (.dec (t := 11) rfl (fun h11 => ?_) (fun h11 => ?_)))))
 ·refine .condT rfl (.sk (.condT rfl (.sr (.an rfl (.ret (.blk_r (.then_r ?_)))))))
  have hm : (Λ.met e).doubt = Λ.doubt := by unfold Lg.met; rw [if_neg h6]
  have he : metE e = 83 := by unfold metE; rw [if_pos (by omega)]
  rw [hm, he]
  exact .vv
 refine .condF rfl (.region (.ui rfl rfl rfl (.an rfl (.dec (t := 11) rfl (fun h11 => ?_) (fun h11 => ?_)))))
 ·refine .condT rfl (.sr (.an rfl (.ret (.blk_r (.then_r ?_)))))
  have hm : (Λ.met e).doubt = Λ.doubt := by unfold Lg.met; rw [if_neg h6]
  have he : metE e = 83 := by unfold metE; rw [if_pos (by omega)]
  rw [hm, he]
  exact .vv
 refine .condF rfl (.skip (.blk_n (.then_n (.sm rfl (.an rfl (.ret ?_))))))
 have hm : (Λ.met e).doubt = Λ.doubt := by unfold Lg.met; rw [if_neg h6]
 have he : metE e = e := by unfold metE; rw [if_neg (by omega)]
 rw [hm, he]
 exact .vv
theorem met_acc {Λ : Lg} {e : Int} : (Λ.met e).acc = Λ.acc := by unfold Lg.met; split <;> rfl
theorem met_cur {Λ : Lg} {e : Int} : (Λ.met e).cur = Λ.cur := by unfold Lg.met; split <;> rfl
theorem met_base {Λ : Lg} {e : Int} : (Λ.met e).base = Λ.base := by unfold Lg.met; split <;> rfl
theorem met_snap {Λ : Lg} {e : Int} : (Λ.met e).snap = Λ.snap := by unfold Lg.met; split <;> rfl
theorem met_ents {Λ : Lg} {e : Int} : (Λ.met e).ents = Λ.ents := by unfold Lg.met; split <;> rfl
theorem met_zxs {Λ : Lg} {e : Int} : (Λ.met e).zxs = Λ.zxs := by unfold Lg.met; split <;> rfl
theorem doubt_of {Λ : Lg} {e : Int} (h : metE e = 0) : (Λ.met e).doubt = Λ.doubt := by
 unfold Lg.met
 rw [if_neg]
 intro g; rw [g] at h; exact absurd h (by decide)
theorem lcut_spec (g x d : Nat) (δ : Dk) (ω : Wl) (Λ : Lg) (z : Int) (hI : WlI δ ω) (hΛ : LgI Λ) (hs : Λ.zxs.Pairwise (· < ·)) (hsn : Λ.snap.length ≤ 65536) : Fn Tryz.prog 27 #[vptr g, vint z] [lgR g x Λ, wlR x d ω, dkR d δ] fun v L => v = vint (lgCut ⟨δ, ω, Λ⟩ z).2 ∧ L = [lgR g x (lgCut ⟨δ, ω, Λ⟩ z).1.Λ, wlR x d (lgCut ⟨δ, ω, Λ⟩ z).1.ω, dkR d (lgCut ⟨δ, ω, Λ⟩ z).1.δ] := by
 refine Fn.intro Tryz.func27 rfl rfl fun F W => ?_
 refine .lgOpen (by repeat' constructor) fun ea ec za zc => ?_
 have h1 := hΛ.ents
 have h2 := hΛ.same
 have h0 := headL_len Λ.base Λ.snap hsn
 refine .sr (.an rfl (.seq (.sm rfl (.nf rfl fo_79_6 (.u (.ld rfl ag_4) (.nt (.condB rfl (fun h11 => ?_) (fun h11 => ?_))))))))
 ·refine .sr (.an rfl (.rt ?_))
  have hr : lgCut ⟨δ, ω, Λ⟩ z = (⟨δ, ω, Λ⟩, 2) := by unfold lgCut; dsimp only; rw [if_pos h11]
  rw [hr]
  try dsimp only
  refine .lf (g := g) (x := x) Λ ?_
  exact .vv
 refine .sk (.seq (.lf (g := g) (x := x) Λ ?_))
 refine .region (.m rfl (.m rfl (.cv Tryz.func74 [_, _] (lupto_spec g x Λ z hΛ hs) ?_)))
 refine .m rfl (.u (.extract rfl rfl) (.u (.extract rfl rfl) (.a rfl (.an rfl (.seq (.sr ?_))))))
 rcases hpl : placeZ Λ z with _ | n
 ·refine .m rfl (.u (.not rfl) (.nt (.condT rfl (.sr (.an rfl (.rt ?_))))))
  have hr : lgCut ⟨δ, ω, Λ⟩ z = (⟨δ, ω, Λ⟩, 81) := by unfold lgCut; dsimp only; rw [if_neg (by rw [h11]; decide), hpl]
  rw [hr]
  try dsimp only
  exact .vv
 simp only [Option.getD_some]
 have hpe := (place_le hpl).1
 refine .m rfl (.u (.not rfl) (.nt (.condF rfl (.sk (.seq (.lgOpen (by repeat' constructor) fun ea ec za zc => (.slAddr (a := ea) (c := ec) (by repeat' constructor) fun hcap1 hadea => (.slAddr (a := za) (c := zc) (by repeat' constructor) fun hcap2 hadza => (.draw [13, 17, 18] [[0, 1, 2, 3, 4, 5, 6, 7, 8, 9, 10, 11, 12, 15, 13, 14, 16, 17], [18], [19]] mixed (by kernel_rfl) (.go [ptc g _ _] (by repeat' constructor) (.k rfl (.move rfl) (.k rfl (.move rfl) (.k rfl (.nilp rfl) (.k rfl (.fieldAddr rfl fo_79_1) (.k rfl (.ld rfl ag_77) (.mv rfl rfl (.nf rfl rfl rfl fo_79_2 (.kv rfl (.ld rfl ag_3) (.mv rfl rfl (.nf rfl rfl rfl fo_79_3 (.kv rfl (.ld rfl ag_9) (.k rfl (.move rfl) (.hh rfl (.c Tryz.func46 [_, _] (lahead_spec Λ.base Λ.snap hΛ.base (by omega))) ?_)))))))))))))))))))))))
 rintro v L' ⟨bh, ch, rfl, rfl⟩
 refine D.kv rfl (.slen rfl Tryz.underlying46 rfl) (.kv rfl (.as (v' := vint (((headL Λ.base Λ.snap).length + n : Nat) : Int)) (by simp) (.add rfl rfl (by omega))) (.hh rfl (.c Tryz.func75 [_, _] (wcut_spec x d ω δ (((headL Λ.base Λ.snap).length + n : Nat) : Int) hI)) ?_))
 rintro v L' ⟨rfl, rfl⟩
 refine D.ph (.g0 (.hh rfl (.c Tryz.func50 [_, _] (lmetC_spec g x Λ _ ea ec za zc)) ?_))
 rintro v L' ⟨rfl, rfl⟩
 refine D.ph (.g0 (.kv rfl (.assign rfl) (.pf (.seq (.sm rfl (.ui rfl rfl rfl (.nt (.condD rfl (fun h40 => ?_) (fun h40 => ?_)))))))))
 ·refine .draw [16, 19] [[0, 1, 2, 3, 4, 5, 6, 7, 8, 9, 10, 11, 12, 13, 14, 15, 16], [17, 18, 19]] mixed (by kernel_rfl) (.g0 (.mv rfl rfl (.k rfl (.move rfl) (.mv rfl rfl (.nf rfl rfl rfl fo_79_4 (.kv rfl (.ld rfl ag_46) (.mv rfl rfl (.kv rfl (.to (v' := .slice ea n ec) (.slTo (j := (n : Int)) rfl el_46 rfl (by omega) hadea) (by rw [Int.toNat_natCast])) (.mv rfl rfl (.nf rfl rfl rfl fo_79_5 (.kv rfl (.ld rfl ag_31) (.k rfl (.move rfl) (.k rfl (.to (v' := .slice za n zc) (.slTo (j := (n : Int)) rfl el_31 rfl (by omega) hadza) (by rw [Int.toNat_natCast])) (.nf rfl rfl rfl fo_79_4 (.hh rfl (.store rfl rfl rfl sz_46 ?c52 (nfz0 _ _)) ?_)))))))))))))))
  case c52 => first | decide | (simp; omega) | simp
  rintro v L' rfl
  refine D.ph (.g0 (.nf rfl rfl rfl fo_79_5 (.hh rfl (.store rfl rfl rfl sz_31 ?c57 (nfz0 _ _)) ?_)))
  case c57 => first | decide | (simp; omega) | simp
  rintro v L' rfl
  refine D.pf (.sm rfl (.an rfl (.ret ?_)))
  have hr : lgCut ⟨δ, ω, Λ⟩ z = lgCut2 ⟨δ, ω, Λ⟩ n := by unfold lgCut; dsimp only; rw [if_neg (by rw [h11]; decide), hpl]
  rw [hr]
  have hr2 : lgCut2 ⟨δ, ω, Λ⟩ n = (⟨(cutZ δ ω (((headL Λ.base Λ.snap).length + n : Nat) : Int)).1, (cutZ δ ω (((headL Λ.base Λ.snap).length + n : Nat) : Int)).2.1, ⟨Λ.acc, Λ.cur, Λ.base, Λ.snap, Λ.ents.take n, Λ.zxs.take n, Λ.doubt⟩⟩, 0) := by unfold lgCut2; dsimp only; rw [if_pos (show (metL Λ (cutZ δ ω (((headL Λ.base Λ.snap).length + n : Nat) : Int))).2 = 0 from h40)]
  rw [hr2, h40]
  try dsimp only
  refine .slTo (a := ea) (c := ec) (m := Λ.ents.length) (k := n) (by omega) (by repeat' constructor) (.slTo (a := za) (c := zc) (m := Λ.zxs.length) (k := n) (by omega) (by repeat' constructor) ?_)
  have hmd : (Λ.met (cutZ δ ω (((headL Λ.base Λ.snap).length + n : Nat) : Int)).2.2).doubt = Λ.doubt := by unfold Lg.met; rw [if_neg (fun g2 => by rw [g2] at h40; exact absurd h40 (by decide))]
  rw [hmd]
  refine .lgFold (g := g) (x := x) (ea := ea) (ec := ec) (za := za) (zc := zc) (m := n) (k := n) (⟨Λ.acc, Λ.cur, Λ.base, Λ.snap, Λ.ents.take n, Λ.zxs.take n, Λ.doubt⟩ : Lg) (by repeat' constructor) rfl (by simp; omega) (by simp; omega) (by simp [strs, List.map_take]) (by simp [ints, List.map_take]) ?_
  exact .vv
 refine .sk (.sm rfl (.an rfl (.ret ?_)))
 have hr : lgCut ⟨δ, ω, Λ⟩ z = lgCut2 ⟨δ, ω, Λ⟩ n := by unfold lgCut; dsimp only; rw [if_neg (by rw [h11]; decide), hpl]
 rw [hr]
 have hr2 : lgCut2 ⟨δ, ω, Λ⟩ n = metL Λ (cutZ δ ω (((headL Λ.base Λ.snap).length + n : Nat) : Int)) := by unfold lgCut2; dsimp only; rw [if_neg (show ¬ (metL Λ (cutZ δ ω (((headL Λ.base Λ.snap).length + n : Nat) : Int))).2 = 0 from h40)]
 rw [hr2]
 try dsimp only
 refine .lgFold (g := g) (x := x) (ea := ea) (ec := ec) (za := za) (zc := zc) (m := Λ.ents.length) (k := Λ.zxs.length) (Λ.met (cutZ δ ω (((headL Λ.base Λ.snap).length + n : Nat) : Int)).2.2) (by repeat' constructor) (by rw [met_acc, met_cur, met_base, met_snap]) (by rw [met_ents]) (by rw [met_zxs]) (by rw [met_ents]) (by rw [met_zxs]) ?_
 exact .vv
def cutG (a : Option Addr) (c i sz : Nat) : Option Addr := if c = i then a else a.map (·.add (i * sz))
def cutS (a : Option Addr) (c i : Nat) : Option Addr := cutG a c i 1
theorem Quiet.slFromG {P : Program} {E : Env} {L : List HP} {ty : TypeId} {t : TypeId} {x y : Operand} {a : Option Addr} {n c e sz by' : Nat} {i : Int} (hx : ev E x = some (.slice a n c)) (ht : elemOf' P t = some (e, sz, by')) (hy : ev E y = some (.int .i64 i)) (hb : 0 ≤ i ∧ i ≤ n ∧ n ≤ c) :
  Quiet P ⟨none, .slice t x (some y) none none, ty, "", #[], none⟩ E L (.slice (cutG a c i.toNat sz) (n - i.toNat) (c - i.toNat)) := by
 intro ρ w ha _
 unfold elemOf' at ht
 split at ht <;> (try cases ht)
 rename_i e' hu
 split at ht <;> (try cases ht)
 rename_i inf hin
 refine run_v ?_
 show (Instr.sliceAt t (ρ x) (some (ρ y)) none none).run P w = _
 rw [ha x _ hx, ha y _ hy]
 unfold Instr.sliceAt
 rw [run_bind (run_underlying hu)]
 show (Instr.slice t (.slice a n c) (some (.int .i64 i)) none none).run P w = _
 unfold Instr.slice
 rw [run_bind (run_underlying hu)]
 show (do let (l, h, m) ← Instr.sliceBounds true n c (some (.int .i64 i)) none none; let size ← sizeOf e; pure (.slice (if m = l then a else a.map (·.add (l * size))) (h - l) (m - l)) : Sem Value).run P w = _
 rw [run_bind (run_sliceBounds (i := i) (j := n) (.inl rfl) (.inr ⟨rfl, rfl⟩) ⟨hb.1, by omega, by omega⟩)]
 show (do let size ← sizeOf e; pure (.slice (if c = i.toNat then a else a.map (·.add (i.toNat * size))) ((n : Int).toNat - i.toNat) (c - i.toNat)) : Sem Value).run P w = _
 rw [run_bind (run_sizeOf (k := inf.size) (by simp [sizeOf', hin]))]
 rw [Int.toNat_natCast]; rfl
theorem Quiet.slFromS {P : Program} {E : Env} {L : List HP} {ty : TypeId} {t : TypeId} {x y : Operand} {a : Option Addr} {n c e by' : Nat} {i : Int} (hx : ev E x = some (.slice a n c)) (ht : elemOf' P t = some (e, 1, by')) (hy : ev E y = some (.int .i64 i)) (hb : 0 ≤ i ∧ i ≤ n ∧ n ≤ c) :
  Quiet P ⟨none, .slice t x (some y) none none, ty, "", #[], none⟩ E L (.slice (cutS a c i.toNat) (n - i.toNat) (c - i.toNat)) := Quiet.slFromG hx ht hy hb
theorem slR_from {T : TypeId} {m c n : Nat} {a : Option Addr} {xs : List Value} {h : Hp} (hn : n ≤ m) (hp : slR T 1 (.slice a m c) m xs h) : rdS 1 h (.slice (cutS a c n) (m - n) (c - n)) (m - n) (xs.drop n) := by
 have hl := slR_length hp
 rcases Nat.lt_or_ge n m with g | g
 ·rcases hp with ⟨-, h2, -⟩ | ⟨b, cap, rest, fr, hv, hb, h1, h2, h3, h4⟩
  ·omega
  ·simp only [Value.slice.injEq] at hv
   obtain ⟨rfl, -, rfl⟩ := hv
   have h9 : slR T 1 (.slice (some ⟨b, 0, none⟩) m c) m xs h := .inr ⟨b, c, rest, fr, rfl, hb, h1, h2, h3, h4⟩
   have := rdS_drop (k := n) (slR_rd h9) g
   unfold cutS cutG
   rw [if_neg (by omega)]
   simp only [Option.map_some, Addr.add_eq, Nat.mul_one] at this ⊢
   exact this
 ·obtain rfl : n = m := by omega
  refine .inl ⟨by omega, List.drop_eq_nil_of_le (by omega), _, _, by rw [Nat.sub_self]⟩
def lgNR (b : Nat) (base : Int) (snap : Bs) (es : List Bs) (zs : List Int) : HP := fun h => ∃ y : (Option Addr × Nat) × (Option Addr × Nat), True ∧ sep [ptc b [vint 0, vint 0, .pointer none, vint base, vstr snap, .slice y.1.1 es.length y.1.2, .slice y.2.1 zs.length y.2.2, .bool false] 79,
 strR (.slice y.1.1 es.length y.1.2) es, intR (.slice y.2.1 zs.length y.2.2) zs] h
section
variable {W : World} {n : Nat} {ds : List Deferred} {E : Env} {L R : List HP} {X : Act → World → Prop}
theorem G.lgNOpen {b : Nat} {base : Int} {snap : Bs} {es : List Bs} {zs : List Int} (hL : Pick (lgNR b base snap es zs) L R) (h : ∀ ea ec za zc, G W n ds E (ptc b [vint 0, vint 0, .pointer none, vint base, vstr snap, .slice ea es.length ec, .slice za zs.length zc, .bool false] 79 :: strR (.slice ea es.length ec) es :: intR (.slice za zs.length zc) zs :: R) X) : G W n ds E L X :=
 G.focus hL (G.open (q := fun y : (Option Addr × Nat) × (Option Addr × Nat) => [ptc b [vint 0, vint 0, .pointer none, vint base, vstr snap, .slice y.1.1 es.length y.1.2, .slice y.2.1 zs.length y.2.2, .bool false] 79, strR (.slice y.1.1 es.length y.1.2) es, intR (.slice y.2.1 zs.length y.2.2) zs]) (φ := fun _ => True) (fun _ hp => hp) fun y _ => h y.1.1 y.1.2 y.2.1 y.2.2)
theorem G.lgNFold {b : Nat} (base : Int) (snap : Bs) (es : List Bs) (zs : List Int) {l xs ys : List Value} {ea za : Option Addr} {ec zc m k : Nat} (hL : Picks [ptc b l 79, slR 9 1 (.slice ea m ec) m xs, slR 3 1 (.slice za k zc) k ys] L R)
  (hl : l = [vint 0, vint 0, .pointer none, vint base, vstr snap, .slice ea m ec, .slice za k zc, .bool false]) (hm : m = es.length) (hk : k = zs.length) (he : xs = strs es) (hz : ys = ints zs) (h : G W n ds E (lgNR b base snap es zs :: R) X) : G W n ds E L X := by
 subst hl; subst hm; subst hk; subst he; subst hz
 exact G.fold hL (fun _ hp => ⟨((ea, ec), (za, zc)), trivial, hp⟩) h
end
theorem recZ_len' (s : Bs) : (recZ s).length = s.length + 6 := by rw [recZ_len]
theorem laid_few : ∀ {l : List Bs}, (∀ s ∈ l, s.length ≤ 4000) → (laidZ l).length ≤ l.length * 4006
 | [], _ => by simp [laidZ]
 | s :: l, h => by
  have h1 := laid_few (l := l) (fun x hx => h x (List.mem_cons_of_mem _ hx))
  have h2 := h s (List.mem_cons_self ..)
  have e : laidZ (s :: l) = recZ s ++ laidZ l := by simp [laidZ]
  rw [e, List.length_append, recZ_len', List.length_cons]
  omega
theorem renew_bound {base : Int} {snap : Bs} {es : List Bs} (hs : snap.length ≤ 65536) (he : es.length ≤ 200) (h : ((headL base snap ++ es).any fun s => decide (s.length > 4000)) = false) : (laidZ (headL base snap ++ es)).length ≤ 3000000 := by
 have h1 := headL_len base snap hs
 have h2 := laid_few (l := headL base snap ++ es) (fun s hs => by
  have := List.any_eq_false.1 h s hs
  simpa using this)
 rw [List.length_append] at h2
 omega
theorem renew_bad {s : Ld} {base : Int} {snap : Bs} {es : List Bs} {zs : List Int} (h : (lgRenew s base snap es zs).2 ≠ 0) : ∃ e, (lgRenew s base snap es zs).1.Λ = s.Λ.met e := by
 unfold lgRenew at h ⊢
 split
 ·exact ⟨0, rfl⟩
 ·rename_i g
  rw [if_neg g] at h
  split
  ·rename_i g2; rw [if_pos g2] at h; exact absurd rfl h
  ·exact ⟨_, rfl⟩
end Go.Proofs.YtidjhgbdokcphaaGreat
