/- Own work, some of it printed by program, texts that were built one by one and are laid one behind the other here: law 07: steps, TreePlays: walked. | from what a call is given to the atoms of SlCore, and back to what a statement asks. | strings and rows of strings as arguments. | nested arguments decoded: slices of structs, and what the row says of their weight. | arguments of a bounded bulk (the second form's bound), decoded. | what the arguments are. | treePlays: the walk, brought to the given second form and its card. -/
import Derived.Test.YtnnbelmpbmfdnaaGreatDoorCPlays7P4
import Derived.Test.YtnnbelmpbmfdnaaGreatDoorCPlays7P0
import Derived.Test.YtnnbelmpbmfdnaaGreatDoorRows
import Derived.WalkKit
import Derived.ProofKit
import Derived.OpenShut
import Derived.JoinedCond
import Derived.Carry
import Derived.Deep.Grids
import Derived.Handed
import Derived.Deep.Strs
import Derived.Test.YtnnbelmpbmfdnaaGreatDoorCards
import Derived.Test.YtnnbelmpbmfdnaaGreatDoorTie
import Derived.Deep.DeepHandedRow
import Derived.Lib.LaidTab
set_option linter.unusedSimpArgs false
set_option linter.unusedVariables false
/- Own work, by program: law 07: steps, TreePlays: walked. -/

namespace Go.Proofs.YtnnbelmpbmfdnaaGreatDoor
open Go
theorem en_cells {p : HP} {e : En} (h : TxA p e.x e.subs) : ∀ v ∈ enC e, isCell v = true := by
  intro v hv
  unfold enC at hv
  rcases List.mem_append.1 hv with hv | hv
  · simp at hv; rcases hv with rfl | rfl | rfl <;> rfl
  · exact h.own.all v hv
theorem part_evs (τ : Tr) (x : Pt) (zx : Int) : (partZ τ x zx).2.length ≤ 2 := by
  unfold partZ createZ eraseZ
  split
  · split <;> simp
  · split
    · split
      · dsimp only; split
        · split <;> simp
        · simp
      · simp
    · split
      · simp
      · split <;> simp
theorem parts_evs (τ : Tr) (zx : Int) (l : List Pt) : (partsZ τ zx l).2.length ≤ 2 * l.length := by
  induction l using snocInd with
  | h0 => simp [parts_nil]
  | h1 l x ih =>
    rw [parts_snoc]
    dsimp only
    rw [List.length_append, List.length_append]
    have := part_evs (partsZ τ zx l).1 x zx
    simp only [List.length_cons, List.length_nil]
    omega
theorem apply_evs (τ : Tr) (zx : Int) (x : Pt) (subs : List Pt) : (applyZ τ zx x subs).2.1.length ≤ 2 * subs.length + 2 := by
  unfold applyZ
  dsimp only
  split
  · simp
  · split
    · have := parts_evs (zxT τ zx) zx (subs.filter isDel)
      have := List.length_filter_le isDel subs
      dsimp only; omega
    · split
      · have := parts_evs (zxT τ zx) zx subs
        dsimp only; omega
      · split
        · simp
        · have := part_evs (zxT τ zx) x zx
          dsimp only; omega
set_option maxHeartbeats 2000000 in
set_option maxRecDepth 100000 in
theorem step7_spec (t x : Nat) (τ : Tr) (o : Op7) (p : HP) (ho : OpA p o) (N : Nat) (hτ : τ.Ok N) (hN : N + 1 + o.e.subs.length ≤ 1073741823) (hsb : SesB τ) : Fn Tryz.prog 30 #[vptr t, vptr x, .agg (op7C o).toArray] [treeR t τ, refR x τ, p] fun r L => r = .bool true ∧ L = [treeR t (stepZ τ o), refR x (stepZ τ o), p] := by
 refine Fn.intro (vs := [vptr t, vptr x, .agg (op7C o).toArray]) Tryz.func30 rfl rfl ?_
 intro F W
 have hfew := hτ.few
 have hsf := hτ.sfew
 have hpz : (pathsZ τ).length = τ.nodes.length := List.length_map _
 have hiz : (idsZ τ).length = τ.sess.length := List.length_map _
 have htx := ho.tx
 have hes := htx.few
 have hol : (ownedZ τ o.n).length ≤ τ.nodes.length := owned_len τ o.n
 have hfa := ho.few
 refine G.seq (G.region ?_)
 refine G.op (OpSpec.box rfl) (by (repeat' constructor)) rfl ?nx1
 rintro v L' ⟨b5, rfl, rfl⟩
 refine G.q (Quiet.assign rfl) rfl (G.nil ?_)
 refine G.ptCast (b := b5) (l' := op7C o) (by (repeat' constructor)) rfl ?_
 refine G.then_n (G.seq (G.seq (G.region (G.q (Quiet.fieldAddr rfl fo_63_0) rfl ?_))))
 refine G.q (Quiet.load rfl ag_3 (by (repeat' constructor)) (rfl)) rfl ?_
 refine G.nil (G.then_n (G.block (G.seq (G.region (G.q (Quiet.int rfl rfl rfl) rfl (G.q (Quiet.assign rfl) rfl (G.nil (G.then_n ?_))))))))
 refine G.condD rfl (fun h32 => ?_) (fun h32 => ?_)
 ·refine G.seq (G.region (G.q (Quiet.fieldAddr rfl fo_63_3) rfl ?_))
  refine G.q (Quiet.loadAs (vs := enC o.e) rfl ag_39 (by (repeat' constructor)) (by simp [op7C, enC, ptC, stC]) rfl) rfl ?_
  refine G.op (OpSpec.call Tryz.func70 rfl rfl (vs := [_]) rfl (lent7_spec o.e p htx)) (by (repeat' constructor)) rfl ?nx9
  rintro v L' ⟨e1, rfl, hle, rfl⟩
  refine G.op (OpSpec.allocA ze_39) (by (repeat' constructor)) rfl ?nx11
  rintro v L' ⟨b7, rfl, rfl⟩
  refine G.op (OpSpec.storeA rfl rfl ?c13 sz_39 ?c16 ?c14 ?c15) (by (repeat' constructor)) rfl ?nx17
  case c13 => exact en_cells (lent_tx hle htx)
  case c16 => rfl
  case c14 => simp [enC, ptC]
  case c15 => exact nfz0 _ _
  rintro v L' rfl
  refine G.nil ?_
  refine G.ptCast (b := b7) (l' := enC e1) (by (repeat' constructor)) (by exact rfl) ?_
  have hlx := lent_tx hle htx
  have hl1 := hle.len
  refine G.then_n (G.seq (G.region (G.q (Quiet.move rfl) rfl ?_)))
  refine G.q (Quiet.loadAs (vs := enC e1) rfl ag_39 (by (repeat' constructor)) (by simp [enC, ptC]) rfl) rfl ?_
  refine G.op (OpSpec.call Tryz.func14 rfl rfl (vs := [_, _]) rfl (trapply_spec t τ e1.zx e1.ses e1.xid e1.x e1.subs (lentE e1) hlx N hτ (by omega))) (by (repeat' constructor)) rfl ?nx20
  rintro v L' ⟨ue, ee, rfl, he, ⟨au, cu, hu⟩, rfl⟩; rw [hle.apply] at he hu ⊢; subst he; subst hu
  refine G.q (Quiet.move rfl) rfl (G.q (Quiet.extract rfl rfl) rfl (G.q (Quiet.extract rfl rfl) rfl (G.q (Quiet.assign rfl) rfl (G.q (Quiet.assign rfl) rfl (G.nil (G.then_n (G.seq (G.region (G.q (Quiet.move rfl) rfl (G.q (Quiet.fieldAddr rfl fo_63_3) rfl ?_))))))))))
  refine G.q (Quiet.loadAs (vs := enC o.e) rfl ag_39 (by (repeat' constructor)) (by simp [op7C, enC, ptC, stC]) rfl) rfl ?_
  refine G.op (OpSpec.call Tryz.func26 rfl rfl (vs := [_, _]) rfl (rapply_spec x τ o.e.zx o.e.ses o.e.xid o.e.x o.e.subs p htx N hτ (by omega))) (by (repeat' constructor)) rfl ?nx27
  rintro v L' ⟨uf, ef, rfl, hf, ⟨aw, cw, hw⟩, rfl⟩; subst hf; subst hw
  refine G.q (Quiet.move rfl) rfl (G.q (Quiet.extract rfl rfl) rfl (G.q (Quiet.extract rfl rfl) rfl (G.q (Quiet.assign rfl) rfl (G.q (Quiet.assign rfl) rfl (G.nil (G.then_n (G.seq (G.region ?_))))))))
  refine G.q (Quiet.loadAs (vs := enC e1) rfl ag_39 (by (repeat' constructor)) (by simp [enC, ptC]) rfl) rfl ?_
  refine G.q (Quiet.fieldAddr rfl fo_63_3) rfl ?_
  refine G.q (Quiet.loadAs (vs := enC o.e) rfl ag_39 (by (repeat' constructor)) (by simp [op7C, enC, ptC, stC]) rfl) rfl ?_
  refine G.op (OpSpec.call Tryz.func71 rfl rfl (vs := [_, _]) rfl (kept7_spec e1 o.e p htx hle)) (by (repeat' constructor)) rfl ?nx34
  rintro v L' ⟨rfl, rfl⟩
  refine G.q (Quiet.assign rfl) rfl (G.nil (G.then_n (G.seq ?_)))
  have hev : (applyZ τ o.e.zx o.e.x o.e.subs).2.1.length ≤ 4194304 := by have := apply_evs τ o.e.zx o.e.x o.e.subs; omega
  refine G.region (G.q (Quiet.move rfl) rfl (G.q (Quiet.move rfl) rfl ?_))
  refine G.op (OpSpec.call Tryz.func42 rfl rfl (vs := [_, _]) rfl (events_spec (applyZ τ o.e.zx o.e.x o.e.subs).2.1 (applyZ τ o.e.zx o.e.x o.e.subs).2.1 _ _ (by omega))) (by (repeat' constructor)) rfl ?nx36
  rintro v L' ⟨rfl, rfl⟩; rw [decide_eq_true rfl]
  refine G.q (Quiet.assign rfl) rfl (G.nil (G.then_n (G.seq (G.seq (G.region (G.q (Quiet.assign rfl) rfl (G.nil (G.then_n (G.block ?_)))))))))
  refine G.loopK (ι := Nat × (List Value)) (fun q E => (14, vint q.1) :: E) (fun q => [slR 75 3 (.slice au (applyZ τ o.e.zx o.e.x o.e.subs).2.1.length cu) (applyZ τ o.e.zx o.e.x o.e.subs).2.1.length q.2]) (fun q => q.1 ≤ (applyZ τ o.e.zx o.e.x o.e.subs).2.1.length) (fun q => (applyZ τ o.e.zx o.e.x o.e.subs).2.1.length - q.1) (0, (applyZ τ o.e.zx o.e.x o.e.subs).2.1.flatMap evC) (ts := [6, 8, 9, 11, 12, 13]) (.cons rfl (.cons rfl (.cons rfl (.cons rfl (.cons rfl (.cons rfl (.nil))))))) (Nat.zero_le _) ⟨rfl, rfl, rfl, rfl, rfl, rfl, rfl, trivial⟩ (by (repeat' constructor)) ?_
  rintro ⟨j, ys⟩ hj
  dsimp only
  dsimp only at hj
  refine G.seq (G.seq (G.region (G.q (Quiet.move rfl) rfl (G.q (Quiet.move rfl) rfl (G.q (Quiet.slen rfl Tryz.underlying30 rfl) rfl (G.q (Quiet.int rfl rfl rfl) rfl (G.nil (G.then_n ?_))))))))
  refine G.condD rfl (fun h60 => ?_) (fun h60 => ?_)
  ·have hj2 : j < (applyZ τ o.e.zx o.e.x o.e.subs).2.1.length := by omega
   refine G.slShape (T := 75) (sz := 3) (v := .slice au (applyZ τ o.e.zx o.e.x o.e.subs).2.1.length cu) (xs := ys) (by (repeat' constructor)) (by omega) fun bo bo' e0 mbo _ => ?_
   simp only [Value.slice.injEq, true_and] at e0
   obtain ⟨rfl, rfl⟩ := e0
   refine G.skip (G.then_n (G.seq (G.block (G.region (G.q (Quiet.move rfl) rfl (G.q (Quiet.move rfl) rfl ?_))))))
   refine G.q (Quiet.to (v' := .agg (evC ((-1, ([], 0)) : Ev)).toArray) (Quiet.build (us := [(0, _)]) fl_75 ze_75 rfl rfl (by simp [isCell])) rfl) rfl ?_
   refine G.q (Quiet.indexAddr rfl rfl el_30 (by omega)) rfl ?_
   refine G.op (OpSpec.storeRdA (sz := 3) (j := j * 3) (k := 3) (vs := evC ((-1, ([], 0)) : Ev)) rfl rfl (by simp [evC, isCell]) sz_75 rfl ?ho47 ?hi48) (by (repeat' constructor)) rfl ?nx49
   case ho47 => omega
   case hi48 => omega
   rintro v L' rfl
   refine G.nil (G.blk_n (G.then_n (G.region (G.q (Quiet.move rfl) rfl ?_))))
   refine G.q (Quiet.add rfl rfl (by omega)) rfl ?_
   refine G.q (Quiet.assign rfl) rfl (G.nil (G.then_n ?_))
   exact G.roundK ((j + 1, spl ys (j * 3) (evC ((-1, ([], 0)) : Ev)))) (by dsimp only; omega) (by dsimp only; omega) ⟨rfl, rfl, rfl, rfl, rfl, rfl, rfl, trivial⟩ (by (repeat' constructor)) (by ((repeat (apply Have.cons; (repeat (first | exact Pick.here | apply Pick.there)))); apply Have.base; repeat' constructor))
  ·refine G.exit (G.then_e (G.then_e (G.blk_e (G.then_n (G.seq (G.region (G.q (Quiet.move rfl) rfl (G.q (Quiet.move rfl) rfl (G.grun (t := 68) rfl rfl rfl (G.q (Quiet.move rfl) rfl (G.q (Quiet.pickT rfl rfl) rfl (G.q (Quiet.move rfl) rfl (G.grun (t := 71) rfl rfl rfl (G.q (Quiet.move rfl) rfl (G.grun (t := 71) rfl rfl rfl (G.q (Quiet.move rfl) rfl (G.grun (t := 71) rfl rfl rfl ?_)))))))))))))))))
   refine G.q (Quiet.as (v' := .bool true) (by simp) (Quiet.int rfl rfl rfl)) rfl ?_
   refine G.q (Quiet.pickT rfl rfl) rfl (G.q (Quiet.assign rfl) rfl (G.nil (G.then_n (G.ret (G.blk_r (G.then_r ?_))))))
   refine G.trCast (t := t) (τ' := (stepZ τ o)) (by (repeat' constructor)) (by unfold stepZ; rw [if_pos h32]) ?_
   refine G.rfCast (x := x) (τ' := (stepZ τ o)) (by (repeat' constructor)) (by unfold stepZ; rw [if_pos h32]) ?_
   exact G.done (l := [.tmp 6]) rfl rfl ⟨rfl, rfl⟩ (by (repeat' constructor)) (by (repeat' constructor))
 ·refine G.seq (G.region (G.q (Quiet.int rfl rfl rfl) rfl (G.q (Quiet.assign rfl) rfl (G.nil (G.then_n ?_)))))
  refine G.condD rfl (fun h76 => ?_) (fun h76 => ?_)
  ·refine G.seq (G.region (G.q (Quiet.move rfl) rfl (G.q (Quiet.move rfl) rfl (G.q (Quiet.fieldAddr rfl fo_63_4) rfl ?_))))
   refine G.q (Quiet.load rfl ag_9 (by (repeat' constructor)) rfl) rfl ?_
   refine G.op (OpSpec.call Tryz.func28 rfl rfl (vs := [_, _, _]) rfl (reads7_spec t x τ o.path N hτ (by omega))) (by (repeat' constructor)) rfl ?nx62
   rintro v L' ⟨rfl, rfl⟩
   refine G.q (Quiet.assign rfl) rfl (G.nil (G.then_n (G.ret (G.blk_r (G.then_r ?_)))))
   refine G.trCast (t := t) (τ' := (stepZ τ o)) (by (repeat' constructor)) (by unfold stepZ; rw [if_neg (by omega), if_neg (by omega), if_neg (by omega), if_neg (by omega)]) ?_
   refine G.rfCast (x := x) (τ' := (stepZ τ o)) (by (repeat' constructor)) (by unfold stepZ; rw [if_neg (by omega), if_neg (by omega), if_neg (by omega), if_neg (by omega)]) ?_
   exact G.done (l := [.tmp 6]) rfl rfl ⟨rfl, rfl⟩ (by (repeat' constructor)) (by (repeat' constructor))
  ·refine G.seq (G.region (G.q (Quiet.int rfl rfl rfl) rfl (G.q (Quiet.assign rfl) rfl (G.nil (G.then_n ?_)))))
   refine G.condD rfl (fun h83 => ?_) (fun h83 => ?_)
   ·refine G.seq (G.region (G.q (Quiet.move rfl) rfl (G.q (Quiet.fieldAddr rfl fo_63_1) rfl ?_)))
    refine G.q (Quiet.load rfl ag_3 (by (repeat' constructor)) (rfl)) rfl ?_
    refine G.op (OpSpec.call Tryz.func18 rfl rfl (vs := [_, _]) rfl (trowned_spec t τ o.n N hτ (by omega))) (by (repeat' constructor)) rfl ?nx68
    rintro v L' ⟨⟨ao, co, rfl⟩, rfl⟩
    refine G.q (Quiet.assign rfl) rfl (G.nil (G.then_n (G.seq (G.region (G.q (Quiet.move rfl) rfl (G.q (Quiet.move rfl) rfl (G.q (Quiet.fieldAddr rfl fo_63_1) rfl ?_)))))))
    refine G.q (Quiet.load rfl ag_3 (by (repeat' constructor)) (rfl)) rfl ?_
    refine G.op (OpSpec.call Tryz.func66 rfl rfl (vs := [_, _]) rfl (rowned_spec x τ o.n N hτ (by omega))) (by (repeat' constructor)) rfl ?nx73
    rintro v L' ⟨⟨ap, cp, rfl⟩, rfl⟩
    refine G.op (OpSpec.call Tryz.func17 rfl rfl (vs := [_, _]) rfl (texts7_spec (ownedZ τ o.n) (ownedZ τ o.n) _ _ (by omega))) (by (repeat' constructor)) rfl ?nx75
    rintro v L' ⟨rfl, rfl⟩; rw [decide_eq_true rfl]
    refine G.q (Quiet.assign rfl) rfl (G.nil (G.then_n (G.seq (G.seq (G.region (G.q (Quiet.assign rfl) rfl (G.nil (G.then_n (G.block ?_)))))))))
    refine G.loopK (ι := Nat × (List Value)) (fun q E => (17, vint q.1) :: E) (fun q => [slR 9 1 (.slice ao (ownedZ τ o.n).length co) (ownedZ τ o.n).length q.2]) (fun q => q.1 ≤ (ownedZ τ o.n).length) (fun q => (ownedZ τ o.n).length - q.1) (0, strs (ownedZ τ o.n)) (ts := [0, 1, 5, 6, 15, 16]) (.cons rfl (.cons rfl (.cons rfl (.cons rfl (.cons rfl (.cons rfl (.nil))))))) (Nat.zero_le _) ⟨rfl, rfl, rfl, rfl, rfl, rfl, rfl, trivial⟩ (by (repeat' constructor)) ?_
    rintro ⟨j, ys⟩ hj
    dsimp only
    dsimp only at hj
    refine G.seq (G.seq (G.region (G.q (Quiet.move rfl) rfl (G.q (Quiet.move rfl) rfl (G.q (Quiet.slen rfl Tryz.underlying40 rfl) rfl (G.q (Quiet.int rfl rfl rfl) rfl (G.nil (G.then_n ?_))))))))
    refine G.condD rfl (fun h98 => ?_) (fun h98 => ?_)
    ·have hj2 : j < (ownedZ τ o.n).length := by omega
     refine G.slShape (T := 9) (sz := 1) (v := .slice ao (ownedZ τ o.n).length co) (xs := ys) (by (repeat' constructor)) (by omega) fun bo bo' e0 mbo _ => ?_
     simp only [Value.slice.injEq, true_and] at e0
     obtain ⟨rfl, rfl⟩ := e0
     refine G.skip (G.then_n (G.seq (G.block (G.region (G.q (Quiet.move rfl) rfl (G.q (Quiet.move rfl) rfl ?_))))))
     refine G.q (Quiet.indexAddr rfl rfl el_40 (by omega)) rfl ?_
     refine G.op (OpSpec.storeRd (sz := 1) (j := j * 1) rfl rfl rfl sz_9 ?ho85 ?hi86) (by (repeat' constructor)) rfl ?nx87
     case ho85 => omega
     case hi86 => omega
     rintro v L' rfl
     refine G.nil (G.blk_n (G.then_n (G.region (G.q (Quiet.move rfl) rfl ?_))))
     refine G.q (Quiet.add rfl rfl (by omega)) rfl ?_
     refine G.q (Quiet.assign rfl) rfl (G.nil (G.then_n ?_))
     exact G.roundK ((j + 1, ys.set (j * 1) (vstr [111, 118, 101, 114]))) (by dsimp only; omega) (by dsimp only; omega) ⟨rfl, rfl, rfl, rfl, rfl, rfl, rfl, trivial⟩ (by (repeat' constructor)) (by ((repeat (apply Have.cons; (repeat (first | exact Pick.here | apply Pick.there)))); apply Have.base; repeat' constructor))
    ·refine G.exit (G.then_e (G.then_e (G.blk_e (G.then_n (G.seq (G.region (G.q (Quiet.move rfl) rfl (G.q (Quiet.fieldAddr rfl fo_63_1) rfl ?_))))))))
     refine G.q (Quiet.load rfl ag_3 (by (repeat' constructor)) (rfl)) rfl ?_
     refine G.op (OpSpec.call Tryz.func19 rfl rfl (vs := [_, _]) rfl (trsession_spec t τ o.n)) (by (repeat' constructor)) rfl ?nx93
     rintro v L' ⟨rfl, rfl⟩
     refine G.q (Quiet.move rfl) rfl (G.q (Quiet.extract rfl rfl) rfl (G.q (Quiet.extract rfl rfl) rfl (G.q (Quiet.extract rfl rfl) rfl (G.q (Quiet.assign rfl) rfl (G.q (Quiet.assign rfl) rfl (G.q (Quiet.assign rfl) rfl (G.nil (G.then_n (G.seq (G.region (G.q (Quiet.move rfl) rfl (G.q (Quiet.fieldAddr rfl fo_63_1) rfl ?_))))))))))))
     refine G.q (Quiet.load rfl ag_3 (by (repeat' constructor)) (rfl)) rfl ?_
     refine G.op (OpSpec.call Tryz.func72 rfl rfl (vs := [_, _]) rfl (rsession_spec x τ o.n (by omega))) (by (repeat' constructor)) rfl ?nx101
     rintro v L' ⟨rfl, rfl⟩
     refine G.q (Quiet.assign rfl) rfl (G.nil (G.then_n (G.seq (G.seq (G.region (G.q (Quiet.move rfl) rfl (G.q (Quiet.int rfl rfl rfl) rfl (G.nil (G.then_n ?_)))))))))
     refine G.condD rfl (fun h117 => ?_) (fun h117 => ?_)
     ·refine G.seq ?_
      obtain ⟨hsd, hst⟩ := ses_neg h117
      refine G.region (G.q (Quiet.move rfl) rfl (G.q (Quiet.move rfl) rfl (G.grun (t := 119) rfl rfl rfl (G.q (Quiet.move rfl) rfl (G.grun (t := 119) rfl rfl rfl ?_)))))
      refine G.q (Quiet.as (v' := .bool true) (by simp [hsd]) (Quiet.int rfl rfl rfl)) rfl ?_
      refine G.q (Quiet.pickT rfl rfl) rfl (G.q (Quiet.move rfl) rfl (G.grun (t := 123) rfl rfl rfl (G.q (Quiet.move rfl) rfl (G.grun (t := 123) rfl rfl rfl ?_))))
      refine G.q (Quiet.as (v' := .bool true) (by simp [hsd]) (Quiet.streq rfl rfl)) rfl ?_
      refine G.q (Quiet.pickT rfl rfl) rfl (G.q (Quiet.move rfl) rfl (G.grun (t := 127) rfl rfl rfl (G.q (Quiet.move rfl) rfl (G.grun (t := 127) rfl rfl rfl ?_))))
      refine G.q (Quiet.as (v' := .bool true) (by simp [hst]) (Quiet.not rfl)) rfl ?_
      refine G.q (Quiet.pickT rfl rfl) rfl (G.q (Quiet.assign rfl) rfl (G.nil (G.then_n (G.ret (G.then_r (G.blk_r (G.then_r ?_)))))))
      refine G.trCast (t := t) (τ' := (stepZ τ o)) (by (repeat' constructor)) (by unfold stepZ; rw [if_neg (by omega), if_neg (by omega), if_neg (by omega), if_neg (by omega)]) ?_
      refine G.rfCast (x := x) (τ' := (stepZ τ o)) (by (repeat' constructor)) (by unfold stepZ; rw [if_neg (by omega), if_neg (by omega), if_neg (by omega), if_neg (by omega)]) ?_
      exact G.done (l := [.tmp 6]) rfl rfl ⟨rfl, rfl⟩ (by (repeat' constructor)) (by (repeat' constructor))
     ·refine G.skip (G.then_n (G.seq ?_))
      obtain ⟨k, hk, hsk, hsd, hst⟩ := ses_pos hτ h117
      rw [hsk]
      refine G.rfOpen (x := x) (τ := τ) (by (repeat' constructor)) fun an cn as1 cs l hl => ?_
      refine G.slShape (T := 134) (sz := 3) (v := .slice as1 τ.sess.length cs) (xs := τ.sess.flatMap rsC) (by (repeat' constructor)) (by omega) fun bs bs' e0 mbs _ => ?_
      simp only [Value.slice.injEq, true_and] at e0
      obtain ⟨rfl, rfl⟩ := e0
      refine G.region (G.q (Quiet.move rfl) rfl (G.q (Quiet.move rfl) rfl (G.grun (t := 132) rfl rfl rfl (G.q (Quiet.move rfl) rfl (G.grun (t := 132) rfl rfl rfl (G.q (Quiet.move rfl) rfl (G.grun (t := 132) rfl rfl rfl (G.q (Quiet.nilp rfl) rfl (G.grun (t := 132) rfl rfl rfl (G.q (Quiet.fieldAddr rfl fo_101_1) rfl (G.grun (t := 132) rfl rfl rfl ?_)))))))))))
      refine G.q (Quiet.load rfl ag_99 (by (repeat' constructor)) (rfl)) rfl ?_
      refine G.grun (t := 132) rfl rfl rfl (G.q (Quiet.move rfl) rfl (G.grun (t := 132) rfl rfl rfl ?_))
      refine G.q (Quiet.indexAddr rfl rfl el_99 (by omega)) rfl ?_
      refine G.grun (t := 132) rfl rfl rfl (G.q (Quiet.fieldAddr rfl fo_134_1) rfl (G.grun (t := 132) rfl rfl rfl ?_))
      refine G.q (Quiet.loadRd (sz := 3) (j := k * 3 + 1) (p := rsR _ τ.sess) rfl ag_3 (by (repeat' constructor)) (fun h hp => slR_rd hp) (by omega) ((rs_cell (l := τ.sess) (i := k) (k := 1) (by omega) (by decide)).trans rfl)) rfl ?_
      refine G.grun (t := 132) rfl rfl rfl ?_
      refine G.q (Quiet.as (v' := .bool true) (by simp [hsd]) (Quiet.int rfl rfl rfl)) rfl ?_
      refine G.q (Quiet.pickT rfl rfl) rfl (G.q (Quiet.move rfl) rfl (G.grun (t := 144) rfl rfl rfl (G.q (Quiet.move rfl) rfl (G.grun (t := 144) rfl rfl rfl (G.q (Quiet.move rfl) rfl (G.grun (t := 144) rfl rfl rfl (G.q (Quiet.nilp rfl) rfl (G.grun (t := 144) rfl rfl rfl (G.q (Quiet.fieldAddr rfl fo_101_1) rfl (G.grun (t := 144) rfl rfl rfl ?_))))))))))
      refine G.q (Quiet.load rfl ag_99 (by (repeat' constructor)) (rfl)) rfl ?_
      refine G.grun (t := 144) rfl rfl rfl (G.q (Quiet.move rfl) rfl (G.grun (t := 144) rfl rfl rfl ?_))
      refine G.q (Quiet.indexAddr rfl rfl el_99 (by omega)) rfl ?_
      refine G.grun (t := 144) rfl rfl rfl (G.q (Quiet.fieldAddr rfl fo_134_2) rfl (G.grun (t := 144) rfl rfl rfl ?_))
      refine G.q (Quiet.loadRd (sz := 3) (j := k * 3 + 2) (p := rsR _ τ.sess) rfl ag_9 (by (repeat' constructor)) (fun h hp => slR_rd hp) (by omega) ((rs_cell (l := τ.sess) (i := k) (k := 2) (by omega) (by decide)).trans rfl)) rfl ?_
      refine G.grun (t := 144) rfl rfl rfl ?_
      refine G.q (Quiet.as (v' := .bool true) (by simp [hsd]) (Quiet.streq rfl rfl)) rfl ?_
      refine G.q (Quiet.pickT rfl rfl) rfl (G.q (Quiet.move rfl) rfl (G.grun (t := 156) rfl rfl rfl ?_))
      refine G.q (Quiet.as (v' := .bool true) (by simp [hst]) (Quiet.move rfl)) rfl ?_
      refine G.q (Quiet.pickT rfl rfl) rfl (G.q (Quiet.assign rfl) rfl (G.nil ?_))
      refine G.rfFold (x := x) (τ := τ) (l := l) hl (by (repeat' constructor)) rfl rfl rfl rfl rfl ?_
      refine G.then_n (G.ret (G.blk_r (G.then_r ?_)))
      refine G.trCast (t := t) (τ' := (stepZ τ o)) (by (repeat' constructor)) (by unfold stepZ; rw [if_neg (by omega), if_neg (by omega), if_neg (by omega), if_neg (by omega)]) ?_
      refine G.rfCast (x := x) (τ' := (stepZ τ o)) (by (repeat' constructor)) (by unfold stepZ; rw [if_neg (by omega), if_neg (by omega), if_neg (by omega), if_neg (by omega)]) ?_
      exact G.done (l := [.tmp 6]) rfl rfl ⟨rfl, rfl⟩ (by (repeat' constructor)) (by (repeat' constructor))
   ·refine G.seq (G.region (G.q (Quiet.int rfl rfl rfl) rfl (G.q (Quiet.assign rfl) rfl (G.nil (G.then_n ?_)))))
    refine G.condD rfl (fun h159 => ?_) (fun h159 => ?_)
    ·refine G.seq (G.region (G.q (Quiet.move rfl) rfl ?_))
     refine G.op (OpSpec.call Tryz.func15 rfl rfl (vs := [_]) rfl (trpaths_spec t τ N hτ (by omega))) (by (repeat' constructor)) rfl ?nx127
     rintro v L' ⟨⟨a28, c28, rfl⟩, rfl⟩
     refine G.q (Quiet.assign rfl) rfl (G.nil (G.then_n (G.seq (G.region (G.q (Quiet.move rfl) rfl ?_)))))
     refine G.op (OpSpec.call Tryz.func68 rfl rfl (vs := [_]) rfl (trsessions_spec t τ N hτ hsb (by omega))) (by (repeat' constructor)) rfl ?nx130
     rintro v L' ⟨⟨a29, c29, rfl⟩, rfl⟩
     refine G.q (Quiet.assign rfl) rfl (G.nil (G.then_n (G.seq ?_)))
     refine G.rfOpen (x := x) (τ := τ) (by (repeat' constructor)) fun an cn as1 cs l hl => ?_
     have hll := nds_len hl
     refine G.region (G.q (Quiet.move rfl) rfl (G.q (Quiet.slen rfl Tryz.underlying40 rfl) rfl (G.q (Quiet.move rfl) rfl (G.q (Quiet.nilp rfl) rfl (G.q (Quiet.fieldAddr rfl fo_101_0) rfl ?_)))))
     refine G.q (Quiet.load rfl ag_98 (by (repeat' constructor)) (rfl)) rfl ?_
     refine G.q (Quiet.slen rfl Tryz.underlying98 rfl) rfl ?_
     refine G.q (Quiet.as (v' := .bool true) (by simp; omega) (Quiet.int rfl rfl rfl)) rfl ?_
     refine G.q (Quiet.move rfl) rfl (G.grun (t := 173) rfl rfl rfl (G.q (Quiet.move rfl) rfl (G.grun (t := 173) rfl rfl rfl (G.q (Quiet.slen rfl Tryz.underlying52 rfl) rfl (G.grun (t := 173) rfl rfl rfl (G.q (Quiet.move rfl) rfl (G.grun (t := 173) rfl rfl rfl (G.q (Quiet.nilp rfl) rfl (G.grun (t := 173) rfl rfl rfl (G.q (Quiet.fieldAddr rfl fo_101_1) rfl (G.grun (t := 173) rfl rfl rfl ?_)))))))))))
     refine G.q (Quiet.load rfl ag_99 (by (repeat' constructor)) (rfl)) rfl ?_
     refine G.grun (t := 173) rfl rfl rfl (G.q (Quiet.slen rfl Tryz.underlying99 rfl) rfl (G.grun (t := 173) rfl rfl rfl ?_))
     refine G.q (Quiet.as (v' := .bool true) (by simp; omega) (Quiet.int rfl rfl rfl)) rfl ?_
     refine G.q (Quiet.pickT rfl rfl) rfl (G.q (Quiet.assign rfl) rfl (G.nil ?_))
     refine G.rfFold (x := x) (τ := τ) (l := l) hl (by (repeat' constructor)) rfl rfl rfl rfl rfl ?_
     refine G.then_n (G.seq (G.seq (G.region (G.q (Quiet.assign rfl) rfl (G.nil (G.then_n (G.block ?_)))))))
     refine G.loopK (ι := Nat × (List Value)) (fun q E => (25, vint q.1) :: E) (fun q => [slR 9 1 (.slice a28 (pathsZ τ).length c28) (pathsZ τ).length q.2]) (fun q => q.1 ≤ (pathsZ τ).length) (fun q => (pathsZ τ).length - q.1) (0, strs (pathsZ τ)) (ts := [6, 22, 23, 24]) (.cons rfl (.cons rfl (.cons rfl (.cons rfl (.nil))))) (Nat.zero_le _) ⟨rfl, rfl, rfl, rfl, rfl, trivial⟩ (by (repeat' constructor)) ?_
     rintro ⟨j, ys⟩ hj
     dsimp only
     dsimp only at hj
     refine G.seq (G.seq (G.region (G.q (Quiet.move rfl) rfl (G.q (Quiet.move rfl) rfl (G.q (Quiet.slen rfl Tryz.underlying40 rfl) rfl (G.q (Quiet.int rfl rfl rfl) rfl (G.nil (G.then_n ?_))))))))
     refine G.condD rfl (fun h186 => ?_) (fun h186 => ?_)
     ·have hj2 : j < (pathsZ τ).length := by omega
      refine G.slShape (T := 9) (sz := 1) (v := .slice a28 (pathsZ τ).length c28) (xs := ys) (by (repeat' constructor)) (by omega) fun bo bo' e0 mbo _ => ?_
      simp only [Value.slice.injEq, true_and] at e0
      obtain ⟨rfl, rfl⟩ := e0
      refine G.skip (G.then_n (G.seq (G.block (G.region (G.q (Quiet.move rfl) rfl (G.q (Quiet.move rfl) rfl ?_))))))
      refine G.q (Quiet.indexAddr rfl rfl el_40 (by omega)) rfl ?_
      refine G.op (OpSpec.storeRd (sz := 1) (j := j * 1) rfl rfl rfl sz_9 ?ho154 ?hi155) (by (repeat' constructor)) rfl ?nx156
      case ho154 => omega
      case hi155 => omega
      rintro v L' rfl
      refine G.nil (G.blk_n (G.then_n (G.region (G.q (Quiet.move rfl) rfl ?_))))
      refine G.q (Quiet.add rfl rfl (by omega)) rfl ?_
      refine G.q (Quiet.assign rfl) rfl (G.nil (G.then_n ?_))
      exact G.roundK ((j + 1, ys.set (j * 1) (vstr [111, 118, 101, 114]))) (by dsimp only; omega) (by dsimp only; omega) ⟨rfl, rfl, rfl, rfl, rfl, trivial⟩ (by (repeat' constructor)) (by ((repeat (apply Have.cons; (repeat (first | exact Pick.here | apply Pick.there)))); apply Have.base; repeat' constructor))
     ·refine G.exit (G.then_e (G.then_e (G.blk_e (G.then_n (G.seq (G.seq (G.region (G.q (Quiet.assign rfl) rfl (G.nil (G.then_n (G.block ?_)))))))))))
      refine G.loopK (ι := Nat × (List Value)) (fun q E => (26, vint q.1) :: E) (fun q => [slR 3 1 (.slice a29 (idsZ τ).length c29) (idsZ τ).length q.2]) (fun q => q.1 ≤ (idsZ τ).length) (fun q => (idsZ τ).length - q.1) (0, ints (idsZ τ)) (ts := [6, 23, 24]) (.cons rfl (.cons rfl (.cons rfl (.nil)))) (Nat.zero_le _) ⟨rfl, rfl, rfl, rfl, trivial⟩ (by (repeat' constructor)) ?_
      rintro ⟨j, zs⟩ hj
      dsimp only
      dsimp only at hj
      refine G.seq (G.seq (G.region (G.q (Quiet.move rfl) rfl (G.q (Quiet.move rfl) rfl (G.q (Quiet.slen rfl Tryz.underlying52 rfl) rfl (G.q (Quiet.int rfl rfl rfl) rfl (G.nil (G.then_n ?_))))))))
      refine G.condD rfl (fun h195 => ?_) (fun h195 => ?_)
      ·have hj2 : j < (idsZ τ).length := by omega
       refine G.slShape (T := 3) (sz := 1) (v := .slice a29 (idsZ τ).length c29) (xs := zs) (by (repeat' constructor)) (by omega) fun bo bo' e0 mbo _ => ?_
       simp only [Value.slice.injEq, true_and] at e0
       obtain ⟨rfl, rfl⟩ := e0
       refine G.skip (G.then_n (G.seq (G.block (G.region (G.q (Quiet.move rfl) rfl (G.q (Quiet.move rfl) rfl ?_))))))
       refine G.q (Quiet.indexAddr rfl rfl el_52 (by omega)) rfl ?_
       refine G.op (OpSpec.storeRd (sz := 1) (j := j * 1) rfl rfl rfl sz_3 ?ho167 ?hi168) (by (repeat' constructor)) rfl ?nx169
       case ho167 => omega
       case hi168 => omega
       rintro v L' rfl
       refine G.nil (G.blk_n (G.then_n (G.region (G.q (Quiet.move rfl) rfl ?_))))
       refine G.q (Quiet.add rfl rfl (by omega)) rfl ?_
       refine G.q (Quiet.assign rfl) rfl (G.nil (G.then_n ?_))
       exact G.roundK ((j + 1, zs.set (j * 1) (vint (-1)))) (by dsimp only; omega) (by dsimp only; omega) ⟨rfl, rfl, rfl, rfl, trivial⟩ (by (repeat' constructor)) (by ((repeat (apply Have.cons; (repeat (first | exact Pick.here | apply Pick.there)))); apply Have.base; repeat' constructor))
      ·refine G.exit (G.then_e (G.then_e (G.blk_e (G.then_n (G.seq (G.region (G.q (Quiet.move rfl) rfl (G.q (Quiet.assign rfl) rfl (G.nil (G.then_n (G.ret (G.blk_r (G.then_r ?_)))))))))))))
       refine G.trCast (t := t) (τ' := (stepZ τ o)) (by (repeat' constructor)) (by unfold stepZ; rw [if_neg (by omega), if_neg (by omega), if_neg (by omega), if_neg (by omega)]) ?_
       refine G.rfCast (x := x) (τ' := (stepZ τ o)) (by (repeat' constructor)) (by unfold stepZ; rw [if_neg (by omega), if_neg (by omega), if_neg (by omega), if_neg (by omega)]) ?_
       exact G.done (l := [.tmp 6]) rfl rfl ⟨rfl, rfl⟩ (by (repeat' constructor)) (by (repeat' constructor))
    ·refine G.seq (G.region (G.q (Quiet.int rfl rfl rfl) rfl (G.q (Quiet.assign rfl) rfl (G.nil (G.then_n ?_)))))
     refine G.condD rfl (fun h202 => ?_) (fun h202 => ?_)
     ·refine G.seq ?_
      refine G.rdAny (p := p) ho.acl (by (repeat' constructor)) fun aa ca hav _ => ?_
      have hra : ∀ h : Hp, p h → rdS 2 h (.slice aa o.acl.length ca) o.acl.length (o.acl.flatMap acC) := fun h hp => by have q := ho.acl h hp; rw [hav] at q; exact q
      refine G.add (slR_nil 104 2) ?_
      refine G.draw [2, 4, 5] [[0, 1, 3, 6, 7, 8, 2, 4, 5], [9, 10]] mixed (by kernel_rfl) ?_
      refine Phases.go [ptc b5 _ _] (by (repeat' constructor)) ?_
      refine D.q rfl (by kernel_rfl) (Quiet.fieldAddr rfl fo_63_6) ?_
      refine D.q rfl (by kernel_rfl) (Quiet.to (v' := .slice aa o.acl.length ca) (Quiet.load rfl ag_34 (by (repeat' constructor)) rfl) hav) ?_
      refine D.q rfl (by kernel_rfl) (Quiet.to (v' := .agg (acC over77).toArray) (Quiet.build (us := [(0, _)]) fl_104 ze_104 rfl rfl (by simp [isCell])) rfl) ?_
      refine D.q rfl (by kernel_rfl) (Quiet.fieldAddr rfl fo_63_6) ?_
      refine D.q rfl (by kernel_rfl) (Quiet.to (v' := .slice aa o.acl.length ca) (Quiet.load rfl ag_34 (by (repeat' constructor)) rfl) hav) ?_
      refine D.q rfl (by kernel_rfl) (Quiet.slen rfl Tryz.underlying34 rfl) ?_
      refine D.h2 (k := 4) rfl rfl (by kernel_rfl) rfl (OpSpec.append (n := 0) (m := o.acl.length) (ys := o.acl.flatMap acC) (p := p) rfl rfl rfl el_34 (.inl ⟨_, Tryz.underlying34⟩) ze_104 rfl rfl ?hc180 hra ?hb181 (by decide)) (by (repeat' constructor)) (OpSpec.buildSlice (vs := [_]) el_34 ze_104 rfl rfl rfl rfl (by first | (simp [Value.cells]; done) | (intro v hv; simp only [List.mem_cons, List.not_mem_nil, or_false] at hv; (repeat (first | (subst hv; rfl) | (rcases hv with hv | hv; (subst hv; rfl)))))) (by decide)) (by (repeat' constructor)) ?nx182 ?nx183
      case hc180 => exact acC_cells _
      case hb181 => omega
      ·rintro v L' ⟨⟨a3, c3, rfl⟩, rfl⟩; rw [Nat.zero_add, List.nil_append]
       refine D.h rfl (by kernel_rfl) (OpSpec.buildSlice (vs := [_]) el_34 ze_104 rfl rfl rfl rfl (by first | (simp [Value.cells]; done) | (intro v hv; simp only [List.mem_cons, List.not_mem_nil, or_false] at hv; (repeat (first | (subst hv; rfl) | (rcases hv with hv | hv; (subst hv; rfl)))))) (by decide)) (by (repeat' constructor)) ?nx185
       rintro v L' ⟨b4, rfl, rfl⟩
       refine D.h rfl (by kernel_rfl) (OpSpec.shapedS (k := o.acl.length + 1) ?hk187 (OpSpec.append1 rfl rfl rfl el_34 ze_104 rfl rfl ?h1188 ?h2189 (Nat.le_refl _) ?h3190 (by decide))) (by (repeat' constructor)) ?nx191
       case hk187 => omega
       case h1188 => simp only [List.map_cons, List.map_nil, List.flatten_cons, List.flatten_nil, List.append_nil]; simp [Value.cells, acC, isCell]
       case h2189 => rfl
       case h3190 => omega
       rintro v L' ⟨b6, c6, hc6, rfl, rfl⟩
       refine D.ph ?_
       refine Phases.go [] (by (repeat' constructor)) ?_
       refine D.qw [10] rfl (by kernel_rfl) (Quiet.to (v' := (.slice (some ⟨b6, 0, none⟩) o.acl.length c6)) (Quiet.slTo rfl el_34 rfl (by omega) (.inr ⟨_, _, rfl⟩)) (by simp)) ?_
       refine D.qw [] rfl (by kernel_rfl) (Quiet.assign rfl) ?_
       refine D.ph (Phases.fin ?_)
       refine G.slCast (T := 104) (sz := 2) (m' := o.acl.length + 1) (xs' := (o.acl ++ [over77]).flatMap acC) (by (repeat' constructor)) rfl (by rw [List.flatMap_append]; rfl) ?_
       refine G.then_n (G.seq (G.region (G.q (Quiet.move rfl) rfl (G.q (Quiet.fieldAddr rfl fo_63_4) rfl ?_))))
       refine G.q (Quiet.load rfl ag_9 (by (repeat' constructor)) (rfl)) rfl ?_
       refine G.q (Quiet.fieldAddr rfl fo_63_5) rfl ?_
       refine G.q (Quiet.load rfl ag_9 (by (repeat' constructor)) (rfl)) rfl ?_
       refine G.q (Quiet.move rfl) rfl (G.q (Quiet.fieldAddr rfl fo_63_7) rfl ?_)
       refine G.q (Quiet.loadAs (vs := stC o.st) rfl ag_43 (by (repeat' constructor)) (by simp [op7C, enC, ptC, stC]) rfl) rfl ?_
       refine G.op (OpSpec.call Tryz.func73 rfl rfl (vs := [_, _, _, _, _]) rfl (trlay_spec t τ o.path o.data (.slice (some ⟨b6, 0, none⟩) o.acl.length c6) o.acl o.st (slR 104 2 (.slice (some ⟨b6, 0, none⟩) (o.acl.length + 1) c6) (o.acl.length + 1) _) (lent_rdX rfl) ho.few ho.plen)) (by (repeat' constructor)) rfl ?nx201
       rintro v L' ⟨rfl, rfl⟩
       refine G.nil (G.then_n (G.seq (G.region (G.q (Quiet.move rfl) rfl (G.q (Quiet.fieldAddr rfl fo_63_4) rfl ?_)))))
       refine G.q (Quiet.load rfl ag_9 (by (repeat' constructor)) (rfl)) rfl ?_
       refine G.q (Quiet.fieldAddr rfl fo_63_5) rfl ?_
       refine G.q (Quiet.load rfl ag_9 (by (repeat' constructor)) (rfl)) rfl ?_
       refine G.q (Quiet.fieldAddr rfl fo_63_6) rfl ?_
       refine G.q (Quiet.load rfl ag_34 (by (repeat' constructor)) (rfl)) rfl ?_
       refine G.q (Quiet.fieldAddr rfl fo_63_7) rfl ?_
       refine G.q (Quiet.loadAs (vs := stC o.st) rfl ag_43 (by (repeat' constructor)) (by simp [op7C, enC, ptC, stC]) rfl) rfl ?_
       refine G.op (OpSpec.call Tryz.func74 rfl rfl (vs := [_, _, _, _, _]) rfl (rlaynode_spec x τ o.path o.data _ o.acl o.st p ho.acl ho.few ho.plen N hτ (by omega))) (by (repeat' constructor)) rfl ?nx212
       rintro v L' ⟨rfl, rfl⟩
       refine G.nil (G.then_n (G.seq ?_))
       refine G.draw [] [[0, 1, 2, 3, 4, 5, 6, 7, 8, 9, 10, 11, 12, 13]] mixed (by kernel_rfl) ?_
       refine Phases.go [] (by (repeat' constructor)) ?_
       refine D.qw [5, 9, 10, 11, 12, 13] rfl (by kernel_rfl) (Quiet.move rfl) ?_
       refine D.qw [2, 3, 4, 5, 9, 10, 11, 12, 13] rfl (by kernel_rfl) (Quiet.fieldAddr rfl fo_63_6) ?_
       refine D.qw [3, 4, 5, 9, 10, 11, 12, 13] rfl (by kernel_rfl) (Quiet.to (v' := .slice aa o.acl.length ca) (Quiet.load rfl ag_34 (by (repeat' constructor)) rfl) hav) ?_
       refine D.qw [4, 5, 9, 10, 11, 12, 13] rfl (by kernel_rfl) (Quiet.slen rfl Tryz.underlying34 rfl) ?_
       refine D.qw [5, 9, 10, 11, 12, 13] rfl (by kernel_rfl) (Quiet.add rfl rfl (by omega)) ?_
       refine D.qw [9, 10, 11, 12, 13] rfl (by kernel_rfl) (Quiet.to (v' := (.slice (some ⟨b6, 0, none⟩) (o.acl.length + 1) c6)) (Quiet.slTo rfl el_34 rfl (by omega) (.inr ⟨_, _, rfl⟩)) (by simp)) ?_
       refine D.qw [7, 8, 9, 10, 11, 12, 13] rfl (by kernel_rfl) (Quiet.fieldAddr rfl fo_63_6) ?_
       refine D.qw [8, 9, 10, 11, 12, 13] rfl (by kernel_rfl) (Quiet.to (v' := .slice aa o.acl.length ca) (Quiet.load rfl ag_34 (by (repeat' constructor)) rfl) hav) ?_
       refine D.qw [9, 10, 11, 12, 13] rfl (by kernel_rfl) (Quiet.slen rfl Tryz.underlying34 rfl) ?_
       refine D.qw [10, 11, 12, 13] rfl (by kernel_rfl) (Quiet.indexAddr rfl rfl el_34 (by omega)) ?_
       refine D.qw [11, 12, 13] rfl (by kernel_rfl) (Quiet.fieldAddr rfl fo_104_0) ?_
       refine D.qw [12, 13] rfl (by kernel_rfl) (Quiet.loadRd (sz := 2) (j := o.acl.length * 2 + 0) (p := slR 104 2 (.slice (some ⟨b6, 0, none⟩) (o.acl.length + 1) c6) (o.acl.length + 1) _) (v := vint 77) rfl ag_3 (by (repeat' constructor)) (fun h hp => slR_rd hp) (by omega) (over_at _ rfl)) ?_
       refine D.qw [13] rfl (by kernel_rfl) (Quiet.as (v' := .bool true) (by rfl) (Quiet.int rfl rfl rfl)) ?_
       refine D.qw [] rfl (by kernel_rfl) (Quiet.assign rfl) ?_
       refine D.ph (Phases.fin (G.then_n (G.seq (G.seq (G.region (G.q (Quiet.assign rfl) rfl (G.nil (G.then_n (G.block ?_)))))))))
       refine G.loopK (ι := Nat × (List Value)) (fun q E => (29, vint q.1) :: E) (fun q => [slR 104 2 (.slice (some ⟨b6, 0, none⟩) (o.acl.length + 1) c6) (o.acl.length + 1) q.2]) (fun q => q.1 ≤ o.acl.length) (fun q => o.acl.length - q.1) (0, (o.acl ++ [over77]).flatMap acC) (ts := [6, 27, 28]) (.cons rfl (.cons rfl (.cons rfl (.nil)))) (Nat.zero_le _) ⟨rfl, rfl, rfl, rfl, trivial⟩ (by (repeat' constructor)) ?_
       rintro ⟨j, ys⟩ hj
       dsimp only
       dsimp only at hj
       refine G.seq (G.seq (G.region (G.q (Quiet.move rfl) rfl (G.q (Quiet.move rfl) rfl (G.q (Quiet.slen rfl Tryz.underlying34 rfl) rfl (G.q (Quiet.int rfl rfl rfl) rfl (G.nil (G.then_n ?_))))))))
       refine G.condD rfl (fun h249 => ?_) (fun h249 => ?_)
       ·refine G.skip (G.then_n (G.seq (G.block (G.region (G.q (Quiet.move rfl) rfl (G.q (Quiet.move rfl) rfl ?_))))))
        refine G.q (Quiet.to (v' := .agg (acC (-1, [])).toArray) (Quiet.build (us := [(0, _)]) fl_104 ze_104 rfl rfl (by simp [isCell])) rfl) rfl ?_
        refine G.q (Quiet.indexAddr rfl rfl el_34 (by omega)) rfl ?_
        refine G.op (OpSpec.storeRdA (sz := 2) (n := o.acl.length + 1) (j := j * 2) (k := 2) (vs := acC (-1, [])) rfl rfl (by simp [acC, isCell]) sz_104 rfl ?ho235 ?hi236) (by (repeat' constructor)) rfl ?nx237
        case ho235 => omega
        case hi236 => omega
        rintro v L' rfl
        refine G.nil (G.blk_n (G.then_n (G.region (G.q (Quiet.move rfl) rfl ?_))))
        refine G.q (Quiet.add rfl rfl (by omega)) rfl ?_
        refine G.q (Quiet.assign rfl) rfl (G.nil (G.then_n ?_))
        exact G.roundK ((j + 1, spl ys (j * 2) (acC (-1, [])))) (by dsimp only; omega) (by dsimp only; omega) ⟨rfl, rfl, rfl, rfl, trivial⟩ (by (repeat' constructor)) (by ((repeat (apply Have.cons; (repeat (first | exact Pick.here | apply Pick.there)))); apply Have.base; repeat' constructor))
       ·refine G.exit (G.then_e (G.then_e (G.blk_e (G.then_n (G.seq (G.region (G.q (Quiet.move rfl) rfl (G.q (Quiet.assign rfl) rfl (G.nil (G.then_n (G.ret (G.blk_r (G.then_r ?_)))))))))))))
        refine G.trCast (t := t) (τ' := (stepZ τ o)) (by (repeat' constructor)) (by unfold stepZ; rw [if_neg h32, if_pos h202]) ?_
        refine G.rfCast (x := x) (τ' := (stepZ τ o)) (by (repeat' constructor)) (by unfold stepZ; rw [if_neg h32, if_pos h202]) ?_
        exact G.done (l := [.tmp 6]) rfl rfl ⟨rfl, rfl⟩ (by (repeat' constructor)) (by (repeat' constructor))
      ·rintro v L' ⟨b4, rfl, rfl⟩
       refine D.h rfl (by kernel_rfl) (OpSpec.append (n := 0) (m := o.acl.length) (ys := o.acl.flatMap acC) (p := p) rfl rfl rfl el_34 (.inl ⟨_, Tryz.underlying34⟩) ze_104 rfl rfl ?hc242 hra ?hb243 (by decide)) (by (repeat' constructor)) ?nx244
       case hc242 => exact acC_cells _
       case hb243 => omega
       rintro v L' ⟨⟨a3, c3, rfl⟩, rfl⟩; rw [Nat.zero_add, List.nil_append]
       refine D.h rfl (by kernel_rfl) (OpSpec.shapedS (k := o.acl.length + 1) ?hk246 (OpSpec.append1 rfl rfl rfl el_34 ze_104 rfl rfl ?h1247 ?h2248 (Nat.le_refl _) ?h3249 (by decide))) (by (repeat' constructor)) ?nx250
       case hk246 => omega
       case h1247 => simp only [List.map_cons, List.map_nil, List.flatten_cons, List.flatten_nil, List.append_nil]; simp [Value.cells, acC, isCell]
       case h2248 => rfl
       case h3249 => omega
       rintro v L' ⟨b6, c6, hc6, rfl, rfl⟩
       refine D.ph ?_
       refine Phases.go [] (by (repeat' constructor)) ?_
       refine D.qw [10] rfl (by kernel_rfl) (Quiet.to (v' := (.slice (some ⟨b6, 0, none⟩) o.acl.length c6)) (Quiet.slTo rfl el_34 rfl (by omega) (.inr ⟨_, _, rfl⟩)) (by simp)) ?_
       refine D.qw [] rfl (by kernel_rfl) (Quiet.assign rfl) ?_
       refine D.ph (Phases.fin ?_)
       refine G.slCast (T := 104) (sz := 2) (m' := o.acl.length + 1) (xs' := (o.acl ++ [over77]).flatMap acC) (by (repeat' constructor)) rfl (by rw [List.flatMap_append]; rfl) ?_
       refine G.then_n (G.seq (G.region (G.q (Quiet.move rfl) rfl (G.q (Quiet.fieldAddr rfl fo_63_4) rfl ?_))))
       refine G.q (Quiet.load rfl ag_9 (by (repeat' constructor)) (rfl)) rfl ?_
       refine G.q (Quiet.fieldAddr rfl fo_63_5) rfl ?_
       refine G.q (Quiet.load rfl ag_9 (by (repeat' constructor)) (rfl)) rfl ?_
       refine G.q (Quiet.move rfl) rfl (G.q (Quiet.fieldAddr rfl fo_63_7) rfl ?_)
       refine G.q (Quiet.loadAs (vs := stC o.st) rfl ag_43 (by (repeat' constructor)) (by simp [op7C, enC, ptC, stC]) rfl) rfl ?_
       refine G.op (OpSpec.call Tryz.func73 rfl rfl (vs := [_, _, _, _, _]) rfl (trlay_spec t τ o.path o.data (.slice (some ⟨b6, 0, none⟩) o.acl.length c6) o.acl o.st (slR 104 2 (.slice (some ⟨b6, 0, none⟩) (o.acl.length + 1) c6) (o.acl.length + 1) _) (lent_rdX rfl) ho.few ho.plen)) (by (repeat' constructor)) rfl ?nx260
       rintro v L' ⟨rfl, rfl⟩
       refine G.nil (G.then_n (G.seq (G.region (G.q (Quiet.move rfl) rfl (G.q (Quiet.fieldAddr rfl fo_63_4) rfl ?_)))))
       refine G.q (Quiet.load rfl ag_9 (by (repeat' constructor)) (rfl)) rfl ?_
       refine G.q (Quiet.fieldAddr rfl fo_63_5) rfl ?_
       refine G.q (Quiet.load rfl ag_9 (by (repeat' constructor)) (rfl)) rfl ?_
       refine G.q (Quiet.fieldAddr rfl fo_63_6) rfl ?_
       refine G.q (Quiet.load rfl ag_34 (by (repeat' constructor)) (rfl)) rfl ?_
       refine G.q (Quiet.fieldAddr rfl fo_63_7) rfl ?_
       refine G.q (Quiet.loadAs (vs := stC o.st) rfl ag_43 (by (repeat' constructor)) (by simp [op7C, enC, ptC, stC]) rfl) rfl ?_
       refine G.op (OpSpec.call Tryz.func74 rfl rfl (vs := [_, _, _, _, _]) rfl (rlaynode_spec x τ o.path o.data _ o.acl o.st p ho.acl ho.few ho.plen N hτ (by omega))) (by (repeat' constructor)) rfl ?nx271
       rintro v L' ⟨rfl, rfl⟩
       refine G.nil (G.then_n (G.seq ?_))
       refine G.draw [] [[0, 1, 2, 3, 4, 5, 6, 7, 8, 9, 10, 11, 12, 13]] mixed (by kernel_rfl) ?_
       refine Phases.go [] (by (repeat' constructor)) ?_
       refine D.qw [5, 9, 10, 11, 12, 13] rfl (by kernel_rfl) (Quiet.move rfl) ?_
       refine D.qw [2, 3, 4, 5, 9, 10, 11, 12, 13] rfl (by kernel_rfl) (Quiet.fieldAddr rfl fo_63_6) ?_
       refine D.qw [3, 4, 5, 9, 10, 11, 12, 13] rfl (by kernel_rfl) (Quiet.to (v' := .slice aa o.acl.length ca) (Quiet.load rfl ag_34 (by (repeat' constructor)) rfl) hav) ?_
       refine D.qw [4, 5, 9, 10, 11, 12, 13] rfl (by kernel_rfl) (Quiet.slen rfl Tryz.underlying34 rfl) ?_
       refine D.qw [5, 9, 10, 11, 12, 13] rfl (by kernel_rfl) (Quiet.add rfl rfl (by omega)) ?_
       refine D.qw [9, 10, 11, 12, 13] rfl (by kernel_rfl) (Quiet.to (v' := (.slice (some ⟨b6, 0, none⟩) (o.acl.length + 1) c6)) (Quiet.slTo rfl el_34 rfl (by omega) (.inr ⟨_, _, rfl⟩)) (by simp)) ?_
       refine D.qw [7, 8, 9, 10, 11, 12, 13] rfl (by kernel_rfl) (Quiet.fieldAddr rfl fo_63_6) ?_
       refine D.qw [8, 9, 10, 11, 12, 13] rfl (by kernel_rfl) (Quiet.to (v' := .slice aa o.acl.length ca) (Quiet.load rfl ag_34 (by (repeat' constructor)) rfl) hav) ?_
       refine D.qw [9, 10, 11, 12, 13] rfl (by kernel_rfl) (Quiet.slen rfl Tryz.underlying34 rfl) ?_
       refine D.qw [10, 11, 12, 13] rfl (by kernel_rfl) (Quiet.indexAddr rfl rfl el_34 (by omega)) ?_
       refine D.qw [11, 12, 13] rfl (by kernel_rfl) (Quiet.fieldAddr rfl fo_104_0) ?_
       refine D.qw [12, 13] rfl (by kernel_rfl) (Quiet.loadRd (sz := 2) (j := o.acl.length * 2 + 0) (p := slR 104 2 (.slice (some ⟨b6, 0, none⟩) (o.acl.length + 1) c6) (o.acl.length + 1) _) (v := vint 77) rfl ag_3 (by (repeat' constructor)) (fun h hp => slR_rd hp) (by omega) (over_at _ rfl)) ?_
       refine D.qw [13] rfl (by kernel_rfl) (Quiet.as (v' := .bool true) (by rfl) (Quiet.int rfl rfl rfl)) ?_
       refine D.qw [] rfl (by kernel_rfl) (Quiet.assign rfl) ?_
       refine D.ph (Phases.fin (G.then_n (G.seq (G.seq (G.region (G.q (Quiet.assign rfl) rfl (G.nil (G.then_n (G.block ?_)))))))))
       refine G.loopK (ι := Nat × (List Value)) (fun q E => (29, vint q.1) :: E) (fun q => [slR 104 2 (.slice (some ⟨b6, 0, none⟩) (o.acl.length + 1) c6) (o.acl.length + 1) q.2]) (fun q => q.1 ≤ o.acl.length) (fun q => o.acl.length - q.1) (0, (o.acl ++ [over77]).flatMap acC) (ts := [6, 27, 28]) (.cons rfl (.cons rfl (.cons rfl (.nil)))) (Nat.zero_le _) ⟨rfl, rfl, rfl, rfl, trivial⟩ (by (repeat' constructor)) ?_
       rintro ⟨j, ys⟩ hj
       dsimp only
       dsimp only at hj
       refine G.seq (G.seq (G.region (G.q (Quiet.move rfl) rfl (G.q (Quiet.move rfl) rfl (G.q (Quiet.slen rfl Tryz.underlying34 rfl) rfl (G.q (Quiet.int rfl rfl rfl) rfl (G.nil (G.then_n ?_))))))))
       refine G.condD rfl (fun h249 => ?_) (fun h249 => ?_)
       ·refine G.skip (G.then_n (G.seq (G.block (G.region (G.q (Quiet.move rfl) rfl (G.q (Quiet.move rfl) rfl ?_))))))
        refine G.q (Quiet.to (v' := .agg (acC (-1, [])).toArray) (Quiet.build (us := [(0, _)]) fl_104 ze_104 rfl rfl (by simp [isCell])) rfl) rfl ?_
        refine G.q (Quiet.indexAddr rfl rfl el_34 (by omega)) rfl ?_
        refine G.op (OpSpec.storeRdA (sz := 2) (n := o.acl.length + 1) (j := j * 2) (k := 2) (vs := acC (-1, [])) rfl rfl (by simp [acC, isCell]) sz_104 rfl ?ho294 ?hi295) (by (repeat' constructor)) rfl ?nx296
        case ho294 => omega
        case hi295 => omega
        rintro v L' rfl
        refine G.nil (G.blk_n (G.then_n (G.region (G.q (Quiet.move rfl) rfl ?_))))
        refine G.q (Quiet.add rfl rfl (by omega)) rfl ?_
        refine G.q (Quiet.assign rfl) rfl (G.nil (G.then_n ?_))
        exact G.roundK ((j + 1, spl ys (j * 2) (acC (-1, [])))) (by dsimp only; omega) (by dsimp only; omega) ⟨rfl, rfl, rfl, rfl, trivial⟩ (by (repeat' constructor)) (by ((repeat (apply Have.cons; (repeat (first | exact Pick.here | apply Pick.there)))); apply Have.base; repeat' constructor))
       ·refine G.exit (G.then_e (G.then_e (G.blk_e (G.then_n (G.seq (G.region (G.q (Quiet.move rfl) rfl (G.q (Quiet.assign rfl) rfl (G.nil (G.then_n (G.ret (G.blk_r (G.then_r ?_)))))))))))))
        refine G.trCast (t := t) (τ' := (stepZ τ o)) (by (repeat' constructor)) (by unfold stepZ; rw [if_neg h32, if_pos h202]) ?_
        refine G.rfCast (x := x) (τ' := (stepZ τ o)) (by (repeat' constructor)) (by unfold stepZ; rw [if_neg h32, if_pos h202]) ?_
        exact G.done (l := [.tmp 6]) rfl rfl ⟨rfl, rfl⟩ (by (repeat' constructor)) (by (repeat' constructor))
     ·refine G.seq (G.region (G.q (Quiet.int rfl rfl rfl) rfl (G.q (Quiet.assign rfl) rfl (G.nil (G.then_n ?_)))))
      refine G.condD rfl (fun h257 => ?_) (fun h257 => ?_)
      ·refine G.seq (G.region (G.q (Quiet.move rfl) rfl (G.q (Quiet.fieldAddr rfl fo_63_1) rfl ?_)))
       refine G.q (Quiet.load rfl ag_3 (by (repeat' constructor)) (rfl)) rfl ?_
       refine G.q (Quiet.fieldAddr rfl fo_63_2) rfl ?_
       refine G.q (Quiet.load rfl ag_3 (by (repeat' constructor)) (rfl)) rfl ?_
       refine G.q (Quiet.fieldAddr rfl fo_63_5) rfl ?_
       refine G.q (Quiet.load rfl ag_9 (by (repeat' constructor)) (rfl)) rfl ?_
       refine G.op (OpSpec.call Tryz.func75 rfl rfl (vs := [_, _, _, _]) rfl (trlayses_spec t τ o.n o.m o.data)) (by (repeat' constructor)) rfl ?nx308
       rintro v L' ⟨rfl, rfl⟩
       refine G.nil (G.then_n (G.region (G.q (Quiet.move rfl) rfl (G.q (Quiet.fieldAddr rfl fo_63_1) rfl ?_))))
       refine G.q (Quiet.load rfl ag_3 (by (repeat' constructor)) (rfl)) rfl ?_
       refine G.q (Quiet.fieldAddr rfl fo_63_2) rfl ?_
       refine G.q (Quiet.load rfl ag_3 (by (repeat' constructor)) (rfl)) rfl ?_
       refine G.q (Quiet.fieldAddr rfl fo_63_5) rfl ?_
       refine G.q (Quiet.load rfl ag_9 (by (repeat' constructor)) (rfl)) rfl ?_
       refine G.op (OpSpec.call Tryz.func76 rfl rfl (vs := [_, _, _, _]) rfl (rlayses_spec x τ o.n o.m o.data N hτ (by omega))) (by (repeat' constructor)) rfl ?nx317
       rintro v L' ⟨rfl, rfl⟩
       refine G.nil (G.blk_n (G.then_n (G.seq (G.region (G.q (Quiet.assign rfl) rfl (G.nil (G.then_n (G.ret ?_))))))))
       refine G.trCast (t := t) (τ' := (stepZ τ o)) (by (repeat' constructor)) (by unfold stepZ; rw [if_neg h32, if_neg h202, if_pos h257]) ?_
       refine G.rfCast (x := x) (τ' := (stepZ τ o)) (by (repeat' constructor)) (by unfold stepZ; rw [if_neg h32, if_neg h202, if_pos h257]) ?_
       exact G.done (l := [.tmp 6]) rfl rfl ⟨rfl, rfl⟩ (by (repeat' constructor)) (by (repeat' constructor))
      ·refine G.seq (G.region (G.q (Quiet.int rfl rfl rfl) rfl (G.q (Quiet.assign rfl) rfl (G.nil (G.then_n ?_)))))
       refine G.condD rfl (fun h275 => ?_) (fun h275 => ?_)
       ·refine G.seq (G.region (G.q (Quiet.move rfl) rfl (G.q (Quiet.fieldAddr rfl fo_63_1) rfl ?_)))
        refine G.q (Quiet.load rfl ag_3 (by (repeat' constructor)) (rfl)) rfl ?_
        refine G.op (OpSpec.call Tryz.func77 rfl rfl (vs := [_, _]) rfl (trlayzx_spec t τ o.n)) (by (repeat' constructor)) rfl ?nx324
        rintro v L' ⟨rfl, rfl⟩
        refine G.nil (G.then_n ?_)
        refine G.rfOpen (x := x) (τ := τ) (by (repeat' constructor)) fun an cn as1 cs l hl => ?_
        refine G.region (G.q (Quiet.move rfl) rfl (G.q (Quiet.fieldAddr rfl fo_63_1) rfl ?_))
        refine G.q (Quiet.load rfl ag_3 (by (repeat' constructor)) (rfl)) rfl ?_
        refine G.q (Quiet.nilp rfl) rfl (G.q (Quiet.fieldAddr rfl fo_101_2) rfl ?_)
        refine G.op (OpSpec.store rfl rfl rfl sz_3 ?c331 ?c332) (by (repeat' constructor)) rfl ?nx333
        case c331 => first | decide | (simp; omega) | simp
        case c332 => exact nfz0 _ _
        rintro v L' rfl
        refine G.nil ?_
        refine G.rfFold (x := x) (τ := (zxT τ o.n)) (l := l) hl (by (repeat' constructor)) rfl rfl rfl rfl rfl ?_
        refine G.blk_n (G.then_n (G.seq (G.region (G.q (Quiet.assign rfl) rfl (G.nil (G.then_n (G.ret ?_)))))))
        refine G.trCast (t := t) (τ' := (stepZ τ o)) (by (repeat' constructor)) (by unfold stepZ; rw [if_neg h32, if_neg h202, if_neg h257, if_pos h275]) ?_
        refine G.rfCast (x := x) (τ' := (stepZ τ o)) (by (repeat' constructor)) (by unfold stepZ; rw [if_neg h32, if_neg h202, if_neg h257, if_pos h275]) ?_
        exact G.done (l := [.tmp 6]) rfl rfl ⟨rfl, rfl⟩ (by (repeat' constructor)) (by (repeat' constructor))
       ·refine G.skip (G.blk_n (G.then_n (G.seq (G.region (G.q (Quiet.assign rfl) rfl (G.nil (G.then_n (G.ret ?_))))))))
        refine G.trCast (t := t) (τ' := (stepZ τ o)) (by (repeat' constructor)) (by unfold stepZ; rw [if_neg (by omega), if_neg (by omega), if_neg (by omega), if_neg (by omega)]) ?_
        refine G.rfCast (x := x) (τ' := (stepZ τ o)) (by (repeat' constructor)) (by unfold stepZ; rw [if_neg (by omega), if_neg (by omega), if_neg (by omega), if_neg (by omega)]) ?_
        exact G.done (l := [.tmp 6]) rfl rfl ⟨rfl, rfl⟩ (by (repeat' constructor)) (by (repeat' constructor))

set_option maxHeartbeats 2000000 in
set_option maxRecDepth 100000 in
theorem tplays7_spec (v : Value) (os : List Op7) (p : HP) (ho : OpsA p v os) : Fn Tryz.prog 8 #[v] [p] fun r L => r = .bool true ∧ L = [p] := by
 refine Fn.intro (vs := [v]) Tryz.func8 rfl rfl ?_
 intro F W
 refine G.rdAny (p := p) ho.cells (by (repeat' constructor)) fun ao co e0 _ => ?_
 subst e0
 have hol := ho.len
 have hto := ho.total
 refine G.seq (G.region (G.q (Quiet.assign rfl) rfl (G.nil (G.then_n (G.seq (G.region ?_))))))
 refine G.op (OpSpec.call Tryz.func11 rfl rfl (vs := []) rfl (awake7_spec)) (by (repeat' constructor)) rfl ?nx2
 rintro v L' ⟨rfl, rfl⟩
 refine G.q (Quiet.assign rfl) rfl (G.nil (G.then_n (G.seq (G.region ?_))))
 refine G.op (OpSpec.call Tryz.func13 rfl rfl (vs := []) rfl (trnew_spec)) (by (repeat' constructor)) rfl ?nx4
 rintro v L' ⟨a, rfl, rfl⟩
 refine G.q (Quiet.assign rfl) rfl (G.nil (G.then_n (G.seq (G.region ?_))))
 refine G.op (OpSpec.call Tryz.func13 rfl rfl (vs := []) rfl (trnew_spec)) (by (repeat' constructor)) rfl ?nx6
 rintro v L' ⟨b, rfl, rfl⟩
 refine G.q (Quiet.assign rfl) rfl (G.nil (G.then_n (G.seq (G.region ?_))))
 refine G.op (OpSpec.call Tryz.func25 rfl rfl (vs := []) rfl (rfnew_spec)) (by (repeat' constructor)) rfl ?nx8
 rintro v L' ⟨x, rfl, rfl⟩
 refine G.q (Quiet.assign rfl) rfl (G.nil (G.then_n (G.seq (G.region ?_))))
 refine G.op (OpSpec.call Tryz.func25 rfl rfl (vs := []) rfl (rfnew_spec)) (by (repeat' constructor)) rfl ?nx10
 rintro v L' ⟨y, rfl, rfl⟩
 refine G.q (Quiet.assign rfl) rfl (G.nil (G.then_n (G.seq (G.seq (G.region (G.q (Quiet.move rfl) rfl (G.q (Quiet.not rfl) rfl (G.q (Quiet.move rfl) rfl (G.grun (t := 22) rfl rfl rfl (G.q (Quiet.move rfl) rfl (G.grun (t := 22) rfl rfl rfl ?_)))))))))))
 refine G.q (Quiet.as (v' := .bool false) (by rfl) (Quiet.ptreq rfl rfl Tryz.underlying28)) rfl ?_
 refine G.q (Quiet.pickF rfl rfl) rfl (G.q (Quiet.move rfl) rfl (G.grun (t := 26) rfl rfl rfl (G.q (Quiet.move rfl) rfl (G.grun (t := 26) rfl rfl rfl ?_))))
 refine G.q (Quiet.as (v' := .bool false) (by rfl) (Quiet.ptreq rfl rfl Tryz.underlying28)) rfl ?_
 refine G.q (Quiet.pickF rfl rfl) rfl (G.nil (G.then_n (G.condF rfl (G.skip (G.then_n (G.seq (G.seq (G.region (G.q (Quiet.assign rfl) rfl (G.nil (G.then_n (G.block ?_))))))))))))
 refine G.loopK (ι := Nat × Nat × Nat × Tr × Tr) (fun q E => (8, vint q.1) :: (4, vptr q.2.1) :: (5, vptr q.2.2.1) :: E) (fun q => [treeR q.2.1 q.2.2.2.1, treeR q.2.2.1 q.2.2.2.2, refR x q.2.2.2.1, refR y q.2.2.2.2]) (fun q => q.1 ≤ os.length ∧ q.2.2.2.1.Ok (1 + wtO (os.take q.1)) ∧ q.2.2.2.2.Ok (1 + wtO (os.take q.1)) ∧ SesB q.2.2.2.1 ∧ SesB q.2.2.2.2) (fun q => os.length - q.1) (0, a, b, newT, newT) (ts := [0, 6, 7]) (.cons rfl (.cons rfl (.cons rfl (.nil)))) (⟨Nat.zero_le _, newT_ok, newT_ok, (fun y hy => by cases hy), (fun y hy => by cases hy)⟩) ⟨rfl, rfl, rfl, rfl, rfl, rfl, trivial⟩ (by (repeat' constructor)) ?_
 rintro ⟨i, ta, tb, τ, υ⟩ ⟨hi, hτ, hυ, hst, hsu⟩
 dsimp only
 dsimp only at hi hτ hυ hst hsu
 have hwi := wtO_take (l := os) i
 refine G.seq (G.seq (G.region (G.q (Quiet.move rfl) rfl (G.q (Quiet.move rfl) rfl (G.q (Quiet.slen rfl Tryz.underlying61 rfl) rfl (G.q (Quiet.int rfl rfl rfl) rfl (G.nil (G.then_n ?_))))))))
 refine G.condD rfl (fun h33 => ?_) (fun h33 => ?_)
 ·have hi2 : i < os.length := by omega
  have hoi := ho.each _ (List.getElem_mem hi2)
  have hwn := wtO_take (l := os) (i + 1)
  rw [wtO_step hi2] at hwn
  refine G.rdShape (p := p) ho.cells (by (repeat' constructor)) (by omega) fun bo oo e1 => ?_
  subst e1
  refine G.skip (G.then_n (G.seq (G.block (G.seq (G.region (G.q (Quiet.move rfl) rfl (G.q (Quiet.move rfl) rfl ?_)))))))
  refine G.q (Quiet.indexAddr rfl rfl el_61 (by omega)) rfl ?_
  refine G.q (Quiet.loadRdA (sz := 27) (j := i * 27) (k := 27) (p := p) (vs := op7C os[i]) rfl ag_63 (by (repeat' constructor)) ho.cells (by simp) (by omega) (by omega) (flatMap_at (f := op7C) (sz := 27) (fun _ _ => rfl) (by omega))) rfl ?_
  refine G.op (OpSpec.allocA ze_63) (by (repeat' constructor)) rfl ?nx24
  rintro v L' ⟨b9, rfl, rfl⟩
  refine G.op (OpSpec.storeA rfl rfl ?c26 sz_63 ?c29 ?c27 ?c28) (by (repeat' constructor)) rfl ?nx30
  case c26 => exact hoi.all
  case c29 => rfl
  case c27 => simp [op7C, enC, ptC, stC]
  case c28 => exact nfz0 _ _
  rintro v L' rfl
  refine G.nil ?_
  refine G.ptCast (b := b9) (l' := op7C os[i]) (by (repeat' constructor)) (by exact rfl) ?_
  refine G.then_n (G.seq (G.region (G.q (Quiet.assign rfl) rfl (G.nil (G.then_n (G.seq (G.block (G.seq (G.region (G.q (Quiet.fieldAddr rfl fo_63_0) rfl ?_))))))))))
  refine G.q (Quiet.load rfl ag_3 (by (repeat' constructor)) (rfl)) rfl ?_
  refine G.q (Quiet.int rfl rfl rfl) rfl (G.q (Quiet.move rfl) rfl ?_)
  refine G.dec (t := 48) rfl (fun h14_48 => ?_) (fun h14_48 => ?_)
  ·refine G.kDT (t := 47) rfl h14_48 (G.grun (t := 48) rfl rfl rfl (G.q (Quiet.fieldAddr rfl fo_63_8) rfl (G.grun (t := 48) rfl rfl rfl ?_)))
   refine G.q (Quiet.load rfl ag_4 (by (repeat' constructor)) (rfl)) rfl ?_
   refine G.q (Quiet.pickT rfl rfl) rfl (G.q (Quiet.assign rfl) rfl (G.nil (G.then_n ?_)))
   refine G.condB rfl (fun h44 => ?_) (fun h44 => ?_)
   ·refine G.seq (G.region (G.q (Quiet.move rfl) rfl ?_))
    refine G.op (OpSpec.call Tryz.func24 rfl rfl (vs := [_]) rfl (trclone_spec tb υ _ hυ (by omega))) (by (repeat' constructor)) rfl ?nx38
    rintro v L' ⟨c15, rfl, rfl⟩
    refine G.q (Quiet.assign rfl) rfl (G.nil (G.then_n (G.seq (G.region (G.q (Quiet.move rfl) rfl ?_)))))
    refine G.q (Quiet.as (v' := .bool true) (by rfl) (Quiet.ptrne rfl rfl Tryz.underlying28)) rfl ?_
    refine G.q (Quiet.move rfl) rfl (G.grun (t := 56) rfl rfl rfl (G.q (Quiet.move rfl) rfl (G.grun (t := 56) rfl rfl rfl (G.q (Quiet.move rfl) rfl (G.grun (t := 56) rfl rfl rfl ?_)))))
    refine G.op (OpSpec.call Tryz.func27 rfl rfl (vs := [_, _]) rfl (alike7_spec tb y υ _ hυ (by omega) hsu)) (by (repeat' constructor)) rfl ?nx43
    rintro v L' ⟨rfl, rfl⟩
    refine G.q (Quiet.pickT rfl rfl) rfl (G.q (Quiet.assign rfl) rfl (G.nil (G.then_n (G.region (G.q (Quiet.move rfl) rfl (G.q (Quiet.assign rfl) rfl (G.nil (G.blk_n (G.then_n (G.seq (G.region (G.q (Quiet.move rfl) rfl (G.q (Quiet.not rfl) rfl (G.nil (G.then_n (G.condF rfl (G.skip (G.blk_n (G.then_n (G.region (G.q (Quiet.move rfl) rfl ?_)))))))))))))))))))))
    refine G.q (Quiet.add rfl rfl (by omega)) rfl ?_
    refine G.q (Quiet.assign rfl) rfl (G.nil (G.then_n ?_))
    exact G.roundK ((i + 1, ta, c15, τ, υ)) (⟨by dsimp only; omega, by dsimp only; rw [wtO_step hi2]; exact (hτ.more (by omega)), by dsimp only; rw [wtO_step hi2]; exact (hυ.more (by omega)), hst, hsu⟩) (by dsimp only; omega) ⟨rfl, rfl, rfl, rfl, rfl, rfl, trivial⟩ (by (repeat' constructor)) (by ((repeat (apply Have.cons; (repeat (first | exact Pick.here | apply Pick.there)))); apply Have.base; repeat' constructor))
   ·refine G.seq (G.region (G.q (Quiet.fieldAddr rfl fo_63_0) rfl ?_))
    refine G.q (Quiet.load rfl ag_3 (by (repeat' constructor)) (rfl)) rfl ?_
    refine G.q (Quiet.int rfl rfl rfl) rfl (G.q (Quiet.assign rfl) rfl (G.nil (G.then_n ?_)))
    refine G.condD rfl (fun h62 => ?_) (fun h62 => ?_)
    ·refine G.seq (G.region (G.q (Quiet.move rfl) rfl ?_))
     refine G.op (OpSpec.call Tryz.func24 rfl rfl (vs := [_]) rfl (trclone_spec ta τ _ hτ (by omega))) (by (repeat' constructor)) rfl ?nx52
     rintro v L' ⟨c19, rfl, rfl⟩
     refine G.q (Quiet.assign rfl) rfl (G.nil (G.then_n (G.seq (G.region (G.q (Quiet.move rfl) rfl ?_)))))
     refine G.q (Quiet.as (v' := .bool true) (by rfl) (Quiet.ptrne rfl rfl Tryz.underlying28)) rfl ?_
     refine G.q (Quiet.move rfl) rfl (G.grun (t := 70) rfl rfl rfl (G.q (Quiet.move rfl) rfl (G.grun (t := 70) rfl rfl rfl (G.q (Quiet.move rfl) rfl (G.grun (t := 70) rfl rfl rfl ?_)))))
     refine G.op (OpSpec.call Tryz.func27 rfl rfl (vs := [_, _]) rfl (alike7_spec ta x τ _ hτ (by omega) hst)) (by (repeat' constructor)) rfl ?nx57
     rintro v L' ⟨rfl, rfl⟩
     refine G.q (Quiet.pickT rfl rfl) rfl (G.q (Quiet.assign rfl) rfl (G.nil (G.then_n (G.region (G.q (Quiet.move rfl) rfl (G.q (Quiet.assign rfl) rfl (G.nil (G.blk_n (G.then_n (G.seq (G.region (G.q (Quiet.move rfl) rfl (G.q (Quiet.not rfl) rfl (G.nil (G.then_n (G.condF rfl (G.skip (G.blk_n (G.then_n (G.region (G.q (Quiet.move rfl) rfl ?_)))))))))))))))))))))
     refine G.q (Quiet.add rfl rfl (by omega)) rfl ?_
     refine G.q (Quiet.assign rfl) rfl (G.nil (G.then_n ?_))
     exact G.roundK ((i + 1, c19, tb, τ, υ)) (⟨by dsimp only; omega, by dsimp only; rw [wtO_step hi2]; exact (hτ.more (by omega)), by dsimp only; rw [wtO_step hi2]; exact (hυ.more (by omega)), hst, hsu⟩) (by dsimp only; omega) ⟨rfl, rfl, rfl, rfl, rfl, rfl, trivial⟩ (by (repeat' constructor)) (by ((repeat (apply Have.cons; (repeat (first | exact Pick.here | apply Pick.there)))); apply Have.base; repeat' constructor))
    ·refine G.seq (G.region (G.q (Quiet.fieldAddr rfl fo_63_0) rfl ?_))
     refine G.q (Quiet.load rfl ag_3 (by (repeat' constructor)) (rfl)) rfl ?_
     refine G.q (Quiet.int rfl rfl rfl) rfl (G.q (Quiet.assign rfl) rfl (G.nil (G.then_n ?_)))
     refine G.condD rfl (fun h76 => ?_) (fun h76 => ?_)
     ·refine G.region (G.q (Quiet.move rfl) rfl (G.q (Quiet.move rfl) rfl ?_))
      refine G.op (OpSpec.call Tryz.func23 rfl rfl (vs := [_, _]) rfl (trsame_spec ta tb τ υ _ _ hτ hυ)) (by (repeat' constructor)) rfl ?nx67
      rintro v L' ⟨rfl, rfl⟩
      refine G.q (Quiet.move rfl) rfl (G.q (Quiet.move rfl) rfl ?_)
      refine G.op (OpSpec.call Tryz.func29 rfl rfl (vs := [_, _]) rfl (rsame_spec x y τ υ _ _ hτ hυ (by omega) (by omega))) (by (repeat' constructor)) rfl ?nx71
      rintro v L' ⟨rfl, rfl⟩
      refine G.q (Quiet.as (v' := .bool true) (by simp) (Quiet.booleq rfl rfl Tryz.underlying4)) rfl ?_
      refine G.q (Quiet.move rfl) rfl (G.grun (t := 87) rfl rfl rfl (G.q (Quiet.move rfl) rfl (G.grun (t := 87) rfl rfl rfl (G.q (Quiet.move rfl) rfl (G.grun (t := 87) rfl rfl rfl ?_)))))
      refine G.op (OpSpec.call Tryz.func23 rfl rfl (vs := [_, _]) rfl (trsame_spec tb ta υ τ _ _ hυ hτ)) (by (repeat' constructor)) rfl ?nx76
      rintro v L' ⟨rfl, rfl⟩
      refine G.grun (t := 87) rfl rfl rfl (G.q (Quiet.move rfl) rfl (G.grun (t := 87) rfl rfl rfl (G.q (Quiet.move rfl) rfl (G.grun (t := 87) rfl rfl rfl ?_))))
      refine G.op (OpSpec.call Tryz.func29 rfl rfl (vs := [_, _]) rfl (rsame_spec x y τ υ _ _ hτ hυ (by omega) (by omega))) (by (repeat' constructor)) rfl ?nx80
      rintro v L' ⟨rfl, rfl⟩
      refine G.grun (t := 87) rfl rfl rfl ?_
      refine G.q (Quiet.as (v' := .bool true) (by simp [eq_comm]) (Quiet.booleq rfl rfl Tryz.underlying4)) rfl ?_
      refine G.q (Quiet.pickT rfl rfl) rfl (G.q (Quiet.move rfl) rfl (G.grun (t := 96) rfl rfl rfl (G.q (Quiet.move rfl) rfl (G.grun (t := 96) rfl rfl rfl ?_))))
      refine G.op (OpSpec.call Tryz.func23 rfl rfl (vs := [_, _]) rfl (trsamenil_spec ta)) (by (repeat' constructor)) rfl ?nx84
      rintro v L' ⟨rfl, rfl⟩
      refine G.grun (t := 96) rfl rfl rfl (G.q (Quiet.not rfl) rfl (G.q (Quiet.pickT rfl rfl) rfl (G.q (Quiet.move rfl) rfl (G.grun (t := 101) rfl rfl rfl (G.q (Quiet.move rfl) rfl (G.grun (t := 101) rfl rfl rfl (G.q (Quiet.move rfl) rfl (G.grun (t := 101) rfl rfl rfl ?_))))))))
      refine G.op (OpSpec.call Tryz.func23 rfl rfl (vs := [_, _]) rfl (trself_spec tb υ _ hυ)) (by (repeat' constructor)) rfl ?nx89
      rintro v L' ⟨rfl, rfl⟩
      refine G.q (Quiet.pickT rfl rfl) rfl (G.q (Quiet.assign rfl) rfl (G.nil (G.blk_n (G.then_n (G.seq (G.region (G.q (Quiet.move rfl) rfl (G.q (Quiet.not rfl) rfl (G.nil (G.then_n (G.condF rfl (G.skip (G.blk_n (G.then_n (G.region (G.q (Quiet.move rfl) rfl ?_))))))))))))))))
      refine G.q (Quiet.add rfl rfl (by omega)) rfl ?_
      refine G.q (Quiet.assign rfl) rfl (G.nil (G.then_n ?_))
      exact G.roundK ((i + 1, ta, tb, τ, υ)) (⟨by dsimp only; omega, by dsimp only; rw [wtO_step hi2]; exact (hτ.more (by omega)), by dsimp only; rw [wtO_step hi2]; exact (hυ.more (by omega)), hst, hsu⟩) (by dsimp only; omega) ⟨rfl, rfl, rfl, rfl, rfl, rfl, trivial⟩ (by (repeat' constructor)) (by ((repeat (apply Have.cons; (repeat (first | exact Pick.here | apply Pick.there)))); apply Have.base; repeat' constructor))
     ·refine G.seq (G.region (G.q (Quiet.fieldAddr rfl fo_63_8) rfl ?_))
      refine G.q (Quiet.load rfl ag_4 (by (repeat' constructor)) (rfl)) rfl ?_
      refine G.q (Quiet.assign rfl) rfl (G.nil (G.then_n ?_))
      refine G.condB rfl (fun h106 => ?_) (fun h106 => ?_)
      ·refine G.region (G.q (Quiet.move rfl) rfl (G.q (Quiet.move rfl) rfl ?_))
       refine G.q (Quiet.loadAs (vs := op7C os[i]) rfl ag_63 (by (repeat' constructor)) (by simp [op7C, enC, ptC, stC]) rfl) rfl ?_
       refine G.op (OpSpec.call Tryz.func30 rfl rfl (vs := [_, _, _]) rfl (step7_spec tb y υ os[i] p hoi _ hυ (by omega) hsu)) (by (repeat' constructor)) rfl ?nx99
       rintro v L' ⟨rfl, rfl⟩
       refine G.q (Quiet.assign rfl) rfl (G.nil (G.blk_n (G.then_n (G.seq (G.region (G.q (Quiet.move rfl) rfl (G.q (Quiet.not rfl) rfl (G.nil (G.then_n (G.condF rfl (G.skip (G.blk_n (G.then_n (G.region (G.q (Quiet.move rfl) rfl ?_)))))))))))))))
       refine G.q (Quiet.add rfl rfl (by omega)) rfl ?_
       refine G.q (Quiet.assign rfl) rfl (G.nil (G.then_n ?_))
       exact G.roundK ((i + 1, ta, tb, τ, (stepZ υ os[i]))) (⟨by dsimp only; omega, by dsimp only; rw [wtO_step hi2]; exact (hτ.more (by omega)), by dsimp only; rw [wtO_step hi2]; exact (by have q := step_ok hυ hoi; rwa [Nat.add_assoc] at q), hst, (step_sesB hsu hoi)⟩) (by dsimp only; omega) ⟨rfl, rfl, rfl, rfl, rfl, rfl, trivial⟩ (by (repeat' constructor)) (by ((repeat (apply Have.cons; (repeat (first | exact Pick.here | apply Pick.there)))); apply Have.base; repeat' constructor))
      ·refine G.region (G.q (Quiet.move rfl) rfl (G.q (Quiet.move rfl) rfl ?_))
       refine G.q (Quiet.loadAs (vs := op7C os[i]) rfl ag_63 (by (repeat' constructor)) (by simp [op7C, enC, ptC, stC]) rfl) rfl ?_
       refine G.op (OpSpec.call Tryz.func30 rfl rfl (vs := [_, _, _]) rfl (step7_spec ta x τ os[i] p hoi _ hτ (by omega) hst)) (by (repeat' constructor)) rfl ?nx107
       rintro v L' ⟨rfl, rfl⟩
       refine G.q (Quiet.assign rfl) rfl (G.nil (G.blk_n (G.then_n (G.seq (G.region (G.q (Quiet.move rfl) rfl (G.q (Quiet.not rfl) rfl (G.nil (G.then_n (G.condF rfl (G.skip (G.blk_n (G.then_n (G.region (G.q (Quiet.move rfl) rfl ?_)))))))))))))))
       refine G.q (Quiet.add rfl rfl (by omega)) rfl ?_
       refine G.q (Quiet.assign rfl) rfl (G.nil (G.then_n ?_))
       exact G.roundK ((i + 1, ta, tb, (stepZ τ os[i]), υ)) (⟨by dsimp only; omega, by dsimp only; rw [wtO_step hi2]; exact (by have q := step_ok hτ hoi; rwa [Nat.add_assoc] at q), by dsimp only; rw [wtO_step hi2]; exact (hυ.more (by omega)), (step_sesB hst hoi), hsu⟩) (by dsimp only; omega) ⟨rfl, rfl, rfl, rfl, rfl, rfl, trivial⟩ (by (repeat' constructor)) (by ((repeat (apply Have.cons; (repeat (first | exact Pick.here | apply Pick.there)))); apply Have.base; repeat' constructor))
  ·refine G.kDF (t := 47) rfl h14_48 (G.gskip (t := 48) rfl rfl rfl rfl (G.gskip (t := 48) rfl rfl rfl rfl (G.q (Quiet.pickF rfl rfl) rfl (G.q (Quiet.assign rfl) rfl (G.nil (G.then_n (G.condF rfl (G.seq (G.region (G.q (Quiet.fieldAddr rfl fo_63_0) rfl ?_))))))))))
   refine G.q (Quiet.load rfl ag_3 (by (repeat' constructor)) (rfl)) rfl ?_
   refine G.q (Quiet.int rfl rfl rfl) rfl (G.q (Quiet.assign rfl) rfl (G.nil (G.then_n ?_)))
   refine G.condD rfl (fun h62 => ?_) (fun h62 => ?_)
   ·refine G.seq (G.region (G.q (Quiet.move rfl) rfl ?_))
    refine G.op (OpSpec.call Tryz.func24 rfl rfl (vs := [_]) rfl (trclone_spec ta τ _ hτ (by omega))) (by (repeat' constructor)) rfl ?nx117
    rintro v L' ⟨c19, rfl, rfl⟩
    refine G.q (Quiet.assign rfl) rfl (G.nil (G.then_n (G.seq (G.region (G.q (Quiet.move rfl) rfl ?_)))))
    refine G.q (Quiet.as (v' := .bool true) (by rfl) (Quiet.ptrne rfl rfl Tryz.underlying28)) rfl ?_
    refine G.q (Quiet.move rfl) rfl (G.grun (t := 70) rfl rfl rfl (G.q (Quiet.move rfl) rfl (G.grun (t := 70) rfl rfl rfl (G.q (Quiet.move rfl) rfl (G.grun (t := 70) rfl rfl rfl ?_)))))
    refine G.op (OpSpec.call Tryz.func27 rfl rfl (vs := [_, _]) rfl (alike7_spec ta x τ _ hτ (by omega) hst)) (by (repeat' constructor)) rfl ?nx122
    rintro v L' ⟨rfl, rfl⟩
    refine G.q (Quiet.pickT rfl rfl) rfl (G.q (Quiet.assign rfl) rfl (G.nil (G.then_n (G.region (G.q (Quiet.move rfl) rfl (G.q (Quiet.assign rfl) rfl (G.nil (G.blk_n (G.then_n (G.seq (G.region (G.q (Quiet.move rfl) rfl (G.q (Quiet.not rfl) rfl (G.nil (G.then_n (G.condF rfl (G.skip (G.blk_n (G.then_n (G.region (G.q (Quiet.move rfl) rfl ?_)))))))))))))))))))))
    refine G.q (Quiet.add rfl rfl (by omega)) rfl ?_
    refine G.q (Quiet.assign rfl) rfl (G.nil (G.then_n ?_))
    exact G.roundK ((i + 1, c19, tb, τ, υ)) (⟨by dsimp only; omega, by dsimp only; rw [wtO_step hi2]; exact (hτ.more (by omega)), by dsimp only; rw [wtO_step hi2]; exact (hυ.more (by omega)), hst, hsu⟩) (by dsimp only; omega) ⟨rfl, rfl, rfl, rfl, rfl, rfl, trivial⟩ (by (repeat' constructor)) (by ((repeat (apply Have.cons; (repeat (first | exact Pick.here | apply Pick.there)))); apply Have.base; repeat' constructor))
   ·refine G.seq (G.region (G.q (Quiet.fieldAddr rfl fo_63_0) rfl ?_))
    refine G.q (Quiet.load rfl ag_3 (by (repeat' constructor)) (rfl)) rfl ?_
    refine G.q (Quiet.int rfl rfl rfl) rfl (G.q (Quiet.assign rfl) rfl (G.nil (G.then_n ?_)))
    refine G.condD rfl (fun h76 => ?_) (fun h76 => ?_)
    ·refine G.region (G.q (Quiet.move rfl) rfl (G.q (Quiet.move rfl) rfl ?_))
     refine G.op (OpSpec.call Tryz.func23 rfl rfl (vs := [_, _]) rfl (trsame_spec ta tb τ υ _ _ hτ hυ)) (by (repeat' constructor)) rfl ?nx132
     rintro v L' ⟨rfl, rfl⟩
     refine G.q (Quiet.move rfl) rfl (G.q (Quiet.move rfl) rfl ?_)
     refine G.op (OpSpec.call Tryz.func29 rfl rfl (vs := [_, _]) rfl (rsame_spec x y τ υ _ _ hτ hυ (by omega) (by omega))) (by (repeat' constructor)) rfl ?nx136
     rintro v L' ⟨rfl, rfl⟩
     refine G.q (Quiet.as (v' := .bool true) (by simp) (Quiet.booleq rfl rfl Tryz.underlying4)) rfl ?_
     refine G.q (Quiet.move rfl) rfl (G.grun (t := 87) rfl rfl rfl (G.q (Quiet.move rfl) rfl (G.grun (t := 87) rfl rfl rfl (G.q (Quiet.move rfl) rfl (G.grun (t := 87) rfl rfl rfl ?_)))))
     refine G.op (OpSpec.call Tryz.func23 rfl rfl (vs := [_, _]) rfl (trsame_spec tb ta υ τ _ _ hυ hτ)) (by (repeat' constructor)) rfl ?nx141
     rintro v L' ⟨rfl, rfl⟩
     refine G.grun (t := 87) rfl rfl rfl (G.q (Quiet.move rfl) rfl (G.grun (t := 87) rfl rfl rfl (G.q (Quiet.move rfl) rfl (G.grun (t := 87) rfl rfl rfl ?_))))
     refine G.op (OpSpec.call Tryz.func29 rfl rfl (vs := [_, _]) rfl (rsame_spec x y τ υ _ _ hτ hυ (by omega) (by omega))) (by (repeat' constructor)) rfl ?nx145
     rintro v L' ⟨rfl, rfl⟩
     refine G.grun (t := 87) rfl rfl rfl ?_
     refine G.q (Quiet.as (v' := .bool true) (by simp [eq_comm]) (Quiet.booleq rfl rfl Tryz.underlying4)) rfl ?_
     refine G.q (Quiet.pickT rfl rfl) rfl (G.q (Quiet.move rfl) rfl (G.grun (t := 96) rfl rfl rfl (G.q (Quiet.move rfl) rfl (G.grun (t := 96) rfl rfl rfl ?_))))
     refine G.op (OpSpec.call Tryz.func23 rfl rfl (vs := [_, _]) rfl (trsamenil_spec ta)) (by (repeat' constructor)) rfl ?nx149
     rintro v L' ⟨rfl, rfl⟩
     refine G.grun (t := 96) rfl rfl rfl (G.q (Quiet.not rfl) rfl (G.q (Quiet.pickT rfl rfl) rfl (G.q (Quiet.move rfl) rfl (G.grun (t := 101) rfl rfl rfl (G.q (Quiet.move rfl) rfl (G.grun (t := 101) rfl rfl rfl (G.q (Quiet.move rfl) rfl (G.grun (t := 101) rfl rfl rfl ?_))))))))
     refine G.op (OpSpec.call Tryz.func23 rfl rfl (vs := [_, _]) rfl (trself_spec tb υ _ hυ)) (by (repeat' constructor)) rfl ?nx154
     rintro v L' ⟨rfl, rfl⟩
     refine G.q (Quiet.pickT rfl rfl) rfl (G.q (Quiet.assign rfl) rfl (G.nil (G.blk_n (G.then_n (G.seq (G.region (G.q (Quiet.move rfl) rfl (G.q (Quiet.not rfl) rfl (G.nil (G.then_n (G.condF rfl (G.skip (G.blk_n (G.then_n (G.region (G.q (Quiet.move rfl) rfl ?_))))))))))))))))
     refine G.q (Quiet.add rfl rfl (by omega)) rfl ?_
     refine G.q (Quiet.assign rfl) rfl (G.nil (G.then_n ?_))
     exact G.roundK ((i + 1, ta, tb, τ, υ)) (⟨by dsimp only; omega, by dsimp only; rw [wtO_step hi2]; exact (hτ.more (by omega)), by dsimp only; rw [wtO_step hi2]; exact (hυ.more (by omega)), hst, hsu⟩) (by dsimp only; omega) ⟨rfl, rfl, rfl, rfl, rfl, rfl, trivial⟩ (by (repeat' constructor)) (by ((repeat (apply Have.cons; (repeat (first | exact Pick.here | apply Pick.there)))); apply Have.base; repeat' constructor))
    ·refine G.seq (G.region (G.q (Quiet.fieldAddr rfl fo_63_8) rfl ?_))
     refine G.q (Quiet.load rfl ag_4 (by (repeat' constructor)) (rfl)) rfl ?_
     refine G.q (Quiet.assign rfl) rfl (G.nil (G.then_n ?_))
     refine G.condB rfl (fun h106 => ?_) (fun h106 => ?_)
     ·refine G.region (G.q (Quiet.move rfl) rfl (G.q (Quiet.move rfl) rfl ?_))
      refine G.q (Quiet.loadAs (vs := op7C os[i]) rfl ag_63 (by (repeat' constructor)) (by simp [op7C, enC, ptC, stC]) rfl) rfl ?_
      refine G.op (OpSpec.call Tryz.func30 rfl rfl (vs := [_, _, _]) rfl (step7_spec tb y υ os[i] p hoi _ hυ (by omega) hsu)) (by (repeat' constructor)) rfl ?nx164
      rintro v L' ⟨rfl, rfl⟩
      refine G.q (Quiet.assign rfl) rfl (G.nil (G.blk_n (G.then_n (G.seq (G.region (G.q (Quiet.move rfl) rfl (G.q (Quiet.not rfl) rfl (G.nil (G.then_n (G.condF rfl (G.skip (G.blk_n (G.then_n (G.region (G.q (Quiet.move rfl) rfl ?_)))))))))))))))
      refine G.q (Quiet.add rfl rfl (by omega)) rfl ?_
      refine G.q (Quiet.assign rfl) rfl (G.nil (G.then_n ?_))
      exact G.roundK ((i + 1, ta, tb, τ, (stepZ υ os[i]))) (⟨by dsimp only; omega, by dsimp only; rw [wtO_step hi2]; exact (hτ.more (by omega)), by dsimp only; rw [wtO_step hi2]; exact (by have q := step_ok hυ hoi; rwa [Nat.add_assoc] at q), hst, (step_sesB hsu hoi)⟩) (by dsimp only; omega) ⟨rfl, rfl, rfl, rfl, rfl, rfl, trivial⟩ (by (repeat' constructor)) (by ((repeat (apply Have.cons; (repeat (first | exact Pick.here | apply Pick.there)))); apply Have.base; repeat' constructor))
     ·refine G.region (G.q (Quiet.move rfl) rfl (G.q (Quiet.move rfl) rfl ?_))
      refine G.q (Quiet.loadAs (vs := op7C os[i]) rfl ag_63 (by (repeat' constructor)) (by simp [op7C, enC, ptC, stC]) rfl) rfl ?_
      refine G.op (OpSpec.call Tryz.func30 rfl rfl (vs := [_, _, _]) rfl (step7_spec ta x τ os[i] p hoi _ hτ (by omega) hst)) (by (repeat' constructor)) rfl ?nx172
      rintro v L' ⟨rfl, rfl⟩
      refine G.q (Quiet.assign rfl) rfl (G.nil (G.blk_n (G.then_n (G.seq (G.region (G.q (Quiet.move rfl) rfl (G.q (Quiet.not rfl) rfl (G.nil (G.then_n (G.condF rfl (G.skip (G.blk_n (G.then_n (G.region (G.q (Quiet.move rfl) rfl ?_)))))))))))))))
      refine G.q (Quiet.add rfl rfl (by omega)) rfl ?_
      refine G.q (Quiet.assign rfl) rfl (G.nil (G.then_n ?_))
      exact G.roundK ((i + 1, ta, tb, (stepZ τ os[i]), υ)) (⟨by dsimp only; omega, by dsimp only; rw [wtO_step hi2]; exact (by have q := step_ok hτ hoi; rwa [Nat.add_assoc] at q), by dsimp only; rw [wtO_step hi2]; exact (hυ.more (by omega)), (step_sesB hst hoi), hsu⟩) (by dsimp only; omega) ⟨rfl, rfl, rfl, rfl, rfl, rfl, trivial⟩ (by (repeat' constructor)) (by ((repeat (apply Have.cons; (repeat (first | exact Pick.here | apply Pick.there)))); apply Have.base; repeat' constructor))
 ·refine G.exit (G.then_e (G.then_e (G.blk_e (G.then_n (G.seq (G.region (G.q (Quiet.move rfl) rfl (G.q (Quiet.move rfl) rfl ?_))))))))
  refine G.op (OpSpec.call Tryz.func27 rfl rfl (vs := [_, _]) rfl (alike7_spec ta x τ _ hτ (by omega) hst)) (by (repeat' constructor)) rfl ?nx179
  rintro v L' ⟨rfl, rfl⟩
  refine G.q (Quiet.assign rfl) rfl (G.nil (G.then_n (G.seq (G.region (G.q (Quiet.move rfl) rfl (G.q (Quiet.move rfl) rfl ?_))))))
  refine G.op (OpSpec.call Tryz.func27 rfl rfl (vs := [_, _]) rfl (alike7_spec tb y υ _ hυ (by omega) hsu)) (by (repeat' constructor)) rfl ?nx183
  rintro v L' ⟨rfl, rfl⟩
  refine G.q (Quiet.assign rfl) rfl (G.nil (G.then_n (G.seq (G.region (G.q (Quiet.move rfl) rfl (G.q (Quiet.move rfl) rfl (G.grun (t := 122) rfl rfl rfl (G.q (Quiet.move rfl) rfl (G.q (Quiet.pickT rfl rfl) rfl (G.q (Quiet.assign rfl) rfl (G.nil (G.then_n (G.ret ?_)))))))))))))
  exact G.done (l := [.tmp 2]) rfl rfl ⟨rfl, rfl⟩ (by (repeat' constructor)) (by (repeat' constructor))

end Go.Proofs.YtnnbelmpbmfdnaaGreatDoor

/- Own work: from what a call is given to the atoms of SlCore, and back to what a statement asks. -/

namespace Go.Proofs.YtnnbelmpbmfdnaaGreatDoor
open Go Go.ChangeShapes Go.WideShapes Go.ChangeAt Go.RowKit

section
variable {H : Type} {enc : TypeId × Value → H} {P : Program} {W W' : World}
theorem trodAll_old (hl : laidOutB P = true) (hb : Below W.heap.size W W') (sp : Nat → Bool) : ∀ (ts : List TypeId) (vs : List Value) (ds : List (DataW H)) (p : List MemPlace), (∀ t ∈ ts, P.readableRec t = true ∧ t < P.types.size) →
    DataW.TrodAll enc P W 0 (fun _ => true) true ts vs ds p → (∀ x ∈ p, x.block < W.heap.size) → (∀ x ∈ p, sp x.block = true) → DataW.TrodAll enc P W' 0 sp true ts vs ds p
  | [], vs, ds, p, _, h, _, _ => by
    obtain ⟨rfl, rfl, rfl⟩ := trodAll_nil h
    exact h
  | t :: ts, vs, ds, p, hr, h, hlt, hsp => by
    obtain ⟨v, vs1, d, ds1, a, b, rfl, rfl, rfl, h1, h2⟩ := trodAll_cons h
    have r := hr t (by simp)
    refine ⟨a, b, WideElems.Trod_stays hl r.1 r.2 h1 (fun x hx => hb.same (hlt x (by simp [hx]))) (fun x hx => hsp x (by simp [hx])), ?_, rfl⟩
    exact trodAll_old hl hb sp ts vs1 ds1 b (fun t ht => hr t (by simp [ht])) h2 (fun x hx => hlt x (by simp [hx])) (fun x hx => hsp x (by simp [hx]))
theorem settled {fn : Func} {s : ChangeSpec} {apart fresh handsOn again : Bool} {args : Array Value} {ds gs : List (DataW H)} {before : List MemPlace} {tb : TypeId}
    (hW : DataW.Whole enc P fn.params.toList s.vars apart W args.toList ds gs before) (hvars : s.vars = []) (hspec : ∀ gs', gs' = [] → s.fn H (ds ++ gs') = { results := [.lit (.bool true)], args := ds })
    (hres : fn.resultTypes = #[tb]) (htb : P.underlying tb = some .bool) (hl : laidOutB P = true) (hr : ∀ t ∈ fn.params.toList, P.readableRec t = true ∧ t < P.types.size) (hb : Below W.heap.size W W') :
    s.post enc P fn apart fresh handsOn again W args (.bool true) W' := by
  have hW' := hW
  have hlt := hW.lt
  obtain ⟨p, q, hA, hV, rfl, hfz, hnd⟩ := hW
  rw [hvars] at hV
  obtain ⟨rfl, rfl⟩ := trodVars_none hV
  have hs := hspec [] rfl
  have hargs : ∀ sp : Nat → Bool, (∀ x ∈ p, sp x.block = true) → DataW.TrodAll enc P W' 0 sp true fn.params.toList args.toList ds p := fun sp hsp =>
    trodAll_old hl hb sp _ _ _ _ hr hA (fun x hx => hlt x (by simp [hx])) hsp
  have hbool : ∀ (b : Nat) (sp : Nat → Bool) (hd : Bool), DataW.TrodAll enc P W' b sp hd fn.resultTypes.toList ((Value.bool true).resultList fn.resultTypes.size) [.lit (.bool true)] [] := by
    intro b sp hd
    rw [hres]
    exact trodAll_cons_mk (shut_bool htb _) trodAll_mk0
  refine ⟨ds, [], p ++ [], [], p, [], hW', ?_, ?_, ?_, hb.frame _, fun _ => ⟨ok_one hres rfl (okWide_bool_mk htb _), [.lit (.bool true)] ++ ds, [], p, ⟨p, [], ?_, ?_, by simp, ?_, ?_⟩, ?_⟩⟩
  · rw [hs]; exact hbool _ _ _
  · rw [hs]; exact hargs _ (fun x hx => by simpa using hlt x (by simp [hx]))
  · rw [hs, hvars]; exact hV
  · exact trodAll_append (hargs _ (fun _ _ => rfl)) (hbool _ _ _)
  · rw [hvars]; exact hV
  · intro b off hp
    rw [hb.frozen (p := ⟨b, off, none⟩) (hlt (.cell b off) (by simp [hp]))]
    exact hfz b off (by simp [hp])
  · intro ha
    have := hnd ha
    simpa using this
  · intro x hx _
    simp [hx]
theorem old_calls {f : FuncId} {args : Array Value} (h : Fn P f args [Old W] fun v L => v = .bool true ∧ L = [Old W]) :
    Calls P f args W fun e W' => e = .returned (.bool true) ∧ Below W.heap.size W W' := by
  have h0 : St [Old W] W := ⟨fun b => W.heap[b]?, fun _ => none, fun _ => .inr rfl, fun b o h => h, fun b o h => (by cases h), fun b hb => rfl, trivial⟩
  refine (h [] W h0).mono ?_
  rintro e W' ⟨v, L, ⟨rfl, rfl⟩, rfl, hs, hk⟩
  refine ⟨rfl, hk.os, hk.tape, hk.output, hk.size, fun k hk' => ?_⟩
  obtain ⟨h1, a1, hp⟩ := sep_head hs
  have e1 := hp k hk'
  have : ∃ o, W.heap[k]? = some o := ⟨_, Array.getElem?_eq_getElem hk'⟩
  obtain ⟨o, ho⟩ := this
  rw [ho] at e1 ⊢
  exact a1 _ _ e1
theorem old_rd {a : Addr} {len cap : Nat} {V : Nat → Value} (hc : ∀ i, i < len → W.cell? (a.add i) = some (V i)) (hle : len ≤ cap) : ∀ h : Hp, Old W h → rdS 1 h (.slice (some a) len cap) len ((List.range len).map V) := by
  intro h hold
  rcases Nat.eq_zero_or_pos len with rfl | hpos
  · exact .inl ⟨rfl, rfl, some a, cap, rfl⟩
  · obtain ⟨b, off, spot⟩ := a
    have h0 := hc 0 hpos
    have e0 : (⟨b, off, spot⟩ : Addr).add 0 = ⟨b, off, spot⟩ := by simp [Addr.add]
    rw [e0] at h0
    simp only [World.cell?] at h0
    rcases hw : W.heap[b]? with _ | o
    · rw [hw] at h0; cases h0
    · cases o with
      | cells c T fr =>
        rw [hw] at h0
        dsimp only at h0
        split at h0
        · cases h0
        · rename_i hsp
          have hspot : spot = none := by simpa using hsp
          subst hspot
          have hc' : ∀ i, i < len → c[off + i]? = some (V i) := by
            intro i hi
            have := hc i hi
            have e1 : (⟨b, off, none⟩ : Addr).add i = ⟨b, off + i, none⟩ := by
              simp only [Addr.add]; split
              · rename_i h0; simp [h0]
              · rfl
            rw [e1] at this
            simp only [World.cell?, hw] at this
            simpa using this
          have hlt : b < W.heap.size := by
            rcases Nat.lt_or_ge b W.heap.size with h' | h'
            · exact h'
            · rw [Array.getElem?_eq_none h'] at hw; cases hw
          have hlen : off + len ≤ c.size := by
            have := hc' (len - 1) (by omega)
            rcases Nat.lt_or_ge (off + (len - 1)) c.size with h' | h'
            · omega
            · rw [Array.getElem?_eq_none h'] at this; cases this
          refine .inr ⟨b, off, cap, c.toList, T, fr, rfl, by rw [hold b hlt, hw], ?_, by simpa using hlen, hle⟩
          apply List.ext_getElem?
          intro i
          rw [Nat.mul_one, List.getElem?_take, List.getElem?_map, List.getElem?_drop]
          split
          · rename_i hi
            rw [List.getElem?_range hi]
            simpa using hc' i hi
          · rename_i hi
            rw [List.getElem?_eq_none (by simpa using hi)]; rfl
      | _ => rw [hw] at h0; cases h0
end
end Go.Proofs.YtnnbelmpbmfdnaaGreatDoor

/- Own work: strings and rows of strings as arguments. -/
namespace Go.Proofs.YtnnbelmpbmfdnaaGreatDoor
open Go Go.ChangeShapes Go.WideShapes Go.ChangeAt Go.RowKit

section
variable {H : Type} {enc : TypeId × Value → H} {P : Program} {W : World}
theorem string_vstr (s : ByteArray) : Value.string s = vstr s.data.toList := by cases s; rfl
end
end Go.Proofs.YtnnbelmpbmfdnaaGreatDoor

/- Own work: nested arguments decoded: slices of structs, and what the row says of their weight. -/

namespace Go.Proofs.YtnnbelmpbmfdnaaGreatDoor
open Go Go.ChangeShapes Go.WideShapes Go.ChangeAt Go.RowKit

section
variable {H : Type} {enc : TypeId × Value → H} {P : Program} {W : World}
/-- No slice and no string in this datum weighs more than the row's reach. -/
def Light (P : Program) (t : TypeId) (d : DataW H) : Prop := ∀ n ∈ d.weights P t, n ≤ reachBytes
theorem flat_at {α : Type} {sz : Nat} (f : Nat → List α) : ∀ n, (∀ i, i < n → (f i).length = sz) → ∀ j, j < n * sz → ((List.range n).flatMap f)[j]? = (f (j / sz))[j % sz]? ∧ ((List.range n).flatMap f).length = n * sz := by
  intro n
  induction n with
  | zero => intro _ j hj; omega
  | succ n ih =>
    intro hf j hj
    have hn := hf n (by omega)
    have hlen : ((List.range n).flatMap f).length = n * sz := by
      rcases Nat.eq_zero_or_pos (n * sz) with h0 | h0
      · rcases Nat.eq_zero_or_pos n with h1 | h1
        · subst h1; simp
        · have : sz = 0 := by
            rcases Nat.eq_zero_or_pos sz with h2 | h2
            · exact h2
            · have := Nat.mul_pos h1 h2; omega
          subst this; omega
      · exact (ih (fun i hi => hf i (by omega)) 0 h0).2
    have e : (List.range (n + 1)).flatMap f = (List.range n).flatMap f ++ f n := by simp [List.range_succ]
    have hm : (n + 1) * sz = n * sz + sz := by rw [Nat.add_mul, Nat.one_mul]
    rw [e]
    refine ⟨?_, by rw [List.length_append, hlen, hn, hm]⟩
    rcases Nat.lt_or_ge j (n * sz) with h | h
    · rw [List.getElem?_append_left (by omega)]
      exact (ih (fun i hi => hf i (by omega)) j h).1
    · rw [List.getElem?_append_right (by omega), hlen]
      have hs : 0 < sz := by omega
      have h1 : j / sz = n := by
        have : j < (n + 1) * sz := hj
        have a := Nat.div_lt_of_lt_mul (show j < sz * (n + 1) by rw [Nat.mul_comm]; exact this)
        have b := (Nat.le_div_iff_mul_le hs).2 h
        omega
      have h2 : j % sz = j - n * sz := by
        have := Nat.div_add_mod j sz
        rw [h1, Nat.mul_comm] at this; omega
      rw [h1, h2]
theorem rdS_regroup {sz n c c1 : Nat} {a : Option Addr} {ys : List Value} {h : Hp} (hr : rdS 1 h (.slice a (n * sz) c1) (n * sz) ys) (hc : n ≤ c) (hs : 0 < sz) : rdS sz h (.slice a n c) n ys := by
  rcases hr with ⟨h1, h2, -⟩ | ⟨b, off, cap, l, T, fr, hv, hb, h1, h2, h3⟩
  · have : n = 0 := by
      rcases Nat.eq_zero_or_pos n with h0 | h0
      · exact h0
      · have := Nat.mul_pos h0 hs; omega
    subst this
    exact .inl ⟨rfl, h2, a, c, rfl⟩
  · simp only [Value.slice.injEq] at hv
    obtain ⟨rfl, -, -⟩ := hv
    exact .inr ⟨b, off, c, l, T, fr, rfl, hb, by rw [← h1, Nat.mul_one], by rw [Nat.mul_one] at h2; exact h2, hc⟩
abbrev Reads (enc : TypeId × Value → H) (P : Program) (W : World) (fuel : Nat) (t : TypeId) (cs : List Value) (x : DataW H × List MemPlace) : Prop := DataW.trod enc P W 0 (fun _ => true) true fuel t cs = some x
theorem dec_int {t : TypeId} {fuel : Nat} {cs : List Value} {x : DataW H × List MemPlace} (ht : P.underlying t = some (.int .i64)) (h : Reads enc P W fuel t cs x) : ∃ n : Int, cs = [vint n] ∧ -9223372036854775808 ≤ n ∧ n ≤ 9223372036854775807 := by
  obtain ⟨n, rfl, -, hwf⟩ := DataW.trod_int ht h
  exact ⟨n, rfl, bounds_i64 hwf⟩
theorem dec_bool {t : TypeId} {fuel : Nat} {cs : List Value} {x : DataW H × List MemPlace} (ht : P.underlying t = some .bool) (h : Reads enc P W fuel t cs x) : ∃ b : Bool, cs = [.bool b] := by
  obtain ⟨b, rfl, -⟩ := DataW.trod_bool ht h
  exact ⟨b, rfl⟩
end
end Go.Proofs.YtnnbelmpbmfdnaaGreatDoor

/- Own work: arguments of a bounded bulk (the second form's bound), decoded. -/
namespace Go.Proofs.YtnnbelmpbmfdnaaGreatDoor
open Go Go.ChangeShapes Go.WideShapes Go.ChangeAt Go.RowKit

theorem bulk_pos {H : Type} (d : DataW H) : 1 ≤ Rows.uptoBulk d := by
  cases d with
  | lit l => cases l <;> simp [Rows.uptoBulk]
  | _ => simp [Rows.uptoBulk]
theorem bulk_part {H : Type} {d : DataW H} : ∀ {l : List (DataW H)}, d ∈ l → Rows.uptoBulk d ≤ Rows.uptoBulkAll l
  | x :: l, h => by
    unfold Rows.uptoBulkAll
    rcases List.mem_cons.1 h with rfl | h
    · omega
    · have := bulk_part h; omega
theorem bulk_count {H : Type} : ∀ l : List (DataW H), l.length ≤ Rows.uptoBulkAll l
  | [] => by simp
  | x :: l => by
    have h1 := bulk_pos x
    have h2 := bulk_count l
    unfold Rows.uptoBulkAll
    rw [List.length_cons]; omega
theorem bulk_sum {H : Type} : ∀ l : List (DataW H), (l.map Rows.uptoBulk).sum ≤ Rows.uptoBulkAll l
  | [] => by simp
  | x :: l => by
    have h2 := bulk_sum l
    unfold Rows.uptoBulkAll
    rw [List.map_cons, List.sum_cons]; omega
theorem bulk_agg {H : Type} {d : DataW H} {l : List (DataW H)} {N : Nat} (h : Rows.uptoBulk (.agg l) ≤ N) (hd : d ∈ l) : Rows.uptoBulk d ≤ N := by
  have := bulk_part hd
  simp only [Rows.uptoBulk] at h
  omega
theorem bulk_small {H : Type} {l : List (DataW H)} (h : Rows.uptoSmall H l = true) {d : DataW H} (hd : d ∈ l) : Rows.uptoBulk d ≤ 1048576 :=
  Nat.le_trans (bulk_part hd) (of_decide_eq_true h)
instance : Inhabited Value := ⟨.bool false⟩
section
variable {H : Type} {enc : TypeId × Value → H} {P : Program} {W : World} {N : Nat}
theorem dec_str {t : TypeId} {fuel : Nat} {cs : List Value} {x : DataW H × List MemPlace} (ht : P.underlying t = some .string) (h : Reads enc P W fuel t cs x) (hb : Rows.uptoBulk x.1 ≤ N) : ∃ s : List UInt8, cs = [vstr s] ∧ s.length ≤ N := by
  obtain ⟨s, rfl, rfl, -⟩ := DataW.trod_string ht h
  simp only [Rows.uptoBulk] at hb
  exact ⟨s.data.toList, by rw [string_vstr], by omega⟩
theorem dec_int' {t : TypeId} {fuel : Nat} {cs : List Value} {x : DataW H × List MemPlace} (ht : P.underlying t = some (.int .i64)) (h : Reads enc P W fuel t cs x) : ∃ n : Int, cs = [vint n] ∧ (-9223372036854775808 ≤ n ∧ n ≤ 9223372036854775807) := by
  obtain ⟨n, h1, h2⟩ := dec_int ht h; exact ⟨n, h1, h2⟩
theorem slice_cell {t e : TypeId} {fuel : Nat} {v : Value} {x : DataW H × List MemPlace} (ht : P.underlying t = some (.slice e)) (h : Reads enc P W fuel t [v] x) : isCell v = true := by
  rcases Go.Deep.open_slice ht h with ⟨hv, -⟩ | ⟨a, len, cap, m, n, Dd, Pl, hv, -⟩
  · rw [List.cons.injEq] at hv; rw [hv.1]; rfl
  · rw [List.cons.injEq] at hv; rw [hv.1]; rfl
/-- A slice, each of whose elements is decoded. -/
theorem dec_sliceU {Z : Type} [Inhabited Z] (toC : Z → List Value) (Q : Z → Prop) {t e : TypeId} {sz : Nat} {fuel : Nat} {cs : List Value} {x : DataW H × List MemPlace} (ht : P.underlying t = some (.slice e)) (hc : P.cellsOf e = sz) (hs : 0 < sz)
    (hdec : ∀ (n : Nat) (cs : List Value) (y : DataW H × List MemPlace), Reads enc P W n e cs y → Rows.uptoBulk y.1 ≤ N → ∃ z, cs = toC z ∧ Q z) (h : Reads enc P W fuel t cs x) (hb : Rows.uptoBulk x.1 ≤ N) :
    ∃ z : Value × List Z, cs = [z.1] ∧ (∀ h : Hp, Old W h → rdS sz h z.1 z.2.length (z.2.flatMap toC)) ∧ z.2.length ≤ N ∧ ∀ y ∈ z.2, Q y := by
  subst hc
  rcases Go.Deep.open_slice ht h with ⟨rfl, rfl⟩ | ⟨a, len, cap, m, n, Dd, Pl, rfl, -, hl, hm, hmm, rfl, hx⟩
  · exact ⟨(_, []), rfl, fun h _ => .inl ⟨rfl, rfl, none, 0, rfl⟩, by simp, by simp⟩
  · simp only [if_true] at hmm
    subst hmm
    have hbl : len ≤ N := by
      have := bulk_count ((List.range len).map Dd)
      simp only [Rows.uptoBulk] at hb
      rw [List.length_map, List.length_range] at this
      omega
    have hbe : ∀ i, i < len → Rows.uptoBulk (Dd i) ≤ N := fun i hi => by
      have := bulk_part (d := Dd i) (l := (List.range len).map Dd) (List.mem_map_of_mem (by simpa using hi))
      simp only [Rows.uptoBulk] at hb
      omega
    obtain ⟨Zf, hZ⟩ := Go.Deep.choose_lt (α := Z) (p := fun i z => W.cells? 0 (a.add (i * P.cellsOf e)) (P.cellsOf e) = some (toC z) ∧ Q z) (n := len) (fun i hi => by
      obtain ⟨cs', h1, h2⟩ := hx i (by omega)
      obtain ⟨z, rfl, h3⟩ := hdec _ _ _ h2 (hbe i hi)
      exact ⟨z, h1, h3⟩)
    have hlenf : ∀ i, i < len → (toC (Zf i)).length = P.cellsOf e := fun i hi => (World.cells?_some (hZ i hi).1).2.1
    have hflat := flat_at (fun i => toC (Zf i)) len hlenf
    refine ⟨(_, (List.range len).map Zf), rfl, ?_, ?_, ?_⟩
    · intro h hold
      dsimp only
      rw [List.length_map, List.length_range]
      refine rdS_regroup (c1 := len * P.cellsOf e) ?_ hl hs
      have e1 : ((List.range len).map Zf).flatMap toC = (List.range (len * P.cellsOf e)).map (fun j => ((List.range len).flatMap fun i => toC (Zf i)).getD j (.bool false)) := by
        rw [List.flatMap_map]
        apply List.ext_getElem?
        intro j
        rcases Nat.lt_or_ge j (len * P.cellsOf e) with hj | hj
        · rw [List.getElem?_map, List.getElem?_range hj]
          have := (hflat j hj).2
          have hjl : j < ((List.range len).flatMap fun i => toC (Zf i)).length := by omega
          simp only [Option.map_some, List.getD_eq_getElem?_getD, List.getElem?_eq_getElem hjl, Option.getD_some]
        · have : ((List.range len).flatMap fun i => toC (Zf i)).length = len * P.cellsOf e := by
            rcases Nat.eq_zero_or_pos (len * P.cellsOf e) with h0 | h0
            · have : len = 0 := by
                rcases Nat.eq_zero_or_pos len with h1 | h1
                · exact h1
                · have := Nat.mul_pos h1 hs; omega
              subst this; simp
            · exact (hflat 0 h0).2
          rw [List.getElem?_eq_none (by omega), List.getElem?_eq_none (by simpa using hj)]
      rw [e1]
      refine old_rd (W := W) (fun j hj => ?_) (Nat.le_refl _) h hold
      have hi : j / P.cellsOf e < len := Nat.div_lt_of_lt_mul (by rw [Nat.mul_comm]; exact hj)
      have hcell := (World.cells?_some (hZ (j / P.cellsOf e) hi).1).2.2 (j % P.cellsOf e) (Nat.mod_lt _ hs)
      rw [Addr.add_add, Nat.mul_comm, Nat.div_add_mod] at hcell
      rw [hcell]
      obtain ⟨f1, f2⟩ := hflat j hj
      rw [List.getD_eq_getElem?_getD, f1]
      have : j % P.cellsOf e < (toC (Zf (j / P.cellsOf e))).length := by rw [hlenf _ hi]; exact Nat.mod_lt _ hs
      simp [this]
    · dsimp only; rw [List.length_map, List.length_range]; exact hbl
    · intro z hz
      obtain ⟨i, hi, rfl⟩ := List.mem_map.1 hz
      exact (hZ i (by simpa using hi)).2
/-- The same, with each element's own bulk, and their sum. -/
theorem dec_sliceQ {Z : Type} [Inhabited Z] (toC : Z → List Value) (Q : Nat → Z → Prop) {t e : TypeId} {sz : Nat} {fuel : Nat} {cs : List Value} {x : DataW H × List MemPlace} (ht : P.underlying t = some (.slice e)) (hc : P.cellsOf e = sz) (hs : 0 < sz)
    (hdec : ∀ (n : Nat) (cs : List Value) (y : DataW H × List MemPlace), Reads enc P W n e cs y → ∃ z, cs = toC z ∧ Q (Rows.uptoBulk y.1) z) (h : Reads enc P W fuel t cs x) (hb : Rows.uptoBulk x.1 ≤ N) :
    ∃ (z : Value × List Z) (ws : List Nat), cs = [z.1] ∧ (∀ h : Hp, Old W h → rdS sz h z.1 z.2.length (z.2.flatMap toC)) ∧ z.2.length ≤ N ∧ ws.length = z.2.length ∧ ws.sum ≤ N ∧ (∀ w ∈ ws, 1 ≤ w) ∧ ∀ i (h1 : i < z.2.length) (h2 : i < ws.length), Q ws[i] z.2[i] := by
  subst hc
  rcases Go.Deep.open_slice ht h with ⟨rfl, rfl⟩ | ⟨a, len, cap, m, n, Dd, Pl, rfl, -, hl, hm, hmm, rfl, hx⟩
  · exact ⟨(_, []), [], rfl, fun h _ => .inl ⟨rfl, rfl, none, 0, rfl⟩, by simp, rfl, by simp, (fun _ h => by cases h), (fun i h1 _ => by simp at h1)⟩
  · simp only [if_true] at hmm
    subst hmm
    have hbl : len ≤ N := by
      have := bulk_count ((List.range len).map Dd)
      simp only [Rows.uptoBulk] at hb
      rw [List.length_map, List.length_range] at this
      omega
    have hall : ((List.range len).map fun i => Rows.uptoBulk (Dd i)).sum ≤ N := by
      have := bulk_sum ((List.range len).map Dd)
      rw [List.map_map] at this
      simp only [Rows.uptoBulk] at hb
      have e : ((List.range len).map fun i => Rows.uptoBulk (Dd i)) = (List.range len).map (Rows.uptoBulk ∘ Dd) := rfl
      rw [e]; omega
    obtain ⟨Zf, hZ⟩ := Go.Deep.choose_lt (α := Z) (p := fun i z => W.cells? 0 (a.add (i * P.cellsOf e)) (P.cellsOf e) = some (toC z) ∧ Q (Rows.uptoBulk (Dd i)) z) (n := len) (fun i hi => by
      obtain ⟨cs', h1, h2⟩ := hx i (by omega)
      obtain ⟨z, rfl, h3⟩ := hdec _ _ _ h2
      exact ⟨z, h1, h3⟩)
    have hlenf : ∀ i, i < len → (toC (Zf i)).length = P.cellsOf e := fun i hi => (World.cells?_some (hZ i hi).1).2.1
    have hflat := flat_at (fun i => toC (Zf i)) len hlenf
    refine ⟨(_, (List.range len).map Zf), (List.range len).map fun i => Rows.uptoBulk (Dd i), rfl, ?_, ?_, by simp, hall, ?_, ?_⟩
    · intro h hold
      dsimp only
      rw [List.length_map, List.length_range]
      refine rdS_regroup (c1 := len * P.cellsOf e) ?_ hl hs
      have e1 : ((List.range len).map Zf).flatMap toC = (List.range (len * P.cellsOf e)).map (fun j => ((List.range len).flatMap fun i => toC (Zf i)).getD j (.bool false)) := by
        rw [List.flatMap_map]
        apply List.ext_getElem?
        intro j
        rcases Nat.lt_or_ge j (len * P.cellsOf e) with hj | hj
        · rw [List.getElem?_map, List.getElem?_range hj]
          have := (hflat j hj).2
          have hjl : j < ((List.range len).flatMap fun i => toC (Zf i)).length := by omega
          simp only [Option.map_some, List.getD_eq_getElem?_getD, List.getElem?_eq_getElem hjl, Option.getD_some]
        · have : ((List.range len).flatMap fun i => toC (Zf i)).length = len * P.cellsOf e := by
            rcases Nat.eq_zero_or_pos (len * P.cellsOf e) with h0 | h0
            · have : len = 0 := by
                rcases Nat.eq_zero_or_pos len with h1 | h1
                · exact h1
                · have := Nat.mul_pos h1 hs; omega
              subst this; simp
            · exact (hflat 0 h0).2
          rw [List.getElem?_eq_none (by omega), List.getElem?_eq_none (by simpa using hj)]
      rw [e1]
      refine old_rd (W := W) (fun j hj => ?_) (Nat.le_refl _) h hold
      have hi : j / P.cellsOf e < len := Nat.div_lt_of_lt_mul (by rw [Nat.mul_comm]; exact hj)
      have hcell := (World.cells?_some (hZ (j / P.cellsOf e) hi).1).2.2 (j % P.cellsOf e) (Nat.mod_lt _ hs)
      rw [Addr.add_add, Nat.mul_comm, Nat.div_add_mod] at hcell
      rw [hcell]
      obtain ⟨f1, f2⟩ := hflat j hj
      rw [List.getD_eq_getElem?_getD, f1]
      have : j % P.cellsOf e < (toC (Zf (j / P.cellsOf e))).length := by rw [hlenf _ hi]; exact Nat.mod_lt _ hs
      simp [this]
    · dsimp only; rw [List.length_map, List.length_range]; exact hbl
    · intro w hw
      obtain ⟨i, -, rfl⟩ := List.mem_map.1 hw
      exact bulk_pos _
    · intro i h1 h2
      simp only [List.getElem_map, List.getElem_range]
      exact (hZ i (by simpa using h1)).2
end
end Go.Proofs.YtnnbelmpbmfdnaaGreatDoor

/- Own work, by program: what the arguments are. -/
namespace Go.Proofs.YtnnbelmpbmfdnaaGreatDoor
open Go Go.ChangeShapes Go.WideShapes Go.ChangeAt Go.RowKit
theorem cells_3 : Tryz.prog.cellsOf 3 = 1 := by kernel_rfl
theorem cells_9 : Tryz.prog.cellsOf 9 = 1 := by kernel_rfl
theorem cells_104 : Tryz.prog.cellsOf 104 = 2 := by kernel_rfl
def okAcl (N : Nat) (_p : HP) (z : Ac) : Prop := (-9223372036854775808 ≤ z.1 ∧ z.1 ≤ 9223372036854775807) ∧ z.2.length ≤ N
set_option maxRecDepth 100000 in
theorem dec_Acl {H : Type} {enc : TypeId × Value → H} {W : World} {N : Nat} (n : Nat) (cs : List Value) (y : DataW H × List MemPlace) (h : Reads enc Tryz.prog W n 104 cs y) (hb : Rows.uptoBulk y.1 ≤ N) : ∃ z : Ac, cs = acC z ∧ okAcl N (Old W) z := by
  obtain ⟨xs, m, -, rfl, hlen, hxs, hf⟩ := DataW.trod_struct Tryz.underlying104 h
  rw [cells_104] at hlen
  obtain ⟨a0, a1, rfl⟩ : ∃ a0 a1, cs = [a0, a1] := by
    match cs, hlen with
    | [a0, a1], _ => exact ⟨a0, a1, rfl⟩
  obtain ⟨y0, y1, rfl⟩ : ∃ y0 y1, xs = [y0, y1] := by
    match xs, hxs with
    | [y0, y1], _ => exact ⟨y0, y1, rfl⟩
  have f0 := hf 0 _ rfl
  have g0 : Reads enc Tryz.prog W m 3 (([a0, a1] : List Value).drop 0 |>.take (Tryz.prog.cellsOf 3)) y0 := f0
  rw [cells_3] at g0
  have b0 : Rows.uptoBulk y0.1 ≤ N := bulk_agg hb (by simp)
  obtain ⟨z0, e0, q0⟩ := dec_int' Tryz.underlying3 g0
  simp at e0
  have f1 := hf 1 _ rfl
  have g1 : Reads enc Tryz.prog W m 9 (([a0, a1] : List Value).drop 1 |>.take (Tryz.prog.cellsOf 9)) y1 := f1
  rw [cells_9] at g1
  have b1 : Rows.uptoBulk y1.1 ≤ N := bulk_agg hb (by simp)
  obtain ⟨z1, e1, q1⟩ := dec_str Tryz.underlying9 g1 b1
  simp at e1
  subst e0
  subst e1
  exact ⟨(z0, z1), rfl, q0, q1⟩
theorem cells_34 : Tryz.prog.cellsOf 34 = 1 := by kernel_rfl
theorem cells_31 : Tryz.prog.cellsOf 31 = 1 := by kernel_rfl
theorem cells_35 : Tryz.prog.cellsOf 35 = 1 := by kernel_rfl
theorem cells_37 : Tryz.prog.cellsOf 37 = 8 := by kernel_rfl
abbrev ZTxn := Int × (Bs × (Bs × ((Value × List Ac) × (Int × (Int × (Int × Value))))))
def cTxn (z : ZTxn) : List Value := [vint z.1, vstr z.2.1, vstr z.2.2.1, z.2.2.2.1.1, vint z.2.2.2.2.1, vint z.2.2.2.2.2.1, vint z.2.2.2.2.2.2.1, z.2.2.2.2.2.2.2]
def okTxn (N : Nat) (_p : HP) (z : ZTxn) : Prop := (-9223372036854775808 ≤ z.1 ∧ z.1 ≤ 9223372036854775807) ∧ z.2.1.length ≤ N ∧ z.2.2.1.length ≤ N ∧ ((∀ h : Hp, _p h → rdS 2 h z.2.2.2.1.1 z.2.2.2.1.2.length (z.2.2.2.1.2.flatMap (acC))) ∧ z.2.2.2.1.2.length ≤ N ∧ ∀ y ∈ z.2.2.2.1.2, okAcl N _p y) ∧ (-9223372036854775808 ≤ z.2.2.2.2.1 ∧ z.2.2.2.2.1 ≤ 9223372036854775807) ∧ (-9223372036854775808 ≤ z.2.2.2.2.2.1 ∧ z.2.2.2.2.2.1 ≤ 9223372036854775807) ∧ (-9223372036854775808 ≤ z.2.2.2.2.2.2.1 ∧ z.2.2.2.2.2.2.1 ≤ 9223372036854775807) ∧ isCell z.2.2.2.2.2.2.2 = true
set_option maxRecDepth 100000 in
theorem dec_Txn {H : Type} {enc : TypeId × Value → H} {W : World} {N : Nat} (n : Nat) (cs : List Value) (y : DataW H × List MemPlace) (h : Reads enc Tryz.prog W n 37 cs y) (hb : Rows.uptoBulk y.1 ≤ N) : ∃ z : ZTxn, cs = cTxn z ∧ okTxn N (Old W) z := by
  obtain ⟨xs, m, -, rfl, hlen, hxs, hf⟩ := DataW.trod_struct Tryz.underlying37 h
  rw [cells_37] at hlen
  obtain ⟨a0, a1, a2, a3, a4, a5, a6, a7, rfl⟩ : ∃ a0 a1 a2 a3 a4 a5 a6 a7, cs = [a0, a1, a2, a3, a4, a5, a6, a7] := by
    match cs, hlen with
    | [a0, a1, a2, a3, a4, a5, a6, a7], _ => exact ⟨a0, a1, a2, a3, a4, a5, a6, a7, rfl⟩
  obtain ⟨y0, y1, y2, y3, y4, y5, y6, y7, rfl⟩ : ∃ y0 y1 y2 y3 y4 y5 y6 y7, xs = [y0, y1, y2, y3, y4, y5, y6, y7] := by
    match xs, hxs with
    | [y0, y1, y2, y3, y4, y5, y6, y7], _ => exact ⟨y0, y1, y2, y3, y4, y5, y6, y7, rfl⟩
  have f0 := hf 0 _ rfl
  have g0 : Reads enc Tryz.prog W m 3 (([a0, a1, a2, a3, a4, a5, a6, a7] : List Value).drop 0 |>.take (Tryz.prog.cellsOf 3)) y0 := f0
  rw [cells_3] at g0
  have b0 : Rows.uptoBulk y0.1 ≤ N := bulk_agg hb (by simp)
  obtain ⟨z0, e0, q0⟩ := dec_int' Tryz.underlying3 g0
  simp at e0
  have f1 := hf 1 _ rfl
  have g1 : Reads enc Tryz.prog W m 9 (([a0, a1, a2, a3, a4, a5, a6, a7] : List Value).drop 1 |>.take (Tryz.prog.cellsOf 9)) y1 := f1
  rw [cells_9] at g1
  have b1 : Rows.uptoBulk y1.1 ≤ N := bulk_agg hb (by simp)
  obtain ⟨z1, e1, q1⟩ := dec_str Tryz.underlying9 g1 b1
  simp at e1
  have f2 := hf 2 _ rfl
  have g2 : Reads enc Tryz.prog W m 9 (([a0, a1, a2, a3, a4, a5, a6, a7] : List Value).drop 2 |>.take (Tryz.prog.cellsOf 9)) y2 := f2
  rw [cells_9] at g2
  have b2 : Rows.uptoBulk y2.1 ≤ N := bulk_agg hb (by simp)
  obtain ⟨z2, e2, q2⟩ := dec_str Tryz.underlying9 g2 b2
  simp at e2
  have f3 := hf 3 _ rfl
  have g3 : Reads enc Tryz.prog W m 34 (([a0, a1, a2, a3, a4, a5, a6, a7] : List Value).drop 3 |>.take (Tryz.prog.cellsOf 34)) y3 := f3
  rw [cells_34] at g3
  have b3 : Rows.uptoBulk y3.1 ≤ N := bulk_agg hb (by simp)
  obtain ⟨z3, e3, q3⟩ := dec_sliceU (N := N) (acC) (fun y => okAcl N (Old W) y) Tryz.underlying34 cells_104 (by decide) (fun n cs y h hb => dec_Acl n cs y h hb) g3 b3
  simp at e3
  have f4 := hf 4 _ rfl
  have g4 : Reads enc Tryz.prog W m 3 (([a0, a1, a2, a3, a4, a5, a6, a7] : List Value).drop 4 |>.take (Tryz.prog.cellsOf 3)) y4 := f4
  rw [cells_3] at g4
  have b4 : Rows.uptoBulk y4.1 ≤ N := bulk_agg hb (by simp)
  obtain ⟨z4, e4, q4⟩ := dec_int' Tryz.underlying3 g4
  simp at e4
  have f5 := hf 5 _ rfl
  have g5 : Reads enc Tryz.prog W m 3 (([a0, a1, a2, a3, a4, a5, a6, a7] : List Value).drop 5 |>.take (Tryz.prog.cellsOf 3)) y5 := f5
  rw [cells_3] at g5
  have b5 : Rows.uptoBulk y5.1 ≤ N := bulk_agg hb (by simp)
  obtain ⟨z5, e5, q5⟩ := dec_int' Tryz.underlying3 g5
  simp at e5
  have f6 := hf 6 _ rfl
  have g6 : Reads enc Tryz.prog W m 31 (([a0, a1, a2, a3, a4, a5, a6, a7] : List Value).drop 6 |>.take (Tryz.prog.cellsOf 31)) y6 := f6
  rw [cells_31] at g6
  have b6 : Rows.uptoBulk y6.1 ≤ N := bulk_agg hb (by simp)
  obtain ⟨z6, e6, q6⟩ := dec_int' Tryz.underlying31 g6
  simp at e6
  have f7 := hf 7 _ rfl
  have g7 : Reads enc Tryz.prog W m 35 (([a0, a1, a2, a3, a4, a5, a6, a7] : List Value).drop 7 |>.take (Tryz.prog.cellsOf 35)) y7 := f7
  rw [cells_35] at g7
  obtain ⟨z7, e7, q7⟩ : ∃ z : Value, a7 = z ∧ isCell z = true := ⟨_, rfl, slice_cell Tryz.underlying35 g7⟩
  subst e0
  subst e1
  subst e2
  subst e3
  subst e4
  subst e5
  subst e6
  replace e7 := e7.symm
  subst e7
  exact ⟨(z0, z1, z2, z3, z4, z5, z6, z7), rfl, q0, q1, q2, q3, q4, q5, q6, q7⟩
def okTxn1 (N : Nat) (_p : HP) (z : ZTxn) : Prop := (-9223372036854775808 ≤ z.1 ∧ z.1 ≤ 9223372036854775807) ∧ z.2.1.length ≤ N ∧ z.2.2.1.length ≤ N ∧ ((∀ h : Hp, _p h → rdS 2 h z.2.2.2.1.1 z.2.2.2.1.2.length (z.2.2.2.1.2.flatMap (acC))) ∧ z.2.2.2.1.2.length ≤ N ∧ ∀ y ∈ z.2.2.2.1.2, okAcl N _p y) ∧ (-9223372036854775808 ≤ z.2.2.2.2.1 ∧ z.2.2.2.2.1 ≤ 9223372036854775807) ∧ (-9223372036854775808 ≤ z.2.2.2.2.2.1 ∧ z.2.2.2.2.2.1 ≤ 9223372036854775807) ∧ (-9223372036854775808 ≤ z.2.2.2.2.2.2.1 ∧ z.2.2.2.2.2.2.1 ≤ 9223372036854775807) ∧ (∃ l : List ZTxn, (∀ h : Hp, _p h → rdS 8 h z.2.2.2.2.2.2.2 l.length (l.flatMap (cTxn))) ∧ l.length ≤ N ∧ ∀ y ∈ l, okTxn N _p y)
set_option maxRecDepth 100000 in
theorem dec_Txn1 {H : Type} {enc : TypeId × Value → H} {W : World} {N : Nat} (n : Nat) (cs : List Value) (y : DataW H × List MemPlace) (h : Reads enc Tryz.prog W n 37 cs y) (hb : Rows.uptoBulk y.1 ≤ N) : ∃ z : ZTxn, cs = cTxn z ∧ okTxn1 N (Old W) z := by
  obtain ⟨xs, m, -, rfl, hlen, hxs, hf⟩ := DataW.trod_struct Tryz.underlying37 h
  rw [cells_37] at hlen
  obtain ⟨a0, a1, a2, a3, a4, a5, a6, a7, rfl⟩ : ∃ a0 a1 a2 a3 a4 a5 a6 a7, cs = [a0, a1, a2, a3, a4, a5, a6, a7] := by
    match cs, hlen with
    | [a0, a1, a2, a3, a4, a5, a6, a7], _ => exact ⟨a0, a1, a2, a3, a4, a5, a6, a7, rfl⟩
  obtain ⟨y0, y1, y2, y3, y4, y5, y6, y7, rfl⟩ : ∃ y0 y1 y2 y3 y4 y5 y6 y7, xs = [y0, y1, y2, y3, y4, y5, y6, y7] := by
    match xs, hxs with
    | [y0, y1, y2, y3, y4, y5, y6, y7], _ => exact ⟨y0, y1, y2, y3, y4, y5, y6, y7, rfl⟩
  have f0 := hf 0 _ rfl
  have g0 : Reads enc Tryz.prog W m 3 (([a0, a1, a2, a3, a4, a5, a6, a7] : List Value).drop 0 |>.take (Tryz.prog.cellsOf 3)) y0 := f0
  rw [cells_3] at g0
  have b0 : Rows.uptoBulk y0.1 ≤ N := bulk_agg hb (by simp)
  obtain ⟨z0, e0, q0⟩ := dec_int' Tryz.underlying3 g0
  simp at e0
  have f1 := hf 1 _ rfl
  have g1 : Reads enc Tryz.prog W m 9 (([a0, a1, a2, a3, a4, a5, a6, a7] : List Value).drop 1 |>.take (Tryz.prog.cellsOf 9)) y1 := f1
  rw [cells_9] at g1
  have b1 : Rows.uptoBulk y1.1 ≤ N := bulk_agg hb (by simp)
  obtain ⟨z1, e1, q1⟩ := dec_str Tryz.underlying9 g1 b1
  simp at e1
  have f2 := hf 2 _ rfl
  have g2 : Reads enc Tryz.prog W m 9 (([a0, a1, a2, a3, a4, a5, a6, a7] : List Value).drop 2 |>.take (Tryz.prog.cellsOf 9)) y2 := f2
  rw [cells_9] at g2
  have b2 : Rows.uptoBulk y2.1 ≤ N := bulk_agg hb (by simp)
  obtain ⟨z2, e2, q2⟩ := dec_str Tryz.underlying9 g2 b2
  simp at e2
  have f3 := hf 3 _ rfl
  have g3 : Reads enc Tryz.prog W m 34 (([a0, a1, a2, a3, a4, a5, a6, a7] : List Value).drop 3 |>.take (Tryz.prog.cellsOf 34)) y3 := f3
  rw [cells_34] at g3
  have b3 : Rows.uptoBulk y3.1 ≤ N := bulk_agg hb (by simp)
  obtain ⟨z3, e3, q3⟩ := dec_sliceU (N := N) (acC) (fun y => okAcl N (Old W) y) Tryz.underlying34 cells_104 (by decide) (fun n cs y h hb => dec_Acl n cs y h hb) g3 b3
  simp at e3
  have f4 := hf 4 _ rfl
  have g4 : Reads enc Tryz.prog W m 3 (([a0, a1, a2, a3, a4, a5, a6, a7] : List Value).drop 4 |>.take (Tryz.prog.cellsOf 3)) y4 := f4
  rw [cells_3] at g4
  have b4 : Rows.uptoBulk y4.1 ≤ N := bulk_agg hb (by simp)
  obtain ⟨z4, e4, q4⟩ := dec_int' Tryz.underlying3 g4
  simp at e4
  have f5 := hf 5 _ rfl
  have g5 : Reads enc Tryz.prog W m 3 (([a0, a1, a2, a3, a4, a5, a6, a7] : List Value).drop 5 |>.take (Tryz.prog.cellsOf 3)) y5 := f5
  rw [cells_3] at g5
  have b5 : Rows.uptoBulk y5.1 ≤ N := bulk_agg hb (by simp)
  obtain ⟨z5, e5, q5⟩ := dec_int' Tryz.underlying3 g5
  simp at e5
  have f6 := hf 6 _ rfl
  have g6 : Reads enc Tryz.prog W m 31 (([a0, a1, a2, a3, a4, a5, a6, a7] : List Value).drop 6 |>.take (Tryz.prog.cellsOf 31)) y6 := f6
  rw [cells_31] at g6
  have b6 : Rows.uptoBulk y6.1 ≤ N := bulk_agg hb (by simp)
  obtain ⟨z6, e6, q6⟩ := dec_int' Tryz.underlying31 g6
  simp at e6
  have f7 := hf 7 _ rfl
  have g7 : Reads enc Tryz.prog W m 35 (([a0, a1, a2, a3, a4, a5, a6, a7] : List Value).drop 7 |>.take (Tryz.prog.cellsOf 35)) y7 := f7
  rw [cells_35] at g7
  have b7 : Rows.uptoBulk y7.1 ≤ N := bulk_agg hb (by simp)
  obtain ⟨w7, e7, q7⟩ := dec_sliceU (N := N) (cTxn) (fun y => okTxn N (Old W) y) Tryz.underlying35 cells_37 (by decide) (fun n cs y h hb => dec_Txn n cs y h hb) g7 b7
  simp at e7
  obtain ⟨z7, l7⟩ := w7
  dsimp only at e7 q7
  subst e0
  subst e1
  subst e2
  subst e3
  subst e4
  subst e5
  subst e6
  replace e7 := e7.symm
  subst e7
  exact ⟨(z0, z1, z2, z3, z4, z5, z6, z7), rfl, q0, q1, q2, q3, q4, q5, q6, ⟨l7, q7⟩⟩
theorem cells_39 : Tryz.prog.cellsOf 39 = 11 := by kernel_rfl
abbrev ZEntry := Int × (Int × (Int × ZTxn))
def cEntry (z : ZEntry) : List Value := [vint z.1, vint z.2.1, vint z.2.2.1, vint z.2.2.2.1, vstr z.2.2.2.2.1, vstr z.2.2.2.2.2.1, z.2.2.2.2.2.2.1.1, vint z.2.2.2.2.2.2.2.1, vint z.2.2.2.2.2.2.2.2.1, vint z.2.2.2.2.2.2.2.2.2.1, z.2.2.2.2.2.2.2.2.2.2]
def okEntry (N : Nat) (_p : HP) (z : ZEntry) : Prop := (-9223372036854775808 ≤ z.1 ∧ z.1 ≤ 9223372036854775807) ∧ (-9223372036854775808 ≤ z.2.1 ∧ z.2.1 ≤ 9223372036854775807) ∧ (-9223372036854775808 ≤ z.2.2.1 ∧ z.2.2.1 ≤ 9223372036854775807) ∧ okTxn1 N _p z.2.2.2
set_option maxRecDepth 100000 in
theorem dec_Entry {H : Type} {enc : TypeId × Value → H} {W : World} {N : Nat} (n : Nat) (cs : List Value) (y : DataW H × List MemPlace) (h : Reads enc Tryz.prog W n 39 cs y) (hb : Rows.uptoBulk y.1 ≤ N) : ∃ z : ZEntry, cs = cEntry z ∧ okEntry N (Old W) z := by
  obtain ⟨xs, m, -, rfl, hlen, hxs, hf⟩ := DataW.trod_struct Tryz.underlying39 h
  rw [cells_39] at hlen
  obtain ⟨a0, a1, a2, a3, a4, a5, a6, a7, a8, a9, a10, rfl⟩ : ∃ a0 a1 a2 a3 a4 a5 a6 a7 a8 a9 a10, cs = [a0, a1, a2, a3, a4, a5, a6, a7, a8, a9, a10] := by
    match cs, hlen with
    | [a0, a1, a2, a3, a4, a5, a6, a7, a8, a9, a10], _ => exact ⟨a0, a1, a2, a3, a4, a5, a6, a7, a8, a9, a10, rfl⟩
  obtain ⟨y0, y1, y2, y3, rfl⟩ : ∃ y0 y1 y2 y3, xs = [y0, y1, y2, y3] := by
    match xs, hxs with
    | [y0, y1, y2, y3], _ => exact ⟨y0, y1, y2, y3, rfl⟩
  have f0 := hf 0 _ rfl
  have g0 : Reads enc Tryz.prog W m 3 (([a0, a1, a2, a3, a4, a5, a6, a7, a8, a9, a10] : List Value).drop 0 |>.take (Tryz.prog.cellsOf 3)) y0 := f0
  rw [cells_3] at g0
  have b0 : Rows.uptoBulk y0.1 ≤ N := bulk_agg hb (by simp)
  obtain ⟨z0, e0, q0⟩ := dec_int' Tryz.underlying3 g0
  simp at e0
  have f1 := hf 1 _ rfl
  have g1 : Reads enc Tryz.prog W m 3 (([a0, a1, a2, a3, a4, a5, a6, a7, a8, a9, a10] : List Value).drop 1 |>.take (Tryz.prog.cellsOf 3)) y1 := f1
  rw [cells_3] at g1
  have b1 : Rows.uptoBulk y1.1 ≤ N := bulk_agg hb (by simp)
  obtain ⟨z1, e1, q1⟩ := dec_int' Tryz.underlying3 g1
  simp at e1
  have f2 := hf 2 _ rfl
  have g2 : Reads enc Tryz.prog W m 3 (([a0, a1, a2, a3, a4, a5, a6, a7, a8, a9, a10] : List Value).drop 2 |>.take (Tryz.prog.cellsOf 3)) y2 := f2
  rw [cells_3] at g2
  have b2 : Rows.uptoBulk y2.1 ≤ N := bulk_agg hb (by simp)
  obtain ⟨z2, e2, q2⟩ := dec_int' Tryz.underlying3 g2
  simp at e2
  have f3 := hf 3 _ rfl
  have g3 : Reads enc Tryz.prog W m 37 (([a0, a1, a2, a3, a4, a5, a6, a7, a8, a9, a10] : List Value).drop 3 |>.take (Tryz.prog.cellsOf 37)) y3 := f3
  rw [cells_37] at g3
  have b3 : Rows.uptoBulk y3.1 ≤ N := bulk_agg hb (by simp)
  obtain ⟨z3, e3, q3⟩ := dec_Txn1 _ _ _ g3 b3
  simp [cTxn] at e3
  subst e0
  subst e1
  subst e2
  obtain ⟨rfl, rfl, rfl, rfl, rfl, rfl, rfl, rfl⟩ := e3
  exact ⟨(z0, z1, z2, z3), rfl, q0, q1, q2, q3⟩
theorem cells_43 : Tryz.prog.cellsOf 43 = 9 := by kernel_rfl
abbrev ZStat := Int × (Int × (Int × (Int × (Int × (Int × (Int × (Int × Int)))))))
def cStat (z : ZStat) : List Value := [vint z.1, vint z.2.1, vint z.2.2.1, vint z.2.2.2.1, vint z.2.2.2.2.1, vint z.2.2.2.2.2.1, vint z.2.2.2.2.2.2.1, vint z.2.2.2.2.2.2.2.1, vint z.2.2.2.2.2.2.2.2]
def okStat (N : Nat) (_p : HP) (z : ZStat) : Prop := (-9223372036854775808 ≤ z.1 ∧ z.1 ≤ 9223372036854775807) ∧ (-9223372036854775808 ≤ z.2.1 ∧ z.2.1 ≤ 9223372036854775807) ∧ (-9223372036854775808 ≤ z.2.2.1 ∧ z.2.2.1 ≤ 9223372036854775807) ∧ (-9223372036854775808 ≤ z.2.2.2.1 ∧ z.2.2.2.1 ≤ 9223372036854775807) ∧ (-9223372036854775808 ≤ z.2.2.2.2.1 ∧ z.2.2.2.2.1 ≤ 9223372036854775807) ∧ (-9223372036854775808 ≤ z.2.2.2.2.2.1 ∧ z.2.2.2.2.2.1 ≤ 9223372036854775807) ∧ (-9223372036854775808 ≤ z.2.2.2.2.2.2.1 ∧ z.2.2.2.2.2.2.1 ≤ 9223372036854775807) ∧ (-9223372036854775808 ≤ z.2.2.2.2.2.2.2.1 ∧ z.2.2.2.2.2.2.2.1 ≤ 9223372036854775807) ∧ (-9223372036854775808 ≤ z.2.2.2.2.2.2.2.2 ∧ z.2.2.2.2.2.2.2.2 ≤ 9223372036854775807)
set_option maxRecDepth 100000 in
theorem dec_Stat {H : Type} {enc : TypeId × Value → H} {W : World} {N : Nat} (n : Nat) (cs : List Value) (y : DataW H × List MemPlace) (h : Reads enc Tryz.prog W n 43 cs y) (hb : Rows.uptoBulk y.1 ≤ N) : ∃ z : ZStat, cs = cStat z ∧ okStat N (Old W) z := by
  obtain ⟨xs, m, -, rfl, hlen, hxs, hf⟩ := DataW.trod_struct Tryz.underlying43 h
  rw [cells_43] at hlen
  obtain ⟨a0, a1, a2, a3, a4, a5, a6, a7, a8, rfl⟩ : ∃ a0 a1 a2 a3 a4 a5 a6 a7 a8, cs = [a0, a1, a2, a3, a4, a5, a6, a7, a8] := by
    match cs, hlen with
    | [a0, a1, a2, a3, a4, a5, a6, a7, a8], _ => exact ⟨a0, a1, a2, a3, a4, a5, a6, a7, a8, rfl⟩
  obtain ⟨y0, y1, y2, y3, y4, y5, y6, y7, y8, rfl⟩ : ∃ y0 y1 y2 y3 y4 y5 y6 y7 y8, xs = [y0, y1, y2, y3, y4, y5, y6, y7, y8] := by
    match xs, hxs with
    | [y0, y1, y2, y3, y4, y5, y6, y7, y8], _ => exact ⟨y0, y1, y2, y3, y4, y5, y6, y7, y8, rfl⟩
  have f0 := hf 0 _ rfl
  have g0 : Reads enc Tryz.prog W m 3 (([a0, a1, a2, a3, a4, a5, a6, a7, a8] : List Value).drop 0 |>.take (Tryz.prog.cellsOf 3)) y0 := f0
  rw [cells_3] at g0
  have b0 : Rows.uptoBulk y0.1 ≤ N := bulk_agg hb (by simp)
  obtain ⟨z0, e0, q0⟩ := dec_int' Tryz.underlying3 g0
  simp at e0
  have f1 := hf 1 _ rfl
  have g1 : Reads enc Tryz.prog W m 3 (([a0, a1, a2, a3, a4, a5, a6, a7, a8] : List Value).drop 1 |>.take (Tryz.prog.cellsOf 3)) y1 := f1
  rw [cells_3] at g1
  have b1 : Rows.uptoBulk y1.1 ≤ N := bulk_agg hb (by simp)
  obtain ⟨z1, e1, q1⟩ := dec_int' Tryz.underlying3 g1
  simp at e1
  have f2 := hf 2 _ rfl
  have g2 : Reads enc Tryz.prog W m 3 (([a0, a1, a2, a3, a4, a5, a6, a7, a8] : List Value).drop 2 |>.take (Tryz.prog.cellsOf 3)) y2 := f2
  rw [cells_3] at g2
  have b2 : Rows.uptoBulk y2.1 ≤ N := bulk_agg hb (by simp)
  obtain ⟨z2, e2, q2⟩ := dec_int' Tryz.underlying3 g2
  simp at e2
  have f3 := hf 3 _ rfl
  have g3 : Reads enc Tryz.prog W m 3 (([a0, a1, a2, a3, a4, a5, a6, a7, a8] : List Value).drop 3 |>.take (Tryz.prog.cellsOf 3)) y3 := f3
  rw [cells_3] at g3
  have b3 : Rows.uptoBulk y3.1 ≤ N := bulk_agg hb (by simp)
  obtain ⟨z3, e3, q3⟩ := dec_int' Tryz.underlying3 g3
  simp at e3
  have f4 := hf 4 _ rfl
  have g4 : Reads enc Tryz.prog W m 3 (([a0, a1, a2, a3, a4, a5, a6, a7, a8] : List Value).drop 4 |>.take (Tryz.prog.cellsOf 3)) y4 := f4
  rw [cells_3] at g4
  have b4 : Rows.uptoBulk y4.1 ≤ N := bulk_agg hb (by simp)
  obtain ⟨z4, e4, q4⟩ := dec_int' Tryz.underlying3 g4
  simp at e4
  have f5 := hf 5 _ rfl
  have g5 : Reads enc Tryz.prog W m 3 (([a0, a1, a2, a3, a4, a5, a6, a7, a8] : List Value).drop 5 |>.take (Tryz.prog.cellsOf 3)) y5 := f5
  rw [cells_3] at g5
  have b5 : Rows.uptoBulk y5.1 ≤ N := bulk_agg hb (by simp)
  obtain ⟨z5, e5, q5⟩ := dec_int' Tryz.underlying3 g5
  simp at e5
  have f6 := hf 6 _ rfl
  have g6 : Reads enc Tryz.prog W m 3 (([a0, a1, a2, a3, a4, a5, a6, a7, a8] : List Value).drop 6 |>.take (Tryz.prog.cellsOf 3)) y6 := f6
  rw [cells_3] at g6
  have b6 : Rows.uptoBulk y6.1 ≤ N := bulk_agg hb (by simp)
  obtain ⟨z6, e6, q6⟩ := dec_int' Tryz.underlying3 g6
  simp at e6
  have f7 := hf 7 _ rfl
  have g7 : Reads enc Tryz.prog W m 3 (([a0, a1, a2, a3, a4, a5, a6, a7, a8] : List Value).drop 7 |>.take (Tryz.prog.cellsOf 3)) y7 := f7
  rw [cells_3] at g7
  have b7 : Rows.uptoBulk y7.1 ≤ N := bulk_agg hb (by simp)
  obtain ⟨z7, e7, q7⟩ := dec_int' Tryz.underlying3 g7
  simp at e7
  have f8 := hf 8 _ rfl
  have g8 : Reads enc Tryz.prog W m 3 (([a0, a1, a2, a3, a4, a5, a6, a7, a8] : List Value).drop 8 |>.take (Tryz.prog.cellsOf 3)) y8 := f8
  rw [cells_3] at g8
  have b8 : Rows.uptoBulk y8.1 ≤ N := bulk_agg hb (by simp)
  obtain ⟨z8, e8, q8⟩ := dec_int' Tryz.underlying3 g8
  simp at e8
  subst e0
  subst e1
  subst e2
  subst e3
  subst e4
  subst e5
  subst e6
  subst e7
  subst e8
  exact ⟨(z0, z1, z2, z3, z4, z5, z6, z7, z8), rfl, q0, q1, q2, q3, q4, q5, q6, q7, q8⟩
theorem cells_4 : Tryz.prog.cellsOf 4 = 1 := by kernel_rfl
theorem cells_63 : Tryz.prog.cellsOf 63 = 27 := by kernel_rfl
abbrev ZOp := Int × (Int × (Int × (ZEntry × (Bs × (Bs × ((Value × List Ac) × (ZStat × Bool)))))))
def cOp (z : ZOp) : List Value := [vint z.1, vint z.2.1, vint z.2.2.1, vint z.2.2.2.1.1, vint z.2.2.2.1.2.1, vint z.2.2.2.1.2.2.1, vint z.2.2.2.1.2.2.2.1, vstr z.2.2.2.1.2.2.2.2.1, vstr z.2.2.2.1.2.2.2.2.2.1, z.2.2.2.1.2.2.2.2.2.2.1.1, vint z.2.2.2.1.2.2.2.2.2.2.2.1, vint z.2.2.2.1.2.2.2.2.2.2.2.2.1, vint z.2.2.2.1.2.2.2.2.2.2.2.2.2.1, z.2.2.2.1.2.2.2.2.2.2.2.2.2.2, vstr z.2.2.2.2.1, vstr z.2.2.2.2.2.1, z.2.2.2.2.2.2.1.1, vint z.2.2.2.2.2.2.2.1.1, vint z.2.2.2.2.2.2.2.1.2.1, vint z.2.2.2.2.2.2.2.1.2.2.1, vint z.2.2.2.2.2.2.2.1.2.2.2.1, vint z.2.2.2.2.2.2.2.1.2.2.2.2.1, vint z.2.2.2.2.2.2.2.1.2.2.2.2.2.1, vint z.2.2.2.2.2.2.2.1.2.2.2.2.2.2.1, vint z.2.2.2.2.2.2.2.1.2.2.2.2.2.2.2.1, vint z.2.2.2.2.2.2.2.1.2.2.2.2.2.2.2.2, .bool z.2.2.2.2.2.2.2.2]
def okOp (N : Nat) (_p : HP) (z : ZOp) : Prop := (-9223372036854775808 ≤ z.1 ∧ z.1 ≤ 9223372036854775807) ∧ (-9223372036854775808 ≤ z.2.1 ∧ z.2.1 ≤ 9223372036854775807) ∧ (-9223372036854775808 ≤ z.2.2.1 ∧ z.2.2.1 ≤ 9223372036854775807) ∧ okEntry N _p z.2.2.2.1 ∧ z.2.2.2.2.1.length ≤ N ∧ z.2.2.2.2.2.1.length ≤ N ∧ ((∀ h : Hp, _p h → rdS 2 h z.2.2.2.2.2.2.1.1 z.2.2.2.2.2.2.1.2.length (z.2.2.2.2.2.2.1.2.flatMap (acC))) ∧ z.2.2.2.2.2.2.1.2.length ≤ N ∧ ∀ y ∈ z.2.2.2.2.2.2.1.2, okAcl N _p y) ∧ okStat N _p z.2.2.2.2.2.2.2.1 ∧ True
set_option maxRecDepth 100000 in
theorem dec_Op {H : Type} {enc : TypeId × Value → H} {W : World} {N : Nat} (n : Nat) (cs : List Value) (y : DataW H × List MemPlace) (h : Reads enc Tryz.prog W n 63 cs y) (hb : Rows.uptoBulk y.1 ≤ N) : ∃ z : ZOp, cs = cOp z ∧ okOp N (Old W) z := by
  obtain ⟨xs, m, -, rfl, hlen, hxs, hf⟩ := DataW.trod_struct Tryz.underlying63 h
  rw [cells_63] at hlen
  obtain ⟨a0, a1, a2, a3, a4, a5, a6, a7, a8, a9, a10, a11, a12, a13, a14, a15, a16, a17, a18, a19, a20, a21, a22, a23, a24, a25, a26, rfl⟩ : ∃ a0 a1 a2 a3 a4 a5 a6 a7 a8 a9 a10 a11 a12 a13 a14 a15 a16 a17 a18 a19 a20 a21 a22 a23 a24 a25 a26, cs = [a0, a1, a2, a3, a4, a5, a6, a7, a8, a9, a10, a11, a12, a13, a14, a15, a16, a17, a18, a19, a20, a21, a22, a23, a24, a25, a26] := by
    match cs, hlen with
    | [a0, a1, a2, a3, a4, a5, a6, a7, a8, a9, a10, a11, a12, a13, a14, a15, a16, a17, a18, a19, a20, a21, a22, a23, a24, a25, a26], _ => exact ⟨a0, a1, a2, a3, a4, a5, a6, a7, a8, a9, a10, a11, a12, a13, a14, a15, a16, a17, a18, a19, a20, a21, a22, a23, a24, a25, a26, rfl⟩
  obtain ⟨y0, y1, y2, y3, y4, y5, y6, y7, y8, rfl⟩ : ∃ y0 y1 y2 y3 y4 y5 y6 y7 y8, xs = [y0, y1, y2, y3, y4, y5, y6, y7, y8] := by
    match xs, hxs with
    | [y0, y1, y2, y3, y4, y5, y6, y7, y8], _ => exact ⟨y0, y1, y2, y3, y4, y5, y6, y7, y8, rfl⟩
  have f0 := hf 0 _ rfl
  have g0 : Reads enc Tryz.prog W m 3 (([a0, a1, a2, a3, a4, a5, a6, a7, a8, a9, a10, a11, a12, a13, a14, a15, a16, a17, a18, a19, a20, a21, a22, a23, a24, a25, a26] : List Value).drop 0 |>.take (Tryz.prog.cellsOf 3)) y0 := f0
  rw [cells_3] at g0
  have b0 : Rows.uptoBulk y0.1 ≤ N := bulk_agg hb (by simp)
  obtain ⟨z0, e0, q0⟩ := dec_int' Tryz.underlying3 g0
  simp at e0
  have f1 := hf 1 _ rfl
  have g1 : Reads enc Tryz.prog W m 3 (([a0, a1, a2, a3, a4, a5, a6, a7, a8, a9, a10, a11, a12, a13, a14, a15, a16, a17, a18, a19, a20, a21, a22, a23, a24, a25, a26] : List Value).drop 1 |>.take (Tryz.prog.cellsOf 3)) y1 := f1
  rw [cells_3] at g1
  have b1 : Rows.uptoBulk y1.1 ≤ N := bulk_agg hb (by simp)
  obtain ⟨z1, e1, q1⟩ := dec_int' Tryz.underlying3 g1
  simp at e1
  have f2 := hf 2 _ rfl
  have g2 : Reads enc Tryz.prog W m 3 (([a0, a1, a2, a3, a4, a5, a6, a7, a8, a9, a10, a11, a12, a13, a14, a15, a16, a17, a18, a19, a20, a21, a22, a23, a24, a25, a26] : List Value).drop 2 |>.take (Tryz.prog.cellsOf 3)) y2 := f2
  rw [cells_3] at g2
  have b2 : Rows.uptoBulk y2.1 ≤ N := bulk_agg hb (by simp)
  obtain ⟨z2, e2, q2⟩ := dec_int' Tryz.underlying3 g2
  simp at e2
  have f3 := hf 3 _ rfl
  have g3 : Reads enc Tryz.prog W m 39 (([a0, a1, a2, a3, a4, a5, a6, a7, a8, a9, a10, a11, a12, a13, a14, a15, a16, a17, a18, a19, a20, a21, a22, a23, a24, a25, a26] : List Value).drop 3 |>.take (Tryz.prog.cellsOf 39)) y3 := f3
  rw [cells_39] at g3
  have b3 : Rows.uptoBulk y3.1 ≤ N := bulk_agg hb (by simp)
  obtain ⟨z3, e3, q3⟩ := dec_Entry _ _ _ g3 b3
  simp [cEntry] at e3
  have f4 := hf 4 _ rfl
  have g4 : Reads enc Tryz.prog W m 9 (([a0, a1, a2, a3, a4, a5, a6, a7, a8, a9, a10, a11, a12, a13, a14, a15, a16, a17, a18, a19, a20, a21, a22, a23, a24, a25, a26] : List Value).drop 14 |>.take (Tryz.prog.cellsOf 9)) y4 := f4
  rw [cells_9] at g4
  have b4 : Rows.uptoBulk y4.1 ≤ N := bulk_agg hb (by simp)
  obtain ⟨z4, e4, q4⟩ := dec_str Tryz.underlying9 g4 b4
  simp at e4
  have f5 := hf 5 _ rfl
  have g5 : Reads enc Tryz.prog W m 9 (([a0, a1, a2, a3, a4, a5, a6, a7, a8, a9, a10, a11, a12, a13, a14, a15, a16, a17, a18, a19, a20, a21, a22, a23, a24, a25, a26] : List Value).drop 15 |>.take (Tryz.prog.cellsOf 9)) y5 := f5
  rw [cells_9] at g5
  have b5 : Rows.uptoBulk y5.1 ≤ N := bulk_agg hb (by simp)
  obtain ⟨z5, e5, q5⟩ := dec_str Tryz.underlying9 g5 b5
  simp at e5
  have f6 := hf 6 _ rfl
  have g6 : Reads enc Tryz.prog W m 34 (([a0, a1, a2, a3, a4, a5, a6, a7, a8, a9, a10, a11, a12, a13, a14, a15, a16, a17, a18, a19, a20, a21, a22, a23, a24, a25, a26] : List Value).drop 16 |>.take (Tryz.prog.cellsOf 34)) y6 := f6
  rw [cells_34] at g6
  have b6 : Rows.uptoBulk y6.1 ≤ N := bulk_agg hb (by simp)
  obtain ⟨z6, e6, q6⟩ := dec_sliceU (N := N) (acC) (fun y => okAcl N (Old W) y) Tryz.underlying34 cells_104 (by decide) (fun n cs y h hb => dec_Acl n cs y h hb) g6 b6
  simp at e6
  have f7 := hf 7 _ rfl
  have g7 : Reads enc Tryz.prog W m 43 (([a0, a1, a2, a3, a4, a5, a6, a7, a8, a9, a10, a11, a12, a13, a14, a15, a16, a17, a18, a19, a20, a21, a22, a23, a24, a25, a26] : List Value).drop 17 |>.take (Tryz.prog.cellsOf 43)) y7 := f7
  rw [cells_43] at g7
  have b7 : Rows.uptoBulk y7.1 ≤ N := bulk_agg hb (by simp)
  obtain ⟨z7, e7, q7⟩ := dec_Stat _ _ _ g7 b7
  simp [cStat] at e7
  have f8 := hf 8 _ rfl
  have g8 : Reads enc Tryz.prog W m 4 (([a0, a1, a2, a3, a4, a5, a6, a7, a8, a9, a10, a11, a12, a13, a14, a15, a16, a17, a18, a19, a20, a21, a22, a23, a24, a25, a26] : List Value).drop 26 |>.take (Tryz.prog.cellsOf 4)) y8 := f8
  rw [cells_4] at g8
  have b8 : Rows.uptoBulk y8.1 ≤ N := bulk_agg hb (by simp)
  obtain ⟨z8, e8⟩ := dec_bool Tryz.underlying4 g8
  simp at e8
  subst e0
  subst e1
  subst e2
  obtain ⟨rfl, rfl, rfl, rfl, rfl, rfl, rfl, rfl, rfl, rfl, rfl⟩ := e3
  subst e4
  subst e5
  subst e6
  obtain ⟨rfl, rfl, rfl, rfl, rfl, rfl, rfl, rfl, rfl⟩ := e7
  subst e8
  exact ⟨(z0, z1, z2, z3, z4, z5, z6, z7, z8), rfl, q0, q1, q2, q3, q4, q5, q6, q7, trivial⟩
def ptOf (z : ZTxn) : Pt := ⟨z.1, z.2.1, z.2.2.1, z.2.2.2.1.1, z.2.2.2.1.2, z.2.2.2.2.1, z.2.2.2.2.2.1, z.2.2.2.2.2.2.1, z.2.2.2.2.2.2.2⟩
theorem ptA_of {p : HP} {N : Nat} (hN : N ≤ 1048576) {z : ZTxn} (h : okTxn N p z) (hc : isCell z.2.2.2.1.1 = true) : PtA p (ptOf z) := by
  obtain ⟨h1, h2, h3, ⟨h4, h5, h6⟩, h7, h8, h9, h10⟩ := h
  exact ⟨h4, by show z.2.2.2.1.2.length ≤ 1048576; omega, by show z.2.1.length ≤ 1048576; omega, h10, hc⟩
theorem rd_cellOld {W : World} {sz n : Nat} {v : Value} {ys : List Value} (hr : ∀ h : Hp, Old W h → rdS sz h v n ys) : isCell v = true := by
  have h := hr (fun b => if b < W.heap.size then W.heap[b]? else none) (fun b hb => if_pos hb)
  rcases h with ⟨-, -, a, c, rfl⟩ | ⟨b, off, cap, l, T, fr, rfl, -⟩ <;> rfl
def enOf (z : ZEntry) (subs : List Pt) : En := ⟨z.1, z.2.1, z.2.2.1, ptOf z.2.2.2, subs⟩
/-- One entry. -/
theorem ent_of {W : World} {B : Nat} (hB : B ≤ 1048576) {z : ZEntry} (h : okEntry B (Old W) z) : ∃ e : En, cEntry z = enC e ∧ TxA (Old W) e.x e.subs ∧ e.x.own ≤ 9223372036854775807 ∧ e.subs.length ≤ B := by
  obtain ⟨h1, h2, h3, ht⟩ := h
  obtain ⟨t1, t2, t3, ⟨t4, t5, t6⟩, t7, t8, t9, l, g1, g2, g3⟩ := ht
  refine ⟨enOf z (l.map ptOf), rfl, ⟨⟨t4, by show z.2.2.2.2.2.2.1.2.length ≤ 1048576; omega, by show z.2.2.2.2.1.length ≤ 1048576; omega, rd_cellOld g1, rd_cellOld t4⟩, fun h hp => ?_, by show (l.map ptOf).length ≤ 1048576; rw [List.length_map]; omega, fun y hy => ?_⟩, t7.2, by show (l.map ptOf).length ≤ B; rw [List.length_map]; exact g2⟩
  · have := g1 h hp
    show rdS 8 h _ (l.map ptOf).length ((l.map ptOf).flatMap ptC)
    rw [List.length_map, List.flatMap_map]
    exact this
  · obtain ⟨q, hq, rfl⟩ := List.mem_map.1 hy
    exact ptA_of hB (g3 q hq) (rd_cellOld (g3 q hq).2.2.2.1.1)
def stOf (z : ZStat) : Stt := ⟨z.1, z.2.1, z.2.2.1, z.2.2.2.1, z.2.2.2.2.1, z.2.2.2.2.2.1, z.2.2.2.2.2.2.1, z.2.2.2.2.2.2.2.1, z.2.2.2.2.2.2.2.2⟩
theorem op_of {W : World} {B : Nat} (hB : B ≤ 1048576) {z : ZOp} (h : okOp B (Old W) z) : ∃ o : Op7, cOp z = op7C o ∧ OpA (Old W) o ∧ o.e.subs.length ≤ B := by
  obtain ⟨h1, h2, h3, he, hp, hd, ⟨ha1, ha2, ha3⟩, hst, ho⟩ := h
  obtain ⟨e, e1, e2, e3, e4⟩ := ent_of hB he
  refine ⟨⟨z.1, z.2.1, z.2.2.1, e, z.2.2.2.2.1, z.2.2.2.2.2.1, z.2.2.2.2.2.2.1.1, z.2.2.2.2.2.2.1.2, stOf z.2.2.2.2.2.2.2.1, z.2.2.2.2.2.2.2.2⟩, ?_, ⟨e2, e3, h2.2, ha1, by show z.2.2.2.2.2.2.1.2.length ≤ 1048576; omega, rd_cellOld ha1, by show z.2.2.2.2.1.length ≤ 1048576; omega⟩, e4⟩
  show [vint z.1, vint z.2.1, vint z.2.2.1] ++ cEntry z.2.2.2.1 ++ [vstr z.2.2.2.2.1, vstr z.2.2.2.2.2.1, z.2.2.2.2.2.2.1.1] ++ stC (stOf z.2.2.2.2.2.2.2.1) ++ [.bool z.2.2.2.2.2.2.2.2] = _
  rw [e1]
  rfl
theorem ops_list {W : World} : ∀ {l : List ZOp} {ws : List Nat}, ws.length = l.length → ws.sum ≤ 1048576 → (∀ w ∈ ws, 1 ≤ w) → (∀ i (h1 : i < l.length) (h2 : i < ws.length), okOp ws[i] (Old W) l[i]) → ∃ es : List Op7, es.length = l.length ∧ es.flatMap op7C = l.flatMap cOp ∧ (∀ e ∈ es, OpA (Old W) e) ∧ wtO es ≤ 2 * ws.sum
  | [], _, _, _, _, _ => ⟨[], rfl, rfl, (fun _ h => by cases h), by simp [wtO]⟩
  | z :: l, [], h, _, _, _ => by simp at h
  | z :: l, w :: ws, h, hs, hp, hq => by
    rw [List.sum_cons] at hs
    have h0 : okOp w (Old W) z := hq 0 (by simp) (by simp)
    have hw1 : w ≤ 1048576 := by omega
    obtain ⟨e, e1, e2, e4⟩ := op_of hw1 h0
    obtain ⟨es, k1, k2, k3, k4⟩ := ops_list (l := l) (ws := ws) (by simpa using h) (by omega) (fun x hx => hp x (List.mem_cons_of_mem _ hx)) (fun i h1 h2 => hq (i + 1) (by simpa using h1) (by simpa using h2))
    have hw := hp w List.mem_cons_self
    have e4' : e.e.subs.length ≤ w := e4
    refine ⟨e :: es, by rw [List.length_cons, k1, List.length_cons], by rw [List.flatMap_cons, k2, List.flatMap_cons, e1], fun x hx => ?_, ?_⟩
    · rcases List.mem_cons.1 hx with rfl | hx
      · exact e2
      · exact k3 x hx
    · unfold wtO at k4 ⊢
      rw [List.map_cons, List.sum_cons, List.sum_cons]
      omega
theorem dec_ops {H : Type} {enc : TypeId × Value → H} {W : World} {fuel : Nat} {cs : List Value} {x : DataW H × List MemPlace} (h : Reads enc Tryz.prog W fuel 61 cs x) (hb : Rows.uptoBulk x.1 ≤ 1048576) : ∃ (v : Value) (es : List Op7), cs = [v] ∧ OpsA (Old W) v es := by
  obtain ⟨z, ws, h1, h2, h3, h4, h5, h6⟩ := dec_sliceQ (N := 1048576) cOp (fun B z => okOp B (Old W) z) Tryz.underlying61 cells_63 (by decide) (fun n cs y h => dec_Op n cs y h (Nat.le_refl _)) h hb
  obtain ⟨es, k1, k2, k3, k4⟩ := ops_list h4 h5 (fun w hw => (h6.1 w hw)) h6.2
  exact ⟨z.1, es, h1, fun h hp => by rw [k1, k2]; exact h2 h hp, by omega, k3, by omega⟩
end Go.Proofs.YtnnbelmpbmfdnaaGreatDoor

/- Own work: treePlays: the walk, brought to the given second form and its card. -/

namespace Go.Proofs.YtnnbelmpbmfdnaaGreatDoor.treePlays
open Go Go.ChangeShapes Go.WideShapes Go.ChangeAt Go.RowKit
theorem own : ownKnob Tryz.prog.godebug = none := by kernel_rfl
theorem laid : laidOutB Tryz.prog = true := by kernel_rfl
theorem readable : ∀ t ∈ Tryz.f8.params.toList, Tryz.prog.readableRec t = true ∧ t < Tryz.prog.types.size := by
  have h : (Tryz.f8.params.toList.all fun t => Tryz.prog.readableRec t && decide (t < Tryz.prog.types.size)) = true := by kernel_rfl
  intro t ht
  simpa using List.all_eq_true.1 h t ht
set_option maxRecDepth 100000 in
theorem contract (H : Type) (enc : TypeId × Value → H) (W : World) (base : Nat) (args : Array Value) (ds gs : List (DataW H)) (before : List MemPlace)
    (hval : ∀ (j : Nat) t v, Tryz.f8.params[j]? = some t → args[j]? = some v → Value.okWide Tryz.prog W .any base t v)
    (hW : DataW.Whole enc Tryz.prog Tryz.f8.params.toList Rows.treePlaysSpec.vars false W args.toList ds gs before) (hk : Rows.uptoSmall H (ds ++ gs) = true) :
    Calls Tryz.prog 8 args W fun e W' => ∃ v, e = .returned v ∧ Rows.treePlaysSpec.post enc Tryz.prog Tryz.f8 false true false false W args v W' := by
  have hW' := hW
  obtain ⟨p, q, hA, hV, rfl, hfz, hnd⟩ := hW
  obtain ⟨rfl, -⟩ := trodVars_none hV
  rw [List.append_nil] at hk
  have hpar : Tryz.f8.params = #[61] := Tryz.params8
  rw [hpar] at hval
  have hA' := hA
  rw [hpar] at hA'
  obtain ⟨v0, vs0, d0, ds0, p0, r0, ha0, rfl, rfl, h0, t0⟩ := trodAll_cons hA'
  obtain ⟨hv, rfl, rfl⟩ := trodAll_nil t0
  obtain rfl : args = #[v0] := by
    have e : args.toList = [v0] := by rw [ha0, hv]
    cases args; simp_all
  have b0 := bulk_small hk (d := d0) (by simp)
  obtain ⟨ad0, nn0, cp0, rfl⟩ := okWide_slice Tryz.underlying61 (hval 0 _ _ rfl rfl)
  obtain ⟨fu0, g0⟩ := h0
  obtain ⟨v0, xs0, e0, q0⟩ := dec_ops g0 b0
  simp [Value.cells] at e0
  subst e0
  refine (old_calls (tplays7_spec _ xs0 (Old W) q0)).mono fun e W' ⟨he, hb⟩ => ⟨_, he, ?_⟩
  exact settled hW' rfl (fun gs' h => by subst h; rfl) rfl Tryz.underlying4 laid readable hb
/-- A world for the witness: the two tables that the row lists, as they are laid. -/
def cellsTo (l : List Value) : Obj → Obj
  | .cells _ t frozen => .cells l.toArray t frozen
  | o => o
noncomputable def laidWorld (os : Os) : World :=
  let w := World.holding Tryz.prog os ⟨#[], #[], []⟩
  { w with heap := (w.heap.modify 1 (cellsTo (Pinned.utf8FirstZ.map fun (n : Nat) => Value.int .u8 n))).modify 2 (cellsTo [.int .u8 128, .int .u8 191, .int .u8 160, .int .u8 191, .int .u8 128, .int .u8 159, .int .u8 144, .int .u8 191, .int .u8 128, .int .u8 143, .int .u8 0, .int .u8 0, .int .u8 0, .int .u8 0, .int .u8 0, .int .u8 0, .int .u8 0, .int .u8 0, .int .u8 0, .int .u8 0, .int .u8 0, .int .u8 0, .int .u8 0, .int .u8 0, .int .u8 0, .int .u8 0, .int .u8 0, .int .u8 0, .int .u8 0, .int .u8 0, .int .u8 0, .int .u8 0]) }
theorem laid_met (os : Os) : laidMet Tryz.prog Rows.treePlaysUptoRow.laid ((laidWorld os).forCall (fun _ _ => 0) ⟨#[], #[.slice none 0 0], []⟩).memory :=
  laidMet_of_run' 8 (by kernel_rfl) (by kernel_rfl)
theorem reads (os : Os) {H : Type} (enc : TypeId × Value → H) : ∃ places, DataW.whole enc Tryz.prog ((laidWorld os).forCall (fun _ _ => 0) ⟨#[], #[.slice none 0 0], []⟩).memory Tryz.f8.params.toList Rows.treePlaysSpec.vars false (#[.slice none 0 0] : Array Value).toList 8 = some ([.nil], [], places) :=
  ⟨[], by kernel_rfl⟩
set_option maxRecDepth 100000 in
theorem lifted (os : Os) (started : os.Started) (H : Type) (enc : TypeId × Value → H) (F : Stop.Interp) :
    ReturnsInHanded {} Tryz.checked os 8 .any ((Rows.OpenSpec.upto Rows.treePlaysSpec).preRow enc Tryz.prog Tryz.f8 Rows.treePlaysUptoRow.domain false Rows.treePlaysUptoRow.laid) (((Rows.OpenSpec.upto Rows.treePlaysSpec).at F).post enc Tryz.prog Tryz.f8 false true false false) := by
  obtain ⟨places, hx⟩ := reads os enc
  refine returnsInHanded_of_row (C := Tryz.checked) (s := Rows.OpenSpec.upto Rows.treePlaysSpec) own started (by kernel_rfl) Tryz.func8
    (witness_row_at (enc := enc) (C := Tryz.checked) false (laidWorld os) #[.slice none 0 0] rfl (by kernel_rfl) (by kernel_rfl) (by kernel_rfl)
      (OpenSpec.preRow_of_cond 8 hx (by kernel_rfl) (fun k hk => by cases hk; kernel_rfl) (by kernel_rfl) (laid_met os))) ?_
  intro W base args ds gs before hval hW _ hcond _ _ _ _
  exact contract H enc W base args ds gs before hval hW (hcond _ rfl)
theorem saidUpto : Rows.TreePlaysUptoSaid :=
  OpenClaim.holds_of_cond 8 Tryz.f8 rfl rfl rfl rfl rfl rfl rfl ⟨rfl, rfl, rfl, rfl, rfl⟩ rfl rfl rfl rfl rfl (by kernel_rfl) Tryz.func8 (by kernel_rfl)
    (of_decide_eq_true (by kernel_rfl)) (by unfold Func.isWrapper; first | (rw [if_pos (by decide +kernel)]; kernel_rfl) | (rw [if_neg (by decide +kernel)]; exact ⟨rfl, rfl⟩))
    (fun os started H enc _ F => by rw [OpenClaim.pre_eq_preRow]; exact lifted os started H enc F)
theorem plain (f : FuncId) (fn : Func) (hf : Tryz.pinned.checked.prog.funcNamed "arboretum/arboretumlaw07.TreePlays" = some f) (hfn : Tryz.pinned.checked.prog.funcs[f]? = some fn) :
    true = Tryz.pinned.checked.prog.looks [] ∧ ∀ (j : Nat) t, fn.params[j]? = some t → Tryz.pinned.checked.prog.wantsStandIn t = false := by
  obtain rfl : f = 8 := Option.some.inj ((show Tryz.prog.funcNamed "arboretum/arboretumlaw07.TreePlays" = some 8 by kernel_rfl).symm.trans hf) |>.symm
  obtain rfl : fn = Tryz.f8 := (Option.some.inj (Tryz.func8.symm.trans hfn)).symm
  refine ⟨by kernel_rfl, fun j t ht => ?_⟩
  have h : (Tryz.f8.params.toList.all fun t => !Tryz.pinned.checked.prog.wantsStandIn t) = true := by kernel_rfl
  have h2 := List.all_eq_true.1 h t (Array.mem_def.1 (Array.mem_of_getElem? ht))
  simpa using h2
theorem proved : Rows.TreePlaysUptoCardSaid :=
  Claim7.holds_tied_plain_at .later [] _ _ _ _ saidUpto (fun _ h => by cases h) (by kernel_rfl) (fun _ h => by cases h) treePlaysUpto_row_tie rfl ⟨rfl, rfl⟩ (by kernel_rfl) rfl plain (by kernel_rfl)
end Go.Proofs.YtnnbelmpbmfdnaaGreatDoor.treePlays

