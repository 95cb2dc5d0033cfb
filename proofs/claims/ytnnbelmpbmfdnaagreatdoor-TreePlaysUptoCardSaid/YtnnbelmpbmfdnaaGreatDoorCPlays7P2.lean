/- Own work, some of it printed by program, texts that were built one by one and are laid one behind the other here: package tree: erase, part, Apply and what is told of a tree: walked. | package tree: Stat, Get, Same: walked. | package tree: Apply, Stat, Get: walked. | entries as plain data; what is done below one node does not touch what is below another one: plain. | sound histories as plain data, and what is so in all of them. | package tree: Owned, Session, Kids: walked. | who owns what in a sound history: plain. | sessions and nodes know nothing of one another, but for a session's end: plain. | package tree: Acl, Sessions, Lay, LaySession: walked. | any entries, as arguments: what they may be, and how great a tree they make: plain. | entries that are lent with one more behind each list: plain. -/
import Derived.Test.YtnnbelmpbmfdnaaGreatDoorCPlays7P1
import Derived.Test.YtnnbelmpbmfdnaaGreatDoorCPlays7P0
set_option linter.unusedSimpArgs false
set_option linter.unusedVariables false
/- Own work, by program: package tree: erase, part, Apply and what is told of a tree: walked. -/

namespace Go.Proofs.YtnnbelmpbmfdnaaGreatDoor
open Go
theorem trkeys_spec (mb : Option Nat) : Fn Tryz.prog 48 #[.map mb] [] fun v L => ∃ b, v = .func (.func 98) #[] #[vptr b] ∧ L = [ptc b [.map mb] 107] :=
  keysS_fn Tryz.keysS mb
theorem trsorted_spec {b r : Nat} {T : TypeId} (m : NmM) (hnd : (m.map (·.1)).Nodup) (hbd : ∀ x ∈ m, x.1.length ≤ 60) (hlen : m.length ≤ 1099511627776) :
    Fn Tryz.prog 47 #[.func (.func 98) #[] #[vptr b]] [ptc b [.map (some r)] T, mapR r (ndE m)] fun v L => (∃ a c, v = .slice a m.length c) ∧ L = [slR 9 1 v m.length (strs (sortS (m.map (·.1)))), mapR r (ndE m)] :=
  sortedS_fn Tryz.keysS Tryz.sortedS Tryz.sortS rfl (enters_of Tryz.func97 rfl rfl) (enters_of Tryz.func98 rfl rfl) Tryz.underlying9 (enc := ndV) (b := b) (r := r) (T := T) m hnd (fun x hx => Nat.le_trans (hbd x hx) (by decide)) hlen
theorem sortstr_spec (v : Value) (n : Nat) (xs : List Bs) (hn : n < 4611686018427387904) : Fn Tryz.prog 97 #[v] [slR 9 1 v n (strs xs)] fun u L => u = .tuple #[] ∧ L = [slR 9 1 v n (strs (sortS xs))] :=
  sortS_fn Tryz.sortS 9 v n xs hn
set_option maxRecDepth 100000 in
theorem trkids0_spec (t rn : Nat) (vs vz : Value) (m : NmM) (p : Bs) (hlen : ∀ x ∈ m, x.1.length ≤ 60) (hm0 : m.length ≤ 1099511627776) : Fn Tryz.prog 49 #[vptr t, vstr p] [ptc t [.map (some rn), vs, vz] 110, mapR rn (ndE m)] fun v L => (∃ a c, v = .slice a (kidsM m p).length c) ∧ L = [ptc t [.map (some rn), vs, vz] 110, mapR rn (ndE m), slR 9 1 v (kidsM m p).length (strs (sortS (kidsM m p)))] := by
 refine Fn.intro (vs := [vptr t, vstr p]) Tryz.func49 rfl rfl ?_
 intro F W
 refine G.seq (G.region (G.q (Quiet.assign rfl) rfl (G.nil (G.then_n (G.seq (G.add (slR_nil 9 1) (G.region (G.q (Quiet.assign rfl) rfl (G.nil (G.then_n (G.seq (G.seq (G.region (G.q (Quiet.move rfl) rfl (G.q (Quiet.nilp rfl) rfl (G.q (Quiet.fieldAddr rfl fo_110_0) rfl ?_))))))))))))))))
 refine G.q (Quiet.load rfl ag_107 (by (repeat' constructor)) (rfl)) rfl ?_
 refine G.op (OpSpec.range (f := fun x : Bs × Nm => (vstr x.1, ndV x.2)) (m := m) rfl Tryz.underlying107 ?he7) (by (repeat' constructor)) rfl ?nx8
 case he7 => rfl
 rintro v L' ⟨it, rfl, rfl⟩
 refine G.nil (G.then_n (G.block ?_))
 refine G.loopK (ι := NmM × Value × (List Bs)) (fun q E => (5, q.2.1) :: E) (fun q => [rangeR (fun x : Bs × Nm => (vstr x.1, ndV x.2)) it rn m q.1, slR 9 1 q.2.1 q.2.2.length (strs q.2.2)]) (fun q => q.2.2 = kidsM q.1 p ∧ (∃ rest, m.Perm (q.1 ++ rest)) ∧ ∃ a c, q.2.1 = .slice a q.2.2.length c) (fun q => m.length - q.1.length) ([], .slice none 0 0, []) (ts := [1, 4, 11]) (.cons rfl (.cons rfl (.cons rfl (.nil)))) (⟨rfl, ⟨m, .refl _⟩, none, 0, rfl⟩) ⟨rfl, rfl, rfl, rfl, trivial⟩ (by (repeat' constructor)) ?_
 rintro ⟨ss, u, acc⟩ ⟨hacc, ⟨rest, hm⟩, au, cu, hu⟩
 dsimp only
 dsimp only at hacc hm hu
 subst hu
 have hml := hm.length_eq
 rw [List.length_append] at hml
 have hkl := kidsM_len ss p
 rw [← hacc] at hkl
 refine G.seq (G.region ?_)
 refine G.op (OpSpec.next rfl) (by (repeat' constructor)) rfl ?nx10
 rintro v L' (⟨rfl, hp3, rfl⟩ | ⟨x, rest3, rfl, hp3, rfl⟩)
 ·refine G.rangeDone (by (repeat' constructor)) ?_
  have hperm : acc.Perm (kidsM m p) := by rw [hacc]; unfold kidsM; exact ((hp3.symm.filter _).map _)
  have hpl := hperm.length_eq
  have hsp := sortS_of_perm hperm
  have hkm := kidsM_len m p
  refine G.q (Quiet.extract rfl rfl) rfl (G.nil (G.then_n (G.seq (G.condF rfl (G.exit (G.then_e (G.then_e (G.blk_e (G.then_n (G.seq (G.region (G.q (Quiet.move rfl) rfl ?_))))))))))))
  refine G.op (OpSpec.call Tryz.func97 rfl rfl (vs := [_]) rfl (sortstr_spec _ acc.length acc (by omega))) (by (repeat' constructor)) rfl ?nx14
  rintro v L' ⟨rfl, rfl⟩; rw [hsp, hpl]
  refine G.nil (G.then_n (G.seq (G.region (G.q (Quiet.move rfl) rfl (G.q (Quiet.assign rfl) rfl (G.nil (G.then_n (G.ret ?_))))))))
  exact G.done (l := [.tmp 4]) rfl rfl ⟨⟨_, _, rfl⟩, rfl⟩ (by (repeat' constructor)) (by (repeat' constructor))
 ·refine G.q (Quiet.extract rfl rfl) rfl (G.nil (G.then_n (G.seq (G.condT rfl (G.skip (G.then_n (G.block (G.seq (G.region ?_)))))))))
  refine G.q (Quiet.entryE (v := .tuple #[vstr x.1, ndV x.2]) rfl (by (repeat' constructor)) rfl) rfl ?_
  refine G.q (Quiet.extract rfl rfl) rfl (G.q (Quiet.assign rfl) rfl (G.nil ?_))
  have hxm : x ∈ m := hp3.mem_iff.2 (by simp)
  have hxl := hlen x hxm
  refine G.then_n (G.seq (G.region (G.q (Quiet.move rfl) rfl (G.q (Quiet.strne rfl rfl) rfl (G.q (Quiet.move rfl) rfl ?_)))))
  refine G.ndec (t := 18) rfl (fun h5_18 => ?_) (fun h5_18 => ?_)
  ·refine G.kNT (t := 17) rfl h5_18 (G.grun (t := 18) rfl rfl rfl (G.q (Quiet.move rfl) rfl (G.grun (t := 18) rfl rfl rfl ?_)))
   refine G.op (OpSpec.call Tryz.func99 rfl rfl (vs := [_]) rfl (parent_spec x.1 (by omega))) (by (repeat' constructor)) rfl ?nx22
   rintro v L' ⟨rfl, rfl⟩
   refine G.grun (t := 18) rfl rfl rfl (G.q (Quiet.move rfl) rfl (G.grun (t := 18) rfl rfl rfl (G.q (Quiet.streq rfl rfl) rfl (G.q (Quiet.pickT rfl rfl) rfl (G.nil (G.then_n ?_))))))
   refine G.condD rfl (fun h23 => ?_) (fun h23 => ?_)
   ·refine G.region (G.q (Quiet.move rfl) rfl (G.q (Quiet.move rfl) rfl ?_))
    refine G.op (OpSpec.call Tryz.func100 rfl rfl (vs := [_]) rfl (base_spec x.1 (by omega))) (by (repeat' constructor)) rfl ?nx27
    rintro v L' ⟨rfl, rfl⟩
    refine G.op (OpSpec.buildSlice1 (vs := [_]) el_40 ze_9 rfl rfl rfl rfl rfl (by decide)) (by (repeat' constructor)) rfl ?nx29
    rintro v L' ⟨b6_3, rfl, rfl⟩
    refine G.op (OpSpec.append1 rfl rfl rfl el_40 ze_9 rfl rfl ?c31 ?c32 (Nat.le_refl _) ?c33 (by decide)) (by (repeat' constructor)) rfl ?nx34
    case c31 => (first | (simp [isCell]; done) | (simp [isCell, setAll, Value.cells]; done))
    case c32 => rfl
    case c33 => omega
    rintro v L' ⟨⟨a6_4, c6_4, rfl⟩, rfl⟩
    refine G.q (Quiet.assign rfl) rfl (G.nil (G.blk_n (G.then_n ?_)))
    have hl := hp3.length_eq
    simp at hl
    have hsel : ¬ x.1 = [47] ∧ parentZ x.1 = p := ⟨h5_18, h23⟩
    rw [show strs acc ++ [vstr (baseZ x.1)] = strs (acc ++ [baseZ x.1]) by simp [strs], show acc.length + 1 = (acc ++ [baseZ x.1]).length by simp]
    exact G.roundK ((ss ++ [x], .slice a6_4 (acc ++ [baseZ x.1]).length c6_4, acc ++ [baseZ x.1])) (⟨by dsimp only; rw [hacc]; unfold kidsM; rw [List.filter_append, List.map_append]; simp [hsel], ⟨_, by simpa using hp3⟩, _, _, rfl⟩) (by dsimp only; simp; omega) ⟨rfl, rfl, rfl, rfl, trivial⟩ (by (repeat' constructor)) (by ((repeat (apply Have.cons; (repeat (first | exact Pick.here | apply Pick.there)))); apply Have.base; repeat' constructor))
   ·refine G.skip (G.blk_n (G.then_n ?_))
    have hl := hp3.length_eq
    simp at hl
    have hsel : ¬ x.1 = [47] → ¬ parentZ x.1 = p := fun g1 g2 => h23 g2
    exact G.roundK ((ss ++ [x], .slice au acc.length cu, acc)) (⟨by dsimp only; rw [hacc]; unfold kidsM; rw [List.filter_append, List.map_append]; simp; exact hsel, ⟨_, by simpa using hp3⟩, _, _, rfl⟩) (by dsimp only; simp; omega) ⟨rfl, rfl, rfl, rfl, trivial⟩ (by (repeat' constructor)) (by ((repeat (apply Have.cons; (repeat (first | exact Pick.here | apply Pick.there)))); apply Have.base; repeat' constructor))
  ·refine G.kNF (t := 17) rfl h5_18 (G.gskip (t := 18) rfl rfl rfl rfl (G.gskip (t := 18) rfl rfl rfl rfl (G.gskip (t := 18) rfl rfl rfl rfl (G.gskip (t := 18) rfl rfl rfl rfl (G.q (Quiet.pickF rfl rfl) rfl (G.nil (G.then_n (G.condF rfl (G.skip (G.blk_n (G.then_n ?_)))))))))))
   have hl := hp3.length_eq
   simp at hl
   have hsel : ¬ x.1 = [47] → ¬ parentZ x.1 = p := fun g1 g2 => g1 h5_18
   exact G.roundK ((ss ++ [x], .slice au acc.length cu, acc)) (⟨by dsimp only; rw [hacc]; unfold kidsM; rw [List.filter_append, List.map_append]; simp; exact hsel, ⟨_, by simpa using hp3⟩, _, _, rfl⟩) (by dsimp only; simp; omega) ⟨rfl, rfl, rfl, rfl, trivial⟩ (by (repeat' constructor)) (by ((repeat (apply Have.cons; (repeat (first | exact Pick.here | apply Pick.there)))); apply Have.base; repeat' constructor))

set_option maxRecDepth 100000 in
theorem trpaths_spec (t : Nat) (τ : Tr) (N : Nat) (ho : τ.Ok N) (hN : N ≤ 1099511627776) : Fn Tryz.prog 15 #[vptr t] [treeR t τ] fun v L => (∃ a c, v = .slice a (pathsZ τ).length c) ∧ L = [treeR t τ, slR 9 1 v (pathsZ τ).length (strs (pathsZ τ))] := by
 refine Fn.intro (vs := [vptr t]) Tryz.func15 rfl rfl ?_
 intro F W
 refine G.trOpen (τ := τ) (by (repeat' constructor)) fun rn rs m s hI => ?_
 have hlen := hI.len ho
 have hfew := ho.few
 have hpz : (pathsZ τ).length = τ.nodes.length := List.length_map _
 refine G.seq (G.region (G.q (Quiet.assign rfl) rfl (G.nil (G.then_n (G.seq (G.region (G.q (Quiet.move rfl) rfl (G.q (Quiet.nilp rfl) rfl (G.q (Quiet.fieldAddr rfl fo_110_0) rfl ?_)))))))))
 refine G.q (Quiet.load rfl ag_107 (by (repeat' constructor)) (rfl)) rfl ?_
 refine G.op (OpSpec.call Tryz.func48 rfl rfl (vs := [_]) rfl (trkeys_spec _)) (by (repeat' constructor)) rfl ?nx6
 rintro v L' ⟨bk, rfl, rfl⟩
 refine G.op (OpSpec.call Tryz.func47 rfl rfl (vs := [_]) rfl (trsorted_spec m hI.keys (hI.plen ho) (by omega))) (by (repeat' constructor)) rfl ?nx8
 rintro v L' ⟨⟨ap, cp, rfl⟩, rfl⟩; rw [hI.paths ho, show m.length = (pathsZ τ).length by omega]
 refine G.q (Quiet.assign rfl) rfl (G.nil (G.then_n (G.ret ?_)))
 refine G.trFold (τ := τ) hI (by (repeat' constructor)) rfl rfl rfl ?_
 exact G.done (l := [.tmp 2]) rfl rfl ⟨⟨_, _, rfl⟩, rfl⟩ (by (repeat' constructor)) (by (repeat' constructor))

set_option maxRecDepth 100000 in
theorem trlayzx_spec (t : Nat) (τ : Tr) (z : Int) : Fn Tryz.prog 77 #[vptr t, vint z] [treeR t τ] fun v L => v = .tuple #[] ∧ L = [treeR t (zxT τ z)] := by
 refine Fn.intro (vs := [vptr t, vint z]) Tryz.func77 rfl rfl ?_
 intro F W
 refine G.trOpen (τ := τ) (by (repeat' constructor)) fun rn rs m s hI => ?_
 refine G.region (G.q (Quiet.move rfl) rfl (G.q (Quiet.move rfl) rfl (G.q (Quiet.nilp rfl) rfl (G.q (Quiet.fieldAddr rfl fo_110_2) rfl ?_))))
 refine G.op (OpSpec.store rfl rfl rfl sz_3 ?c5 ?c6) (by (repeat' constructor)) rfl ?nx7
 case c5 => first | decide | (simp; omega) | simp
 case c6 => exact nfz0 _ _
 rintro v L' rfl
 refine G.nil (G.done_n ?_)
 refine G.trFold (τ := (zxT τ z)) (hI.zx z) (by (repeat' constructor)) rfl rfl rfl ?_
 exact G.done (l := []) rfl rfl ⟨rfl, rfl⟩ (by (repeat' constructor)) (by (repeat' constructor))

set_option maxRecDepth 100000 in
theorem trzxid_spec (t : Nat) (τ : Tr) : Fn Tryz.prog 22 #[vptr t] [treeR t τ] fun v L => v = vint τ.zx ∧ L = [treeR t τ] := by
 refine Fn.intro (vs := [vptr t]) Tryz.func22 rfl rfl ?_
 intro F W
 refine G.trOpen (τ := τ) (by (repeat' constructor)) fun rn rs m s hI => ?_
 refine G.seq (G.region (G.q (Quiet.assign rfl) rfl (G.nil (G.then_n (G.seq (G.region (G.q (Quiet.move rfl) rfl (G.q (Quiet.nilp rfl) rfl (G.q (Quiet.fieldAddr rfl fo_110_2) rfl ?_)))))))))
 refine G.q (Quiet.load rfl ag_3 (by (repeat' constructor)) (rfl)) rfl ?_
 refine G.q (Quiet.assign rfl) rfl (G.nil (G.then_n (G.ret ?_)))
 refine G.trFold (τ := τ) hI (by (repeat' constructor)) rfl rfl rfl ?_
 exact G.done (l := [.tmp 2]) rfl rfl ⟨rfl, rfl⟩ (by (repeat' constructor)) (by (repeat' constructor))

set_option maxRecDepth 100000 in
theorem trerase_spec (t : Nat) (τ : Tr) (x : Pt) (zx : Int) (p : HP) (hx : PtA p x) (N : Nat) (ho : τ.Ok N) (hN : N ≤ 1099511627776) : Fn Tryz.prog 95 #[vptr t, .agg (ptC x).toArray, vint zx] [treeR t τ] fun v L => ∃ a c, v = .slice a (eraseZ τ x zx).2.length c ∧ L = [treeR t (eraseZ τ x zx).1, slR 75 3 v (eraseZ τ x zx).2.length ((eraseZ τ x zx).2.flatMap evC)] := by
 refine Fn.intro (vs := [vptr t, .agg (ptC x).toArray, vint zx]) Tryz.func95 rfl rfl ?_
 intro F W
 have hfew := hx.few
 have hpl := hx.plen
 have hpar := parent_len x.path
 have hpz : (pathsZ τ).length = τ.nodes.length := List.length_map _
 have hofew := ho.few
 refine G.seq (G.region ?_)
 refine G.op (OpSpec.box rfl) (by (repeat' constructor)) rfl ?nx1
 rintro v L' ⟨bx, rfl, rfl⟩
 refine G.q (Quiet.assign rfl) rfl (G.nil ?_)
 refine G.ptCast (b := bx) (l' := ptC x) (by (repeat' constructor)) rfl ?_
 refine G.then_n (G.seq (G.seq (G.region (G.q (Quiet.fieldAddr rfl fo_37_1) rfl ?_))))
 refine G.q (Quiet.load rfl ag_9 (by (repeat' constructor)) (rfl)) rfl ?_
 refine G.op (OpSpec.call Tryz.func119 rfl rfl (vs := [_]) rfl (able_spec x.path hpl)) (by (repeat' constructor)) rfl ?nx6
 rintro v L' ⟨rfl, rfl⟩
 refine G.q (Quiet.not rfl) rfl (G.nil (G.then_n ?_))
 refine G.condN rfl (fun h16 => ?_) (fun h16 => ?_)
 ·refine G.seq (G.region (G.q (Quiet.assign rfl) rfl (G.nil (G.then_n (G.ret (G.then_r (G.add (slR_nil 75 3) ?_)))))))
  have hc : eraseZ τ x zx = (τ, []) := by unfold eraseZ; rw [if_neg h16]
  refine G.trCast (τ' := (eraseZ τ x zx).1) (by (repeat' constructor)) (by rw [hc]) ?_
  refine G.slCast (T := 75) (sz := 3) (m' := (eraseZ τ x zx).2.length) (xs' := (eraseZ τ x zx).2.flatMap evC) (by (repeat' constructor)) (by (rw [hc]; try rfl)) (by (rw [hc]; try rfl)) ?_
  exact G.done (l := [.tmp 6]) rfl rfl ⟨_, _, by (rw [hc]; try rfl), rfl⟩ (by (repeat' constructor)) (by (repeat' constructor))
 ·refine G.skip (G.then_n (G.seq (G.region (G.q (Quiet.fieldAddr rfl fo_37_1) rfl ?_))))
  refine G.q (Quiet.load rfl ag_9 (by (repeat' constructor)) (rfl)) rfl ?_
  refine G.op (OpSpec.call Tryz.func99 rfl rfl (vs := [_]) rfl (parent_spec x.path (by omega))) (by (repeat' constructor)) rfl ?nx12
  rintro v L' ⟨rfl, rfl⟩
  refine G.q (Quiet.assign rfl) rfl (G.nil (G.then_n (G.seq ?_)))
  refine G.trOpen (τ := τ) (by (repeat' constructor)) fun rn rs m s hI => ?_
  refine G.draw [] [[0, 1, 2, 3, 4, 5, 6, 7, 8, 9, 10, 11]] mixed (by kernel_rfl) ?_
  refine Phases.go [] (by (repeat' constructor)) ?_
  rcases hal : alook m x.path with _ | px
  ·have hth : ¬ thereT τ x.path := hI.none_iff.1 hal
   refine D.qw [1, 2, 3, 6, 7, 8, 9, 10, 11] rfl (by kernel_rfl) (Quiet.move rfl) ?_
   refine D.qw [2, 3, 6, 7, 8, 9, 10, 11] rfl (by kernel_rfl) (Quiet.nilp rfl) ?_
   refine D.qw [3, 6, 7, 8, 9, 10, 11] rfl (by kernel_rfl) (Quiet.fieldAddr rfl fo_110_0) ?_
   refine D.qw [6, 7, 8, 9, 10, 11] rfl (by kernel_rfl) (Quiet.load rfl ag_107 (by (repeat' constructor)) (rfl)) ?_
   refine D.qw [5, 6, 7, 8, 9, 10, 11] rfl (by kernel_rfl) (Quiet.fieldAddr rfl fo_37_1) ?_
   refine D.qw [6, 7, 8, 9, 10, 11] rfl (by kernel_rfl) (Quiet.load rfl ag_9 (by (repeat' constructor)) (rfl)) ?_
   refine D.qw [7, 8, 9, 10, 11] rfl (by kernel_rfl) (Quiet.lookupOkN (m := m) (enc := ndV) (KeyLaw.str Tryz.underlying9) hal rfl rfl Tryz.underlying107 ze_102 (by (repeat' constructor)) rfl) ?_
   refine D.qw [8, 9, 10, 11] rfl (by kernel_rfl) (Quiet.move rfl) ?_
   refine D.qw [10, 11] rfl (by kernel_rfl) (Quiet.extract rfl rfl) ?_
   refine D.qw [11] rfl (by kernel_rfl) (Quiet.extract rfl rfl) ?_
   refine D.qw [11] rfl (by kernel_rfl) (Quiet.assign rfl) ?_
   refine D.qw [] rfl (by kernel_rfl) (Quiet.assign rfl) ?_
   refine D.ph (Phases.fin ?_)
   refine G.trFold (τ := τ) hI (by (repeat' constructor)) rfl rfl rfl ?_
   refine G.then_n (G.seq (G.seq (G.region (G.q (Quiet.move rfl) rfl ?_))))
   refine G.op (OpSpec.call Tryz.func15 rfl rfl (vs := [_]) rfl (trpaths_spec t τ N ho hN)) (by (repeat' constructor)) rfl ?nx24
   rintro v L' ⟨⟨ap, cp, rfl⟩, rfl⟩
   refine G.q (Quiet.slen rfl Tryz.underlying40 rfl) rfl (G.q (Quiet.move rfl) rfl (G.nil (G.then_n (G.block ?_))))
   refine G.trCast (τ' := cutL τ x.path ((pathsZ τ).take 0)) (by (repeat' constructor)) (by rw [List.take_zero, cutL_nil]) ?_
   refine G.loopK (ι := Nat) (fun q E => (33, vint q) :: E) (fun q => [treeR t (cutL τ x.path ((pathsZ τ).take q))]) (fun q => q ≤ (pathsZ τ).length) (fun q => (pathsZ τ).length - q) (0) (ts := [0, 2, 4, 6, 7, 9, 31, 32]) (.cons rfl (.cons rfl (.cons rfl (.cons rfl (.cons rfl (.cons rfl (.cons rfl (.cons rfl (.nil))))))))) (Nat.zero_le _) ⟨rfl, rfl, rfl, rfl, rfl, rfl, rfl, rfl, rfl, trivial⟩ (by (repeat' constructor)) ?_
   rintro i hi
   refine G.seq (G.region (G.q (Quiet.int rfl rfl rfl) rfl (G.nil (G.then_n (G.seq ?_)))))
   refine G.condD rfl (fun h34 => ?_) (fun h34 => ?_)
   ·have hi2 : i < (pathsZ τ).length := by omega
    refine G.slShape (v := .slice ap _ cp) (by (repeat' constructor)) (by omega) fun bp cp' e0 mp _ => ?_
    simp only [Value.slice.injEq, true_and] at e0
    obtain ⟨rfl, rfl⟩ := e0
    refine G.skip (G.then_n (G.seq (G.block (G.seq (G.region ?_)))))
    refine G.q (Quiet.indexAddr rfl rfl el_40 (by omega)) rfl ?_
    refine G.q (Quiet.loadSl (v := vstr (pathsZ τ)[i]) (i := i * 1) rfl ag_9 (by (repeat' constructor)) (by simp [hi2])) rfl ?_
    refine G.q (Quiet.assign rfl) rfl (G.nil (G.then_n (G.seq (G.region (G.q (Quiet.move rfl) rfl (G.q (Quiet.fieldAddr rfl fo_37_1) rfl ?_))))))
    refine G.q (Quiet.load rfl ag_9 (by (repeat' constructor)) (rfl)) rfl ?_
    refine G.q (Quiet.streq rfl rfl) rfl (G.q (Quiet.move rfl) rfl ?_)
    refine G.dec (t := 41) rfl (fun h8_41 => ?_) (fun h8_41 => ?_)
    ·refine G.kDT (t := 40) rfl h8_41 (G.gskip (t := 41) rfl rfl rfl rfl (G.gskip (t := 41) rfl rfl rfl rfl (G.gskip (t := 41) rfl rfl rfl rfl (G.gskip (t := 41) rfl rfl rfl rfl (G.q (Quiet.pickT rfl rfl) rfl (G.nil (G.then_n (G.condT rfl ?_))))))))
     have hhit : hitT (pathsZ τ)[i] x.path = true := by unfold hitT; rw [decide_eq_true h8_41]; rfl
     refine G.trOpen (τ := (cutL τ x.path ((pathsZ τ).take i))) (by (repeat' constructor)) fun rn rs m s hI => ?_
     refine G.region (G.q (Quiet.move rfl) rfl (G.q (Quiet.nilp rfl) rfl (G.q (Quiet.fieldAddr rfl fo_110_0) rfl ?_)))
     refine G.q (Quiet.load rfl ag_107 (by (repeat' constructor)) (rfl)) rfl ?_
     refine G.q (Quiet.move rfl) rfl ?_
     refine G.op (OpSpec.mapDel (m := m) (enc := ndV) (k := (pathsZ τ)[i]) (KeyLaw.str Tryz.underlying9) rfl rfl rfl Tryz.underlying107 ?he39) (by (repeat' constructor)) rfl ?nx40
     case he39 => rfl
     rintro v L' rfl
     refine G.nil ?_
     refine G.bigDel (f := inN) (pathsZ τ)[i] (by (repeat' constructor)) ?_
     refine G.trFold (τ := ({ (cutL τ x.path ((pathsZ τ).take i)) with nodes := (cutL τ x.path ((pathsZ τ).take i)).nodes.filter fun y => !decide (y.1 = (pathsZ τ)[i]) } : Tr)) (hI.del (pathsZ τ)[i]) (by (repeat' constructor)) rfl rfl rfl ?_
     refine G.blk_n (G.then_n (G.region ?_))
     refine G.q (Quiet.add rfl rfl (by omega)) rfl ?_
     refine G.q (Quiet.move rfl) rfl (G.nil (G.then_n ?_))
     refine G.trCast (τ' := cutL τ x.path ((pathsZ τ).take (i + 1))) (by (repeat' constructor)) (by rw [List.take_succ_eq_append_getElem hi2, cutL_hit τ _ hhit]) ?_
     exact G.roundK (i + 1) (by omega) (by omega) ⟨rfl, rfl, rfl, rfl, rfl, rfl, rfl, rfl, rfl, trivial⟩ (by (repeat' constructor)) (by ((repeat (apply Have.cons; (repeat (first | exact Pick.here | apply Pick.there)))); apply Have.base; repeat' constructor))
    ·refine G.kDF (t := 40) rfl h8_41 (G.grun (t := 41) rfl rfl rfl (G.q (Quiet.move rfl) rfl (G.grun (t := 41) rfl rfl rfl (G.q (Quiet.fieldAddr rfl fo_37_1) rfl (G.grun (t := 41) rfl rfl rfl ?_)))))
     refine G.q (Quiet.load rfl ag_9 (by (repeat' constructor)) (rfl)) rfl ?_
     refine G.grun (t := 41) rfl rfl rfl ?_
     refine G.op (OpSpec.call Tryz.func121 rfl rfl (vs := [_, _]) rfl (under_spec (pathsZ τ)[i] x.path (by omega))) (by (repeat' constructor)) rfl ?nx44
     rintro v L' ⟨rfl, rfl⟩
     refine G.q (Quiet.pickF rfl rfl) rfl (G.nil (G.then_n ?_))
     refine G.condD rfl (fun h46 => ?_) (fun h46 => ?_)
     ·have hhit : hitT (pathsZ τ)[i] x.path = true := by unfold hitT; rw [decide_eq_true h46, Bool.or_true]
      refine G.trOpen (τ := (cutL τ x.path ((pathsZ τ).take i))) (by (repeat' constructor)) fun rn rs m s hI => ?_
      refine G.region (G.q (Quiet.move rfl) rfl (G.q (Quiet.nilp rfl) rfl (G.q (Quiet.fieldAddr rfl fo_110_0) rfl ?_)))
      refine G.q (Quiet.load rfl ag_107 (by (repeat' constructor)) (rfl)) rfl ?_
      refine G.q (Quiet.move rfl) rfl ?_
      refine G.op (OpSpec.mapDel (m := m) (enc := ndV) (k := (pathsZ τ)[i]) (KeyLaw.str Tryz.underlying9) rfl rfl rfl Tryz.underlying107 ?he50) (by (repeat' constructor)) rfl ?nx51
      case he50 => rfl
      rintro v L' rfl
      refine G.nil ?_
      refine G.bigDel (f := inN) (pathsZ τ)[i] (by (repeat' constructor)) ?_
      refine G.trFold (τ := ({ (cutL τ x.path ((pathsZ τ).take i)) with nodes := (cutL τ x.path ((pathsZ τ).take i)).nodes.filter fun y => !decide (y.1 = (pathsZ τ)[i]) } : Tr)) (hI.del (pathsZ τ)[i]) (by (repeat' constructor)) rfl rfl rfl ?_
      refine G.blk_n (G.then_n (G.region ?_))
      refine G.q (Quiet.add rfl rfl (by omega)) rfl ?_
      refine G.q (Quiet.move rfl) rfl (G.nil (G.then_n ?_))
      refine G.trCast (τ' := cutL τ x.path ((pathsZ τ).take (i + 1))) (by (repeat' constructor)) (by rw [List.take_succ_eq_append_getElem hi2, cutL_hit τ _ hhit]) ?_
      exact G.roundK (i + 1) (by omega) (by omega) ⟨rfl, rfl, rfl, rfl, rfl, rfl, rfl, rfl, rfl, trivial⟩ (by (repeat' constructor)) (by ((repeat (apply Have.cons; (repeat (first | exact Pick.here | apply Pick.there)))); apply Have.base; repeat' constructor))
     ·have hhit : hitT (pathsZ τ)[i] x.path = false := by unfold hitT; rw [decide_eq_false h8_41, decide_eq_false h46]; rfl
      refine G.skip (G.blk_n (G.then_n (G.region ?_)))
      refine G.q (Quiet.add rfl rfl (by omega)) rfl ?_
      refine G.q (Quiet.move rfl) rfl (G.nil (G.then_n ?_))
      refine G.trCast (τ' := cutL τ x.path ((pathsZ τ).take (i + 1))) (by (repeat' constructor)) (by rw [List.take_succ_eq_append_getElem hi2, cutL_skip τ _ hhit]) ?_
      exact G.roundK (i + 1) (by omega) (by omega) ⟨rfl, rfl, rfl, rfl, rfl, rfl, rfl, rfl, rfl, trivial⟩ (by (repeat' constructor)) (by ((repeat (apply Have.cons; (repeat (first | exact Pick.here | apply Pick.there)))); apply Have.base; repeat' constructor))
   ·have hii : i = (pathsZ τ).length := by omega
    rw [hii, List.take_length, cutL_all]
    refine G.exit (G.then_e (G.then_e (G.blk_e (G.then_n (G.seq (G.region (G.q (Quiet.move rfl) rfl (G.q (Quiet.move rfl) rfl (G.q (Quiet.fieldAddr rfl fo_37_5) rfl ?_)))))))))
    refine G.q (Quiet.load rfl ag_3 (by (repeat' constructor)) (rfl)) rfl ?_
    refine G.q (Quiet.move rfl) rfl ?_
    refine G.op (OpSpec.call Tryz.func120 rfl rfl (vs := [_, _, _, _]) rfl (trkid_spec t (cutT τ x.path) (parentZ x.path) x.num zx)) (by (repeat' constructor)) rfl ?nx59
    rintro v L' ⟨rfl, rfl⟩
    refine G.nil (G.then_n (G.seq (G.seq (G.region (G.q (Quiet.move rfl) rfl (G.q (Quiet.not rfl) rfl (G.nil (G.then_n (G.condT rfl (G.seq (G.region (G.q (Quiet.assign rfl) rfl (G.nil (G.then_n (G.ret (G.then_r (G.add (slR_nil 75 3) ?_)))))))))))))))))
    have hc : eraseZ τ x zx = ((kidT (cutT τ x.path) (parentZ x.path) x.num zx), []) := by unfold eraseZ; rw [if_pos h16, if_neg hth]
    refine G.trCast (τ' := (eraseZ τ x zx).1) (by (repeat' constructor)) (by rw [hc]) ?_
    refine G.slCast (T := 75) (sz := 3) (m' := (eraseZ τ x zx).2.length) (xs' := (eraseZ τ x zx).2.flatMap evC) (by (repeat' constructor)) (by (rw [hc]; try rfl)) (by (rw [hc]; try rfl)) ?_
    exact G.done (l := [.tmp 6]) rfl rfl ⟨_, _, by (rw [hc]; try rfl), rfl⟩ (by (repeat' constructor)) (by (repeat' constructor))
  ·have hth : thereT τ x.path := hI.some_iff hal
   refine D.qw [1, 2, 3, 6, 7, 8, 9, 10, 11] rfl (by kernel_rfl) (Quiet.move rfl) ?_
   refine D.qw [2, 3, 6, 7, 8, 9, 10, 11] rfl (by kernel_rfl) (Quiet.nilp rfl) ?_
   refine D.qw [3, 6, 7, 8, 9, 10, 11] rfl (by kernel_rfl) (Quiet.fieldAddr rfl fo_110_0) ?_
   refine D.qw [6, 7, 8, 9, 10, 11] rfl (by kernel_rfl) (Quiet.load rfl ag_107 (by (repeat' constructor)) (rfl)) ?_
   refine D.qw [5, 6, 7, 8, 9, 10, 11] rfl (by kernel_rfl) (Quiet.fieldAddr rfl fo_37_1) ?_
   refine D.qw [6, 7, 8, 9, 10, 11] rfl (by kernel_rfl) (Quiet.load rfl ag_9 (by (repeat' constructor)) (rfl)) ?_
   refine D.qw [7, 8, 9, 10, 11] rfl (by kernel_rfl) (Quiet.lookupOkY (m := m) (enc := ndV) (KeyLaw.str Tryz.underlying9) hal rfl rfl Tryz.underlying107 ze_102 (by (repeat' constructor)) rfl) ?_
   refine D.qw [8, 9, 10, 11] rfl (by kernel_rfl) (Quiet.move rfl) ?_
   refine D.qw [10, 11] rfl (by kernel_rfl) (Quiet.extract rfl rfl) ?_
   refine D.qw [11] rfl (by kernel_rfl) (Quiet.extract rfl rfl) ?_
   refine D.qw [11] rfl (by kernel_rfl) (Quiet.assign rfl) ?_
   refine D.qw [] rfl (by kernel_rfl) (Quiet.assign rfl) ?_
   refine D.ph (Phases.fin ?_)
   refine G.trFold (τ := τ) hI (by (repeat' constructor)) rfl rfl rfl ?_
   refine G.then_n (G.seq (G.seq (G.region (G.q (Quiet.move rfl) rfl ?_))))
   refine G.op (OpSpec.call Tryz.func15 rfl rfl (vs := [_]) rfl (trpaths_spec t τ N ho hN)) (by (repeat' constructor)) rfl ?nx74
   rintro v L' ⟨⟨ap, cp, rfl⟩, rfl⟩
   refine G.q (Quiet.slen rfl Tryz.underlying40 rfl) rfl (G.q (Quiet.move rfl) rfl (G.nil (G.then_n (G.block ?_))))
   refine G.trCast (τ' := cutL τ x.path ((pathsZ τ).take 0)) (by (repeat' constructor)) (by rw [List.take_zero, cutL_nil]) ?_
   refine G.loopK (ι := Nat) (fun q E => (33, vint q) :: E) (fun q => [treeR t (cutL τ x.path ((pathsZ τ).take q))]) (fun q => q ≤ (pathsZ τ).length) (fun q => (pathsZ τ).length - q) (0) (ts := [0, 2, 4, 6, 7, 9, 31, 32]) (.cons rfl (.cons rfl (.cons rfl (.cons rfl (.cons rfl (.cons rfl (.cons rfl (.cons rfl (.nil))))))))) (Nat.zero_le _) ⟨rfl, rfl, rfl, rfl, rfl, rfl, rfl, rfl, rfl, trivial⟩ (by (repeat' constructor)) ?_
   rintro i hi
   refine G.seq (G.region (G.q (Quiet.int rfl rfl rfl) rfl (G.nil (G.then_n (G.seq ?_)))))
   refine G.condD rfl (fun h34 => ?_) (fun h34 => ?_)
   ·have hi2 : i < (pathsZ τ).length := by omega
    refine G.slShape (v := .slice ap _ cp) (by (repeat' constructor)) (by omega) fun bp cp' e0 mp _ => ?_
    simp only [Value.slice.injEq, true_and] at e0
    obtain ⟨rfl, rfl⟩ := e0
    refine G.skip (G.then_n (G.seq (G.block (G.seq (G.region ?_)))))
    refine G.q (Quiet.indexAddr rfl rfl el_40 (by omega)) rfl ?_
    refine G.q (Quiet.loadSl (v := vstr (pathsZ τ)[i]) (i := i * 1) rfl ag_9 (by (repeat' constructor)) (by simp [hi2])) rfl ?_
    refine G.q (Quiet.assign rfl) rfl (G.nil (G.then_n (G.seq (G.region (G.q (Quiet.move rfl) rfl (G.q (Quiet.fieldAddr rfl fo_37_1) rfl ?_))))))
    refine G.q (Quiet.load rfl ag_9 (by (repeat' constructor)) (rfl)) rfl ?_
    refine G.q (Quiet.streq rfl rfl) rfl (G.q (Quiet.move rfl) rfl ?_)
    refine G.dec (t := 41) rfl (fun h8_41 => ?_) (fun h8_41 => ?_)
    ·refine G.kDT (t := 40) rfl h8_41 (G.gskip (t := 41) rfl rfl rfl rfl (G.gskip (t := 41) rfl rfl rfl rfl (G.gskip (t := 41) rfl rfl rfl rfl (G.gskip (t := 41) rfl rfl rfl rfl (G.q (Quiet.pickT rfl rfl) rfl (G.nil (G.then_n (G.condT rfl ?_))))))))
     have hhit : hitT (pathsZ τ)[i] x.path = true := by unfold hitT; rw [decide_eq_true h8_41]; rfl
     refine G.trOpen (τ := (cutL τ x.path ((pathsZ τ).take i))) (by (repeat' constructor)) fun rn rs m s hI => ?_
     refine G.region (G.q (Quiet.move rfl) rfl (G.q (Quiet.nilp rfl) rfl (G.q (Quiet.fieldAddr rfl fo_110_0) rfl ?_)))
     refine G.q (Quiet.load rfl ag_107 (by (repeat' constructor)) (rfl)) rfl ?_
     refine G.q (Quiet.move rfl) rfl ?_
     refine G.op (OpSpec.mapDel (m := m) (enc := ndV) (k := (pathsZ τ)[i]) (KeyLaw.str Tryz.underlying9) rfl rfl rfl Tryz.underlying107 ?he89) (by (repeat' constructor)) rfl ?nx90
     case he89 => rfl
     rintro v L' rfl
     refine G.nil ?_
     refine G.bigDel (f := inN) (pathsZ τ)[i] (by (repeat' constructor)) ?_
     refine G.trFold (τ := ({ (cutL τ x.path ((pathsZ τ).take i)) with nodes := (cutL τ x.path ((pathsZ τ).take i)).nodes.filter fun y => !decide (y.1 = (pathsZ τ)[i]) } : Tr)) (hI.del (pathsZ τ)[i]) (by (repeat' constructor)) rfl rfl rfl ?_
     refine G.blk_n (G.then_n (G.region ?_))
     refine G.q (Quiet.add rfl rfl (by omega)) rfl ?_
     refine G.q (Quiet.move rfl) rfl (G.nil (G.then_n ?_))
     refine G.trCast (τ' := cutL τ x.path ((pathsZ τ).take (i + 1))) (by (repeat' constructor)) (by rw [List.take_succ_eq_append_getElem hi2, cutL_hit τ _ hhit]) ?_
     exact G.roundK (i + 1) (by omega) (by omega) ⟨rfl, rfl, rfl, rfl, rfl, rfl, rfl, rfl, rfl, trivial⟩ (by (repeat' constructor)) (by ((repeat (apply Have.cons; (repeat (first | exact Pick.here | apply Pick.there)))); apply Have.base; repeat' constructor))
    ·refine G.kDF (t := 40) rfl h8_41 (G.grun (t := 41) rfl rfl rfl (G.q (Quiet.move rfl) rfl (G.grun (t := 41) rfl rfl rfl (G.q (Quiet.fieldAddr rfl fo_37_1) rfl (G.grun (t := 41) rfl rfl rfl ?_)))))
     refine G.q (Quiet.load rfl ag_9 (by (repeat' constructor)) (rfl)) rfl ?_
     refine G.grun (t := 41) rfl rfl rfl ?_
     refine G.op (OpSpec.call Tryz.func121 rfl rfl (vs := [_, _]) rfl (under_spec (pathsZ τ)[i] x.path (by omega))) (by (repeat' constructor)) rfl ?nx94
     rintro v L' ⟨rfl, rfl⟩
     refine G.q (Quiet.pickF rfl rfl) rfl (G.nil (G.then_n ?_))
     refine G.condD rfl (fun h46 => ?_) (fun h46 => ?_)
     ·have hhit : hitT (pathsZ τ)[i] x.path = true := by unfold hitT; rw [decide_eq_true h46, Bool.or_true]
      refine G.trOpen (τ := (cutL τ x.path ((pathsZ τ).take i))) (by (repeat' constructor)) fun rn rs m s hI => ?_
      refine G.region (G.q (Quiet.move rfl) rfl (G.q (Quiet.nilp rfl) rfl (G.q (Quiet.fieldAddr rfl fo_110_0) rfl ?_)))
      refine G.q (Quiet.load rfl ag_107 (by (repeat' constructor)) (rfl)) rfl ?_
      refine G.q (Quiet.move rfl) rfl ?_
      refine G.op (OpSpec.mapDel (m := m) (enc := ndV) (k := (pathsZ τ)[i]) (KeyLaw.str Tryz.underlying9) rfl rfl rfl Tryz.underlying107 ?he100) (by (repeat' constructor)) rfl ?nx101
      case he100 => rfl
      rintro v L' rfl
      refine G.nil ?_
      refine G.bigDel (f := inN) (pathsZ τ)[i] (by (repeat' constructor)) ?_
      refine G.trFold (τ := ({ (cutL τ x.path ((pathsZ τ).take i)) with nodes := (cutL τ x.path ((pathsZ τ).take i)).nodes.filter fun y => !decide (y.1 = (pathsZ τ)[i]) } : Tr)) (hI.del (pathsZ τ)[i]) (by (repeat' constructor)) rfl rfl rfl ?_
      refine G.blk_n (G.then_n (G.region ?_))
      refine G.q (Quiet.add rfl rfl (by omega)) rfl ?_
      refine G.q (Quiet.move rfl) rfl (G.nil (G.then_n ?_))
      refine G.trCast (τ' := cutL τ x.path ((pathsZ τ).take (i + 1))) (by (repeat' constructor)) (by rw [List.take_succ_eq_append_getElem hi2, cutL_hit τ _ hhit]) ?_
      exact G.roundK (i + 1) (by omega) (by omega) ⟨rfl, rfl, rfl, rfl, rfl, rfl, rfl, rfl, rfl, trivial⟩ (by (repeat' constructor)) (by ((repeat (apply Have.cons; (repeat (first | exact Pick.here | apply Pick.there)))); apply Have.base; repeat' constructor))
     ·have hhit : hitT (pathsZ τ)[i] x.path = false := by unfold hitT; rw [decide_eq_false h8_41, decide_eq_false h46]; rfl
      refine G.skip (G.blk_n (G.then_n (G.region ?_)))
      refine G.q (Quiet.add rfl rfl (by omega)) rfl ?_
      refine G.q (Quiet.move rfl) rfl (G.nil (G.then_n ?_))
      refine G.trCast (τ' := cutL τ x.path ((pathsZ τ).take (i + 1))) (by (repeat' constructor)) (by rw [List.take_succ_eq_append_getElem hi2, cutL_skip τ _ hhit]) ?_
      exact G.roundK (i + 1) (by omega) (by omega) ⟨rfl, rfl, rfl, rfl, rfl, rfl, rfl, rfl, rfl, trivial⟩ (by (repeat' constructor)) (by ((repeat (apply Have.cons; (repeat (first | exact Pick.here | apply Pick.there)))); apply Have.base; repeat' constructor))
   ·have hii : i = (pathsZ τ).length := by omega
    rw [hii, List.take_length, cutL_all]
    refine G.exit (G.then_e (G.then_e (G.blk_e (G.then_n (G.seq (G.region (G.q (Quiet.move rfl) rfl (G.q (Quiet.move rfl) rfl (G.q (Quiet.fieldAddr rfl fo_37_5) rfl ?_)))))))))
    refine G.q (Quiet.load rfl ag_3 (by (repeat' constructor)) (rfl)) rfl ?_
    refine G.q (Quiet.move rfl) rfl ?_
    refine G.op (OpSpec.call Tryz.func120 rfl rfl (vs := [_, _, _, _]) rfl (trkid_spec t (cutT τ x.path) (parentZ x.path) x.num zx)) (by (repeat' constructor)) rfl ?nx109
    rintro v L' ⟨rfl, rfl⟩
    refine G.nil (G.then_n (G.seq (G.seq (G.region (G.q (Quiet.move rfl) rfl (G.q (Quiet.not rfl) rfl (G.nil (G.then_n (G.condF rfl (G.skip (G.then_n (G.seq (G.region (G.q (Quiet.fieldAddr rfl fo_37_1) rfl ?_))))))))))))))
    refine G.q (Quiet.load rfl ag_9 (by (repeat' constructor)) (rfl)) rfl ?_
    refine G.q (Quiet.move rfl) rfl ?_
    refine G.q (Quiet.build (us := [(0, _), (1, _), (2, _)]) fl_75 ze_75 rfl rfl (by simp [isCell])) rfl ?_
    refine G.op (OpSpec.buildSlice (vs := [_]) el_30 ze_75 rfl rfl rfl rfl (by first | (simp [Value.cells]; done) | (intro v hv; simp only [List.mem_cons, List.not_mem_nil, or_false] at hv; (repeat (first | (subst hv; rfl) | (rcases hv with hv | hv; (subst hv; rfl)))))) (by decide)) (by (repeat' constructor)) rfl ?nx117
    rintro v L' ⟨bo, rfl, rfl⟩
    refine G.q (Quiet.assign rfl) rfl (G.nil ?_)
    refine G.slMakeN 3 1 (b := bo) (xs := ([(2, (x.path, zx))] : List Ev).flatMap evC) (by (repeat' constructor)) rfl rfl ?_
    refine G.then_n (G.seq (G.seq ?_))
    refine G.trOpen (τ := (kidT (cutT τ x.path) (parentZ x.path) x.num zx)) (by (repeat' constructor)) fun rn rs m s hI => ?_
    refine G.region ?_
    rcases hup : alook m (parentZ x.path) with _ | pu
    ·refine G.q (Quiet.move rfl) rfl (G.q (Quiet.nilp rfl) rfl (G.q (Quiet.fieldAddr rfl fo_110_0) rfl ?_))
     refine G.q (Quiet.load rfl ag_107 (by (repeat' constructor)) (rfl)) rfl ?_
     refine G.q (Quiet.move rfl) rfl ?_
     refine G.q (Quiet.lookupN (m := m) (enc := ndV) (KeyLaw.str Tryz.underlying9) (hup) rfl rfl Tryz.underlying107 ze_102 (by (repeat' constructor)) rfl) rfl ?_
     refine G.q (Quiet.as (v' := .bool false) (by rfl) (Quiet.ptrne rfl rfl Tryz.underlying102)) rfl ?_
     refine G.nil (G.then_n (G.condF rfl (G.skip (G.then_n (G.seq (G.region (G.q (Quiet.move rfl) rfl (G.q (Quiet.assign rfl) rfl (G.nil (G.then_n (G.ret ?_)))))))))))
     have hc : eraseZ τ x zx = ((kidT (cutT τ x.path) (parentZ x.path) x.num zx), [(2, (x.path, zx))]) := by unfold eraseZ; rw [if_pos h16, if_pos hth, if_neg (fun g => hI.none_iff.1 hup (kid_there.2 g))]
     refine G.trFold (τ := (kidT (cutT τ x.path) (parentZ x.path) x.num zx)) hI (by (repeat' constructor)) rfl rfl rfl ?_
     refine G.trCast (τ' := (eraseZ τ x zx).1) (by (repeat' constructor)) (by rw [hc]) ?_
     refine G.slCast (T := 75) (sz := 3) (m' := (eraseZ τ x zx).2.length) (xs' := (eraseZ τ x zx).2.flatMap evC) (by (repeat' constructor)) (by (rw [hc]; try rfl)) (by (rw [hc]; try rfl)) ?_
     exact G.done (l := [.tmp 6]) rfl rfl ⟨_, _, by (rw [hc]; try rfl), rfl⟩ (by (repeat' constructor)) (by (repeat' constructor))
    ·refine G.q (Quiet.move rfl) rfl (G.q (Quiet.nilp rfl) rfl (G.q (Quiet.fieldAddr rfl fo_110_0) rfl ?_))
     refine G.q (Quiet.load rfl ag_107 (by (repeat' constructor)) (rfl)) rfl ?_
     refine G.q (Quiet.move rfl) rfl ?_
     refine G.q (Quiet.lookupY (m := m) (enc := ndV) (KeyLaw.str Tryz.underlying9) (hup) rfl rfl Tryz.underlying107 ze_102 (by (repeat' constructor)) rfl) rfl ?_
     refine G.q (Quiet.as (v' := .bool true) (by rfl) (Quiet.ptrne rfl rfl Tryz.underlying102)) rfl ?_
     refine G.nil (G.then_n (G.condT rfl (G.region (G.q (Quiet.move rfl) rfl (G.q (Quiet.move rfl) rfl (G.q (Quiet.move rfl) rfl ?_))))))
     refine G.q (Quiet.build (us := [(0, _), (1, _), (2, _)]) fl_75 ze_75 rfl rfl (by simp [isCell])) rfl ?_
     refine G.op (OpSpec.buildSlice (vs := [_]) el_30 ze_75 rfl rfl rfl rfl (by first | (simp [Value.cells]; done) | (intro v hv; simp only [List.mem_cons, List.not_mem_nil, or_false] at hv; (repeat (first | (subst hv; rfl) | (rcases hv with hv | hv; (subst hv; rfl)))))) (by decide)) (by (repeat' constructor)) rfl ?nx136
     rintro v L' ⟨b16_4, rfl, rfl⟩
     refine G.op (OpSpec.append1 rfl rfl rfl el_30 ze_75 rfl rfl ?c138 ?c139 (Nat.le_refl _) ?c140 (by decide)) (by (repeat' constructor)) rfl ?nx141
     case c138 => (first | (simp [isCell]; done) | (simp [isCell, setAll, Value.cells]; done))
     case c139 => rfl
     case c140 => omega
     rintro v L' ⟨⟨a16_5, c16_5, rfl⟩, rfl⟩
     refine G.q (Quiet.assign rfl) rfl (G.nil (G.then_n (G.seq (G.region (G.q (Quiet.move rfl) rfl (G.q (Quiet.assign rfl) rfl (G.nil (G.then_n (G.ret ?_)))))))))
     have hc : eraseZ τ x zx = ((kidT (cutT τ x.path) (parentZ x.path) x.num zx), [(2, (x.path, zx)), (4, (parentZ x.path, zx))]) := by unfold eraseZ; rw [if_pos h16, if_pos hth, if_pos (kid_there.1 (hI.some_iff hup))]
     refine G.trFold (τ := (kidT (cutT τ x.path) (parentZ x.path) x.num zx)) hI (by (repeat' constructor)) rfl rfl rfl ?_
     refine G.trCast (τ' := (eraseZ τ x zx).1) (by (repeat' constructor)) (by rw [hc]) ?_
     refine G.slCast (T := 75) (sz := 3) (m' := (eraseZ τ x zx).2.length) (xs' := (eraseZ τ x zx).2.flatMap evC) (by (repeat' constructor)) (by (rw [hc]; try rfl)) (by (rw [hc]; try rfl)) ?_
     exact G.done (l := [.tmp 6]) rfl rfl ⟨_, _, by (rw [hc]; try rfl), rfl⟩ (by (repeat' constructor)) (by (repeat' constructor))

set_option maxRecDepth 100000 in
theorem trpart_spec (t : Nat) (τ : Tr) (x : Pt) (zx : Int) (p : HP) (hx : PtA p x) (N : Nat) (ho : τ.Ok N) (hN : N ≤ 1099511627776) : Fn Tryz.prog 46 #[vptr t, .agg (ptC x).toArray, vint zx] [treeR t τ, p] fun v L => ∃ a c, v = .slice a (partZ τ x zx).2.length c ∧ L = [treeR t (partZ τ x zx).1, p, slR 75 3 v (partZ τ x zx).2.length ((partZ τ x zx).2.flatMap evC)] := by
 refine Fn.intro (vs := [vptr t, .agg (ptC x).toArray, vint zx]) Tryz.func46 rfl rfl ?_
 intro F W
 have hfew := hx.few
 have hpl := hx.plen
 refine G.seq (G.region ?_)
 refine G.op (OpSpec.box rfl) (by (repeat' constructor)) rfl ?nx1
 rintro v L' ⟨bx, rfl, rfl⟩
 refine G.q (Quiet.assign rfl) rfl (G.nil ?_)
 refine G.ptCast (b := bx) (l' := ptC x) (by (repeat' constructor)) rfl ?_
 refine G.then_n (G.seq ?_)
 refine G.trOpen (τ := τ) (by (repeat' constructor)) fun rn rs m s hI => ?_
 refine G.draw [] [[0, 1, 2, 3, 4, 5, 6, 7]] mixed (by kernel_rfl) ?_
 refine Phases.go [] (by (repeat' constructor)) ?_
 rcases hal : alook m x.path with _ | px
 ·refine D.qw [1, 2, 3, 6, 7] rfl (by kernel_rfl) (Quiet.move rfl) ?_
  refine D.qw [2, 3, 6, 7] rfl (by kernel_rfl) (Quiet.nilp rfl) ?_
  refine D.qw [3, 6, 7] rfl (by kernel_rfl) (Quiet.fieldAddr rfl fo_110_0) ?_
  refine D.qw [6, 7] rfl (by kernel_rfl) (Quiet.load rfl ag_107 (by (repeat' constructor)) (rfl)) ?_
  refine D.qw [5, 6, 7] rfl (by kernel_rfl) (Quiet.fieldAddr rfl fo_37_1) ?_
  refine D.qw [6, 7] rfl (by kernel_rfl) (Quiet.load rfl ag_9 (by (repeat' constructor)) (rfl)) ?_
  refine D.qw [7] rfl (by kernel_rfl) (Quiet.lookupN (m := m) (enc := ndV) (KeyLaw.str Tryz.underlying9) (hal) rfl rfl Tryz.underlying107 ze_102 (by (repeat' constructor)) rfl) ?_
  refine D.qw [] rfl (by kernel_rfl) (Quiet.assign rfl) ?_
  refine D.ph (Phases.fin (G.then_n (G.seq (G.block (G.seq (G.region (G.q (Quiet.fieldAddr rfl fo_37_0) rfl ?_)))))))
  refine G.q (Quiet.load rfl ag_3 (by (repeat' constructor)) (rfl)) rfl ?_
  refine G.q (Quiet.int rfl rfl rfl) rfl (G.q (Quiet.assign rfl) rfl (G.nil (G.then_n ?_)))
  refine G.condD rfl (fun h15 => ?_) (fun h15 => ?_)
  ·refine G.trFold (τ := τ) hI (by (repeat' constructor)) rfl rfl rfl ?_
   refine G.seq (G.region (G.q (Quiet.move rfl) rfl ?_))
   refine G.q (Quiet.loadAs (vs := ptC x) rfl ag_37 (by (repeat' constructor)) (by simp [ptC]) rfl) rfl ?_
   refine G.q (Quiet.move rfl) rfl ?_
   refine G.op (OpSpec.call Tryz.func94 rfl rfl (vs := [_, _, _]) rfl (trcreate_spec t τ x zx p hx)) (by (repeat' constructor)) rfl ?nx17
   rintro v L' ⟨a3, c3, rfl, rfl⟩
   refine G.q (Quiet.assign rfl) rfl (G.nil (G.then_n (G.ret (G.blk_r (G.then_r ?_)))))
   have hc : partZ τ x zx = createZ τ x zx := by unfold partZ; rw [if_pos h15]
   refine G.trCast (τ' := (partZ τ x zx).1) (by (repeat' constructor)) (by rw [hc]) ?_
   refine G.slCast (T := 75) (sz := 3) (m' := (partZ τ x zx).2.length) (xs' := (partZ τ x zx).2.flatMap evC) (by (repeat' constructor)) (by (rw [hc]; try rfl)) (by (rw [hc]; try rfl)) ?_
   exact G.done (l := [.tmp 6]) rfl rfl ⟨_, _, by (rw [hc]; try rfl), rfl⟩ (by (repeat' constructor)) (by (repeat' constructor))
  ·refine G.seq (G.region (G.q (Quiet.fieldAddr rfl fo_37_0) rfl ?_))
   refine G.q (Quiet.load rfl ag_3 (by (repeat' constructor)) (rfl)) rfl ?_
   refine G.q (Quiet.int rfl rfl rfl) rfl (G.q (Quiet.assign rfl) rfl (G.nil (G.then_n ?_)))
   refine G.condD rfl (fun h23 => ?_) (fun h23 => ?_)
   ·refine G.trFold (τ := τ) hI (by (repeat' constructor)) rfl rfl rfl ?_
    refine G.seq (G.region (G.q (Quiet.move rfl) rfl ?_))
    refine G.q (Quiet.loadAs (vs := ptC x) rfl ag_37 (by (repeat' constructor)) (by simp [ptC]) rfl) rfl ?_
    refine G.q (Quiet.move rfl) rfl ?_
    refine G.op (OpSpec.call Tryz.func95 rfl rfl (vs := [_, _, _]) rfl (trerase_spec t τ x zx p hx N ho hN)) (by (repeat' constructor)) rfl ?nx25
    rintro v L' ⟨a5, c5, rfl, rfl⟩
    refine G.q (Quiet.assign rfl) rfl (G.nil (G.then_n (G.ret (G.blk_r (G.then_r ?_)))))
    have hc : partZ τ x zx = eraseZ τ x zx := by unfold partZ; rw [if_neg h15, if_pos h23]
    refine G.trCast (τ' := (partZ τ x zx).1) (by (repeat' constructor)) (by rw [hc]) ?_
    refine G.slCast (T := 75) (sz := 3) (m' := (partZ τ x zx).2.length) (xs' := (partZ τ x zx).2.flatMap evC) (by (repeat' constructor)) (by (rw [hc]; try rfl)) (by (rw [hc]; try rfl)) ?_
    exact G.done (l := [.tmp 6]) rfl rfl ⟨_, _, by (rw [hc]; try rfl), rfl⟩ (by (repeat' constructor)) (by (repeat' constructor))
   ·refine G.seq (G.region (G.q (Quiet.fieldAddr rfl fo_37_0) rfl ?_))
    refine G.q (Quiet.load rfl ag_3 (by (repeat' constructor)) (rfl)) rfl ?_
    refine G.q (Quiet.int rfl rfl rfl) rfl (G.q (Quiet.move rfl) rfl ?_)
    refine G.dec (t := 35) rfl (fun h6_35 => ?_) (fun h6_35 => ?_)
    ·refine G.kDT (t := 34) rfl h6_35 (G.grun (t := 35) rfl rfl rfl (G.q (Quiet.move rfl) rfl (G.grun (t := 35) rfl rfl rfl ?_)))
     refine G.q (Quiet.as (v' := .bool false) (by rfl) (Quiet.ptrne rfl rfl Tryz.underlying102)) rfl ?_
     refine G.q (Quiet.pickT rfl rfl) rfl (G.q (Quiet.assign rfl) rfl (G.nil (G.then_n (G.condF rfl (G.seq (G.region (G.q (Quiet.fieldAddr rfl fo_37_0) rfl ?_)))))))
     refine G.q (Quiet.load rfl ag_3 (by (repeat' constructor)) (rfl)) rfl ?_
     refine G.q (Quiet.int rfl rfl rfl) rfl (G.q (Quiet.move rfl) rfl ?_)
     refine G.dec (t := 64) rfl (fun h9_64 => ?_) (fun h9_64 => ?_)
     ·refine G.kDT (t := 63) rfl h9_64 (G.grun (t := 64) rfl rfl rfl (G.q (Quiet.move rfl) rfl (G.grun (t := 64) rfl rfl rfl ?_)))
      refine G.q (Quiet.as (v' := .bool false) (by rfl) (Quiet.ptrne rfl rfl Tryz.underlying102)) rfl ?_
      refine G.q (Quiet.pickT rfl rfl) rfl (G.q (Quiet.assign rfl) rfl (G.nil (G.then_n (G.condF rfl (G.skip (G.blk_n (G.then_n (G.seq (G.region (G.q (Quiet.assign rfl) rfl (G.nil (G.then_n (G.ret ?_)))))))))))))
      refine G.trFold (τ := τ) hI (by (repeat' constructor)) rfl rfl rfl ?_
      refine G.add (slR_nil 75 3) ?_
      have hc : partZ τ x zx = (τ, []) := by unfold partZ; rw [if_neg h15, if_neg h23, if_neg (fun g => hI.none_iff.1 hal g.2), if_neg (fun g => hI.none_iff.1 hal g.2)]
      refine G.trCast (τ' := (partZ τ x zx).1) (by (repeat' constructor)) (by rw [hc]) ?_
      refine G.slCast (T := 75) (sz := 3) (m' := (partZ τ x zx).2.length) (xs' := (partZ τ x zx).2.flatMap evC) (by (repeat' constructor)) (by (rw [hc]; try rfl)) (by (rw [hc]; try rfl)) ?_
      exact G.done (l := [.tmp 6]) rfl rfl ⟨_, _, by (rw [hc]; try rfl), rfl⟩ (by (repeat' constructor)) (by (repeat' constructor))
     ·refine G.kDF (t := 63) rfl h9_64 (G.gskip (t := 64) rfl rfl rfl rfl (G.gskip (t := 64) rfl rfl rfl rfl (G.q (Quiet.pickF rfl rfl) rfl (G.q (Quiet.assign rfl) rfl (G.nil (G.then_n (G.condF rfl (G.skip (G.blk_n (G.then_n (G.seq (G.region (G.q (Quiet.assign rfl) rfl (G.nil (G.then_n (G.ret ?_))))))))))))))))
      refine G.trFold (τ := τ) hI (by (repeat' constructor)) rfl rfl rfl ?_
      refine G.add (slR_nil 75 3) ?_
      have hc : partZ τ x zx = (τ, []) := by unfold partZ; rw [if_neg h15, if_neg h23, if_neg (fun g => hI.none_iff.1 hal g.2), if_neg (fun g => h9_64 g.1)]
      refine G.trCast (τ' := (partZ τ x zx).1) (by (repeat' constructor)) (by rw [hc]) ?_
      refine G.slCast (T := 75) (sz := 3) (m' := (partZ τ x zx).2.length) (xs' := (partZ τ x zx).2.flatMap evC) (by (repeat' constructor)) (by (rw [hc]; try rfl)) (by (rw [hc]; try rfl)) ?_
      exact G.done (l := [.tmp 6]) rfl rfl ⟨_, _, by (rw [hc]; try rfl), rfl⟩ (by (repeat' constructor)) (by (repeat' constructor))
    ·refine G.kDF (t := 34) rfl h6_35 (G.gskip (t := 35) rfl rfl rfl rfl (G.gskip (t := 35) rfl rfl rfl rfl (G.q (Quiet.pickF rfl rfl) rfl (G.q (Quiet.assign rfl) rfl (G.nil (G.then_n (G.condF rfl (G.seq (G.region (G.q (Quiet.fieldAddr rfl fo_37_0) rfl ?_))))))))))
     refine G.q (Quiet.load rfl ag_3 (by (repeat' constructor)) (rfl)) rfl ?_
     refine G.q (Quiet.int rfl rfl rfl) rfl (G.q (Quiet.move rfl) rfl ?_)
     refine G.dec (t := 64) rfl (fun h9_64 => ?_) (fun h9_64 => ?_)
     ·refine G.kDT (t := 63) rfl h9_64 (G.grun (t := 64) rfl rfl rfl (G.q (Quiet.move rfl) rfl (G.grun (t := 64) rfl rfl rfl ?_)))
      refine G.q (Quiet.as (v' := .bool false) (by rfl) (Quiet.ptrne rfl rfl Tryz.underlying102)) rfl ?_
      refine G.q (Quiet.pickT rfl rfl) rfl (G.q (Quiet.assign rfl) rfl (G.nil (G.then_n (G.condF rfl (G.skip (G.blk_n (G.then_n (G.seq (G.region (G.q (Quiet.assign rfl) rfl (G.nil (G.then_n (G.ret ?_)))))))))))))
      refine G.trFold (τ := τ) hI (by (repeat' constructor)) rfl rfl rfl ?_
      refine G.add (slR_nil 75 3) ?_
      have hc : partZ τ x zx = (τ, []) := by unfold partZ; rw [if_neg h15, if_neg h23, if_neg (fun g => h6_35 g.1), if_neg (fun g => hI.none_iff.1 hal g.2)]
      refine G.trCast (τ' := (partZ τ x zx).1) (by (repeat' constructor)) (by rw [hc]) ?_
      refine G.slCast (T := 75) (sz := 3) (m' := (partZ τ x zx).2.length) (xs' := (partZ τ x zx).2.flatMap evC) (by (repeat' constructor)) (by (rw [hc]; try rfl)) (by (rw [hc]; try rfl)) ?_
      exact G.done (l := [.tmp 6]) rfl rfl ⟨_, _, by (rw [hc]; try rfl), rfl⟩ (by (repeat' constructor)) (by (repeat' constructor))
     ·refine G.kDF (t := 63) rfl h9_64 (G.gskip (t := 64) rfl rfl rfl rfl (G.gskip (t := 64) rfl rfl rfl rfl (G.q (Quiet.pickF rfl rfl) rfl (G.q (Quiet.assign rfl) rfl (G.nil (G.then_n (G.condF rfl (G.skip (G.blk_n (G.then_n (G.seq (G.region (G.q (Quiet.assign rfl) rfl (G.nil (G.then_n (G.ret ?_))))))))))))))))
      refine G.trFold (τ := τ) hI (by (repeat' constructor)) rfl rfl rfl ?_
      refine G.add (slR_nil 75 3) ?_
      have hc : partZ τ x zx = (τ, []) := by unfold partZ; rw [if_neg h15, if_neg h23, if_neg (fun g => h6_35 g.1), if_neg (fun g => h9_64 g.1)]
      refine G.trCast (τ' := (partZ τ x zx).1) (by (repeat' constructor)) (by rw [hc]) ?_
      refine G.slCast (T := 75) (sz := 3) (m' := (partZ τ x zx).2.length) (xs' := (partZ τ x zx).2.flatMap evC) (by (repeat' constructor)) (by (rw [hc]; try rfl)) (by (rw [hc]; try rfl)) ?_
      exact G.done (l := [.tmp 6]) rfl rfl ⟨_, _, by (rw [hc]; try rfl), rfl⟩ (by (repeat' constructor)) (by (repeat' constructor))
 ·refine D.qw [1, 2, 3, 6, 7] rfl (by kernel_rfl) (Quiet.move rfl) ?_
  refine D.qw [2, 3, 6, 7] rfl (by kernel_rfl) (Quiet.nilp rfl) ?_
  refine D.qw [3, 6, 7] rfl (by kernel_rfl) (Quiet.fieldAddr rfl fo_110_0) ?_
  refine D.qw [6, 7] rfl (by kernel_rfl) (Quiet.load rfl ag_107 (by (repeat' constructor)) (rfl)) ?_
  refine D.qw [5, 6, 7] rfl (by kernel_rfl) (Quiet.fieldAddr rfl fo_37_1) ?_
  refine D.qw [6, 7] rfl (by kernel_rfl) (Quiet.load rfl ag_9 (by (repeat' constructor)) (rfl)) ?_
  refine D.qw [7] rfl (by kernel_rfl) (Quiet.lookupY (m := m) (enc := ndV) (KeyLaw.str Tryz.underlying9) (hal) rfl rfl Tryz.underlying107 ze_102 (by (repeat' constructor)) rfl) ?_
  refine D.qw [] rfl (by kernel_rfl) (Quiet.assign rfl) ?_
  refine D.ph (Phases.fin (G.then_n (G.seq (G.block (G.seq (G.region (G.q (Quiet.fieldAddr rfl fo_37_0) rfl ?_)))))))
  refine G.q (Quiet.load rfl ag_3 (by (repeat' constructor)) (rfl)) rfl ?_
  refine G.q (Quiet.int rfl rfl rfl) rfl (G.q (Quiet.assign rfl) rfl (G.nil (G.then_n ?_)))
  refine G.condD rfl (fun h15 => ?_) (fun h15 => ?_)
  ·refine G.trFold (τ := τ) hI (by (repeat' constructor)) rfl rfl rfl ?_
   refine G.seq (G.region (G.q (Quiet.move rfl) rfl ?_))
   refine G.q (Quiet.loadAs (vs := ptC x) rfl ag_37 (by (repeat' constructor)) (by simp [ptC]) rfl) rfl ?_
   refine G.q (Quiet.move rfl) rfl ?_
   refine G.op (OpSpec.call Tryz.func94 rfl rfl (vs := [_, _, _]) rfl (trcreate_spec t τ x zx p hx)) (by (repeat' constructor)) rfl ?nx59
   rintro v L' ⟨a3, c3, rfl, rfl⟩
   refine G.q (Quiet.assign rfl) rfl (G.nil (G.then_n (G.ret (G.blk_r (G.then_r ?_)))))
   have hc : partZ τ x zx = createZ τ x zx := by unfold partZ; rw [if_pos h15]
   refine G.trCast (τ' := (partZ τ x zx).1) (by (repeat' constructor)) (by rw [hc]) ?_
   refine G.slCast (T := 75) (sz := 3) (m' := (partZ τ x zx).2.length) (xs' := (partZ τ x zx).2.flatMap evC) (by (repeat' constructor)) (by (rw [hc]; try rfl)) (by (rw [hc]; try rfl)) ?_
   exact G.done (l := [.tmp 6]) rfl rfl ⟨_, _, by (rw [hc]; try rfl), rfl⟩ (by (repeat' constructor)) (by (repeat' constructor))
  ·refine G.seq (G.region (G.q (Quiet.fieldAddr rfl fo_37_0) rfl ?_))
   refine G.q (Quiet.load rfl ag_3 (by (repeat' constructor)) (rfl)) rfl ?_
   refine G.q (Quiet.int rfl rfl rfl) rfl (G.q (Quiet.assign rfl) rfl (G.nil (G.then_n ?_)))
   refine G.condD rfl (fun h23 => ?_) (fun h23 => ?_)
   ·refine G.trFold (τ := τ) hI (by (repeat' constructor)) rfl rfl rfl ?_
    refine G.seq (G.region (G.q (Quiet.move rfl) rfl ?_))
    refine G.q (Quiet.loadAs (vs := ptC x) rfl ag_37 (by (repeat' constructor)) (by simp [ptC]) rfl) rfl ?_
    refine G.q (Quiet.move rfl) rfl ?_
    refine G.op (OpSpec.call Tryz.func95 rfl rfl (vs := [_, _, _]) rfl (trerase_spec t τ x zx p hx N ho hN)) (by (repeat' constructor)) rfl ?nx67
    rintro v L' ⟨a5, c5, rfl, rfl⟩
    refine G.q (Quiet.assign rfl) rfl (G.nil (G.then_n (G.ret (G.blk_r (G.then_r ?_)))))
    have hc : partZ τ x zx = eraseZ τ x zx := by unfold partZ; rw [if_neg h15, if_pos h23]
    refine G.trCast (τ' := (partZ τ x zx).1) (by (repeat' constructor)) (by rw [hc]) ?_
    refine G.slCast (T := 75) (sz := 3) (m' := (partZ τ x zx).2.length) (xs' := (partZ τ x zx).2.flatMap evC) (by (repeat' constructor)) (by (rw [hc]; try rfl)) (by (rw [hc]; try rfl)) ?_
    exact G.done (l := [.tmp 6]) rfl rfl ⟨_, _, by (rw [hc]; try rfl), rfl⟩ (by (repeat' constructor)) (by (repeat' constructor))
   ·refine G.seq (G.region (G.q (Quiet.fieldAddr rfl fo_37_0) rfl ?_))
    refine G.q (Quiet.load rfl ag_3 (by (repeat' constructor)) (rfl)) rfl ?_
    refine G.q (Quiet.int rfl rfl rfl) rfl (G.q (Quiet.move rfl) rfl ?_)
    refine G.dec (t := 35) rfl (fun h6_35 => ?_) (fun h6_35 => ?_)
    ·refine G.kDT (t := 34) rfl h6_35 (G.grun (t := 35) rfl rfl rfl (G.q (Quiet.move rfl) rfl (G.grun (t := 35) rfl rfl rfl ?_)))
     refine G.q (Quiet.as (v' := .bool true) (by rfl) (Quiet.ptrne rfl rfl Tryz.underlying102)) rfl ?_
     refine G.q (Quiet.pickT rfl rfl) rfl (G.q (Quiet.assign rfl) rfl (G.nil (G.then_n (G.condT rfl (G.seq ?_)))))
     refine G.bigTake hal (by (repeat' constructor)) ?_
     refine G.ndOpen (x := (x.path, px)) (by (repeat' constructor)) ?_
     refine G.draw [10, 14, 18] [[0, 1, 2, 3, 4, 5, 6, 7, 8, 9, 10, 11, 12, 13, 14], [15, 16, 17, 18]] mixed (by kernel_rfl) ?_
     refine Phases.go [ptc bx _ _] (by (repeat' constructor)) ?_
     refine D.qw [8, 9, 10, 11, 12, 13, 14] rfl (by kernel_rfl) (Quiet.move rfl) ?_
     refine D.q rfl (by kernel_rfl) (Quiet.move rfl) ?_
     refine D.q rfl (by kernel_rfl) (Quiet.move rfl) ?_
     refine D.qw [4, 8, 9, 10, 11, 12, 13, 14] rfl (by kernel_rfl) (Quiet.fieldAddr rfl fo_37_2) ?_
     refine D.qw [8, 9, 10, 11, 12, 13, 14] rfl (by kernel_rfl) (Quiet.load rfl ag_9 (by (repeat' constructor)) (rfl)) ?_
     refine D.q rfl (by kernel_rfl) (Quiet.fieldAddr rfl fo_37_5) ?_
     refine D.q rfl (by kernel_rfl) (Quiet.load rfl ag_3 (by (repeat' constructor)) (rfl)) ?_
     refine D.q rfl (by kernel_rfl) (Quiet.move rfl) ?_
     refine D.qw [9, 10, 11, 12, 13, 14] rfl (by kernel_rfl) (Quiet.nilp rfl) ?_
     refine D.qw [10, 11, 12, 13, 14] rfl (by kernel_rfl) (Quiet.fieldAddr rfl fo_106_0) ?_
     refine D.h rfl (by kernel_rfl) (OpSpec.store rfl rfl rfl sz_9 ?c80 ?c81) (by (repeat' constructor)) ?nx82
     case c80 => simp [ndC]
     case c81 => exact nfz0 _ _
     rintro v L' rfl
     refine D.qw [12, 13, 14] rfl (by kernel_rfl) (Quiet.nilp rfl) ?_
     refine D.qw [13, 14] rfl (by kernel_rfl) (Quiet.fieldAddr rfl fo_106_2) ?_
     refine D.qw [14] rfl (by kernel_rfl) (Quiet.fieldAddr rfl fo_43_3) ?_
     refine D.h rfl (by kernel_rfl) (OpSpec.store rfl rfl rfl sz_3 ?c86 ?c87) (by (repeat' constructor)) ?nx88
     case c86 => simp [ndC]
     case c87 => exact nfz0 _ _
     rintro v L' rfl
     refine D.ph ?_
     refine Phases.go [] (by (repeat' constructor)) ?_
     refine D.qw [16, 17, 18] rfl (by kernel_rfl) (Quiet.nilp rfl) ?_
     refine D.qw [17, 18] rfl (by kernel_rfl) (Quiet.fieldAddr rfl fo_106_2) ?_
     refine D.qw [18] rfl (by kernel_rfl) (Quiet.fieldAddr rfl fo_43_1) ?_
     refine D.h rfl (by kernel_rfl) (OpSpec.store rfl rfl rfl sz_3 ?c92 ?c93) (by (repeat' constructor)) ?nx94
     case c92 => simp [ndC]
     case c93 => exact nfz0 _ _
     rintro v L' rfl
     refine D.ph (Phases.fin ?_)
     refine G.ndFold (x := (x.path, (px.1, (px.2.1, setN x.data x.num zx px.2.2)))) (by (repeat' constructor)) rfl rfl rfl rfl ?_
     refine G.bigPut (f := inN) (m := m) x.path ((x.path, (px.1, (px.2.1, setN x.data x.num zx px.2.2)))).2 rfl (by (repeat' constructor)) ?_
     refine G.trFold (τ := ({ τ with nodes := amod τ.nodes x.path (setN x.data x.num zx) } : Tr)) (hI.mod hal (setN x.data x.num zx) (y := ((x.path, (px.1, (px.2.1, setN x.data x.num zx px.2.2)))).2) rfl) (by (repeat' constructor)) rfl (ndE_set (y := ((x.path, (px.1, (px.2.1, setN x.data x.num zx px.2.2)))).2) hal rfl).symm rfl ?_
     refine G.then_n (G.seq (G.region (G.q (Quiet.fieldAddr rfl fo_37_1) rfl ?_)))
     refine G.q (Quiet.load rfl ag_9 (by (repeat' constructor)) (rfl)) rfl ?_
     refine G.q (Quiet.move rfl) rfl ?_
     refine G.q (Quiet.build (us := [(0, _), (1, _), (2, _)]) fl_75 ze_75 rfl rfl (by simp [isCell])) rfl ?_
     refine G.op (OpSpec.buildSlice (vs := [_]) el_30 ze_75 rfl rfl rfl rfl (by first | (simp [Value.cells]; done) | (intro v hv; simp only [List.mem_cons, List.not_mem_nil, or_false] at hv; (repeat (first | (subst hv; rfl) | (rcases hv with hv | hv; (subst hv; rfl)))))) (by decide)) (by (repeat' constructor)) rfl ?nx99
     rintro v L' ⟨bo, rfl, rfl⟩
     refine G.q (Quiet.assign rfl) rfl (G.nil ?_)
     refine G.slMakeN 3 1 (b := bo) (xs := ([(3, (x.path, zx))] : List Ev).flatMap evC) (by (repeat' constructor)) rfl rfl ?_
     refine G.then_n (G.ret (G.blk_r (G.then_r ?_)))
     have hc : partZ τ x zx = (({ τ with nodes := amod τ.nodes x.path (setN x.data x.num zx) } : Tr), [(3, (x.path, zx))]) := by unfold partZ; rw [if_neg h15, if_neg h23, if_pos ⟨h6_35, hI.some_iff hal⟩]
     refine G.trCast (τ' := (partZ τ x zx).1) (by (repeat' constructor)) (by rw [hc]) ?_
     refine G.slCast (T := 75) (sz := 3) (m' := (partZ τ x zx).2.length) (xs' := (partZ τ x zx).2.flatMap evC) (by (repeat' constructor)) (by (rw [hc]; try rfl)) (by (rw [hc]; try rfl)) ?_
     exact G.done (l := [.tmp 6]) rfl rfl ⟨_, _, by (rw [hc]; try rfl), rfl⟩ (by (repeat' constructor)) (by (repeat' constructor))
    ·refine G.kDF (t := 34) rfl h6_35 (G.gskip (t := 35) rfl rfl rfl rfl (G.gskip (t := 35) rfl rfl rfl rfl (G.q (Quiet.pickF rfl rfl) rfl (G.q (Quiet.assign rfl) rfl (G.nil (G.then_n (G.condF rfl (G.seq (G.region (G.q (Quiet.fieldAddr rfl fo_37_0) rfl ?_))))))))))
     refine G.q (Quiet.load rfl ag_3 (by (repeat' constructor)) (rfl)) rfl ?_
     refine G.q (Quiet.int rfl rfl rfl) rfl (G.q (Quiet.move rfl) rfl ?_)
     refine G.dec (t := 64) rfl (fun h9_64 => ?_) (fun h9_64 => ?_)
     ·refine G.kDT (t := 63) rfl h9_64 (G.grun (t := 64) rfl rfl rfl (G.q (Quiet.move rfl) rfl (G.grun (t := 64) rfl rfl rfl ?_)))
      refine G.q (Quiet.as (v' := .bool true) (by rfl) (Quiet.ptrne rfl rfl Tryz.underlying102)) rfl ?_
      refine G.q (Quiet.pickT rfl rfl) rfl (G.q (Quiet.assign rfl) rfl (G.nil (G.then_n (G.condT rfl ?_))))
      refine G.bigTake hal (by (repeat' constructor)) ?_
      refine G.ndOpen (x := (x.path, px)) (by (repeat' constructor)) ?_
      refine G.draw [4, 9, 13] [[0, 1, 2, 3, 5, 6, 4, 7, 8, 9], [10, 11, 12, 13]] mixed (by kernel_rfl) ?_
      refine Phases.go [ptc bx _ _] (by (repeat' constructor)) ?_
      refine D.q rfl (by kernel_rfl) (Quiet.move rfl) ?_
      refine D.q rfl (by kernel_rfl) (Quiet.move rfl) ?_
      refine D.qw [3, 4, 7, 8, 9] rfl (by kernel_rfl) (Quiet.fieldAddr rfl fo_37_3) ?_
      refine D.qw [4, 7, 8, 9] rfl (by kernel_rfl) (Quiet.load rfl ag_34 (by (repeat' constructor)) (rfl)) ?_
      refine D.q rfl (by kernel_rfl) (Quiet.fieldAddr rfl fo_37_5) ?_
      refine D.q rfl (by kernel_rfl) (Quiet.load rfl ag_3 (by (repeat' constructor)) (rfl)) ?_
      refine D.h rfl (by kernel_rfl) (OpSpec.call Tryz.func58 rfl rfl (vs := [_]) rfl (aclone_spec x.aclV x.acl p hx.acl hfew)) (by (repeat' constructor)) ?nx110
      rintro v L' ⟨⟨a10, c10, rfl⟩, rfl⟩
      refine D.qw [8, 9] rfl (by kernel_rfl) (Quiet.nilp rfl) ?_
      refine D.qw [9] rfl (by kernel_rfl) (Quiet.fieldAddr rfl fo_106_1) ?_
      refine D.h rfl (by kernel_rfl) (OpSpec.store rfl rfl rfl sz_34 ?c114 ?c115) (by (repeat' constructor)) ?nx116
      case c114 => simp [ndC]
      case c115 => exact nfz0 _ _
      rintro v L' rfl
      refine D.ph ?_
      refine Phases.go [] (by (repeat' constructor)) ?_
      refine D.qw [11, 12, 13] rfl (by kernel_rfl) (Quiet.nilp rfl) ?_
      refine D.qw [12, 13] rfl (by kernel_rfl) (Quiet.fieldAddr rfl fo_106_2) ?_
      refine D.qw [13] rfl (by kernel_rfl) (Quiet.fieldAddr rfl fo_43_5) ?_
      refine D.h rfl (by kernel_rfl) (OpSpec.store rfl rfl rfl sz_3 ?c120 ?c121) (by (repeat' constructor)) ?nx122
      case c120 => simp [ndC]
      case c121 => exact nfz0 _ _
      rintro v L' rfl
      refine D.ph (Phases.fin ?_)
      refine G.toRd (v := .slice a10 x.acl.length c10) (by (repeat' constructor)) ?_
      refine G.ndFold (x := (x.path, (px.1, (.slice a10 x.acl.length c10, aclN x.acl x.num px.2.2)))) (v := .slice a10 x.acl.length c10) (by (repeat' constructor)) rfl rfl rfl rfl ?_
      refine G.bigPut (f := inN) (m := m) x.path ((x.path, (px.1, (.slice a10 x.acl.length c10, aclN x.acl x.num px.2.2)))).2 rfl (by (repeat' constructor)) ?_
      refine G.trFold (τ := ({ τ with nodes := amod τ.nodes x.path (aclN x.acl x.num) } : Tr)) (hI.mod hal (aclN x.acl x.num) (y := ((x.path, (px.1, (.slice a10 x.acl.length c10, aclN x.acl x.num px.2.2)))).2) rfl) (by (repeat' constructor)) rfl (ndE_set (y := ((x.path, (px.1, (.slice a10 x.acl.length c10, aclN x.acl x.num px.2.2)))).2) hal rfl).symm rfl ?_
      refine G.blk_n (G.then_n (G.seq (G.region (G.q (Quiet.assign rfl) rfl (G.nil (G.then_n (G.ret (G.add (slR_nil 75 3) ?_))))))))
      have hc : partZ τ x zx = (({ τ with nodes := amod τ.nodes x.path (aclN x.acl x.num) } : Tr), []) := by unfold partZ; rw [if_neg h15, if_neg h23, if_neg (fun g => h6_35 g.1), if_pos ⟨h9_64, hI.some_iff hal⟩]
      refine G.trCast (τ' := (partZ τ x zx).1) (by (repeat' constructor)) (by rw [hc]) ?_
      refine G.slCast (T := 75) (sz := 3) (m' := (partZ τ x zx).2.length) (xs' := (partZ τ x zx).2.flatMap evC) (by (repeat' constructor)) (by (rw [hc]; try rfl)) (by (rw [hc]; try rfl)) ?_
      exact G.done (l := [.tmp 6]) rfl rfl ⟨_, _, by (rw [hc]; try rfl), rfl⟩ (by (repeat' constructor)) (by (repeat' constructor))
     ·refine G.kDF (t := 63) rfl h9_64 (G.gskip (t := 64) rfl rfl rfl rfl (G.gskip (t := 64) rfl rfl rfl rfl (G.q (Quiet.pickF rfl rfl) rfl (G.q (Quiet.assign rfl) rfl (G.nil (G.then_n (G.condF rfl (G.skip (G.blk_n (G.then_n (G.seq (G.region (G.q (Quiet.assign rfl) rfl (G.nil (G.then_n (G.ret ?_))))))))))))))))
      refine G.trFold (τ := τ) hI (by (repeat' constructor)) rfl rfl rfl ?_
      refine G.add (slR_nil 75 3) ?_
      have hc : partZ τ x zx = (τ, []) := by unfold partZ; rw [if_neg h15, if_neg h23, if_neg (fun g => h6_35 g.1), if_neg (fun g => h9_64 g.1)]
      refine G.trCast (τ' := (partZ τ x zx).1) (by (repeat' constructor)) (by rw [hc]) ?_
      refine G.slCast (T := 75) (sz := 3) (m' := (partZ τ x zx).2.length) (xs' := (partZ τ x zx).2.flatMap evC) (by (repeat' constructor)) (by (rw [hc]; try rfl)) (by (rw [hc]; try rfl)) ?_
      exact G.done (l := [.tmp 6]) rfl rfl ⟨_, _, by (rw [hc]; try rfl), rfl⟩ (by (repeat' constructor)) (by (repeat' constructor))

end Go.Proofs.YtnnbelmpbmfdnaaGreatDoor

/- Own work, by program: package tree: Stat, Get, Same: walked. -/

namespace Go.Proofs.YtnnbelmpbmfdnaaGreatDoor
open Go
set_option maxRecDepth 100000 in
theorem trstat_spec (t : Nat) (τ : Tr) (p : Bs) (N : Nat) (ho : τ.Ok N) (hN : N ≤ 1099511627776) : Fn Tryz.prog 16 #[vptr t, vstr p] [treeR t τ] fun v L => v = .tuple #[.agg (stC (statD τ p)).toArray, .bool (decide (thereT τ p))] ∧ L = [treeR t τ] := by
 refine Fn.intro (vs := [vptr t, vstr p]) Tryz.func16 rfl rfl ?_
 intro F W
 refine G.trOpen (τ := τ) (by (repeat' constructor)) fun rn rs m s hI => ?_
 have hlen := hI.len ho
 have hfew := ho.few
 refine G.seq (G.region ?_)
 refine G.op (OpSpec.allocA ze_43) (by (repeat' constructor)) rfl ?nx1
 rintro v L' ⟨b4, rfl, rfl⟩
 refine G.q (Quiet.assign rfl) rfl (G.nil (G.then_n (G.seq (G.region ?_))))
 rcases hal : alook m p with _ | px
 ·refine G.q (Quiet.move rfl) rfl (G.q (Quiet.nilp rfl) rfl (G.q (Quiet.fieldAddr rfl fo_110_0) rfl ?_))
  refine G.q (Quiet.load rfl ag_107 (by (repeat' constructor)) (rfl)) rfl ?_
  refine G.q (Quiet.move rfl) rfl ?_
  refine G.q (Quiet.lookupN (m := m) (enc := ndV) (KeyLaw.str Tryz.underlying9) (hal) rfl rfl Tryz.underlying107 ze_102 (by (repeat' constructor)) rfl) rfl ?_
  refine G.q (Quiet.assign rfl) rfl (G.nil (G.then_n (G.seq (G.seq (G.region (G.q (Quiet.move rfl) rfl ?_))))))
  refine G.q (Quiet.as (v' := .bool true) (by rfl) (Quiet.ptreq rfl rfl Tryz.underlying102)) rfl ?_
  refine G.nil (G.then_n (G.condT rfl (G.seq (G.region ?_))))
  refine G.q (Quiet.build (us := []) fl_43 ze_43 rfl rfl (by simp [isCell])) rfl ?_
  refine G.op (OpSpec.storeA rfl rfl ?c12 sz_43 ?c15 ?c13 ?c14) (by (repeat' constructor)) rfl ?nx16
  case c12 => (first | (simp [isCell]; done) | (simp [isCell, setAll, Value.cells]; done))
  case c15 => (first | (simp; done) | (simp [setAll, spl, Value.cells]; done))
  case c13 => (first | (simp; done) | (simp [setAll, spl, Value.cells]; done))
  case c14 => exact nfz0 _ _
  rintro v L' rfl
  refine G.q (Quiet.assign rfl) rfl (G.nil (G.then_n (G.ret (G.then_r ?_))))
  refine G.ptCast (b := b4) (l' := stC (statD τ p)) (by (repeat' constructor)) (by rw [hI.stat0 hal]; rfl) ?_
  refine G.trFold (τ := τ) hI (by (repeat' constructor)) rfl rfl rfl ?_
  exact G.done2 rfl (.cellA rfl ag_43 (by (repeat' constructor)) (by simp [stC]) rfl) (.tmp rfl) ⟨by rw [decide_eq_false (hI.none_iff.1 hal)]; rfl, rfl⟩ (by (repeat' constructor)) (by (repeat' constructor))
 ·refine G.q (Quiet.move rfl) rfl (G.q (Quiet.nilp rfl) rfl (G.q (Quiet.fieldAddr rfl fo_110_0) rfl ?_))
  refine G.q (Quiet.load rfl ag_107 (by (repeat' constructor)) (rfl)) rfl ?_
  refine G.q (Quiet.move rfl) rfl ?_
  refine G.q (Quiet.lookupY (m := m) (enc := ndV) (KeyLaw.str Tryz.underlying9) (hal) rfl rfl Tryz.underlying107 ze_102 (by (repeat' constructor)) rfl) rfl ?_
  refine G.q (Quiet.assign rfl) rfl (G.nil (G.then_n (G.seq (G.seq (G.region (G.q (Quiet.move rfl) rfl ?_))))))
  refine G.q (Quiet.as (v' := .bool false) (by rfl) (Quiet.ptreq rfl rfl Tryz.underlying102)) rfl ?_
  refine G.nil (G.then_n (G.condF rfl (G.skip (G.then_n (G.seq ?_)))))
  refine G.bigTake hal (by (repeat' constructor)) ?_
  refine G.ndOpen (x := (p, px)) (by (repeat' constructor)) ?_
  refine G.region (G.q (Quiet.move rfl) rfl (G.q (Quiet.nilp rfl) rfl (G.q (Quiet.fieldAddr rfl fo_106_2) rfl ?_)))
  refine G.q (Quiet.loadAs (vs := stC px.2.2.st) rfl ag_43 (by (repeat' constructor)) (by simp [ndC]) rfl) rfl ?_
  refine G.op (OpSpec.allocA ze_43) (by (repeat' constructor)) rfl ?nx28
  rintro v L' ⟨b7, rfl, rfl⟩
  refine G.op (OpSpec.storeA rfl rfl ?c30 sz_43 ?c33 ?c31 ?c32) (by (repeat' constructor)) rfl ?nx34
  case c30 => intro v hv; simp only [stC, List.mem_cons, List.not_mem_nil, or_false] at hv; rcases hv with rfl | rfl | rfl | rfl | rfl | rfl | rfl | rfl | rfl <;> rfl
  case c33 => rfl
  case c31 => simp [stC]
  case c32 => exact nfz0 _ _
  rintro v L' rfl
  refine G.nil ?_
  refine G.ptCast (b := b7) (l' := stC px.2.2.st) (by (repeat' constructor)) rfl ?_
  refine G.then_n (G.seq ?_)
  refine G.draw [7, 10, 12] [[0, 1, 2, 3, 4, 5, 6, 9, 7, 8, 10], [11, 12]] mixed (by kernel_rfl) ?_
  refine Phases.go [ptc px.1 _ _] (by (repeat' constructor)) ?_
  refine D.q rfl (by kernel_rfl) (Quiet.move rfl) ?_
  refine D.q rfl (by kernel_rfl) (Quiet.nilp rfl) ?_
  refine D.q rfl (by kernel_rfl) (Quiet.fieldAddr rfl fo_106_0) ?_
  refine D.q rfl (by kernel_rfl) (Quiet.load rfl ag_9 (by (repeat' constructor)) (rfl)) ?_
  refine D.q rfl (by kernel_rfl) (Quiet.strlen rfl Tryz.underlying9 rfl) ?_
  refine D.qw [7, 8, 10] rfl (by kernel_rfl) (Quiet.move rfl) ?_
  refine D.qw [7, 8, 10] rfl (by kernel_rfl) (Quiet.move rfl) ?_
  refine D.q rfl (by kernel_rfl) (Quiet.fieldAddr rfl fo_43_7) ?_
  refine D.h rfl (by kernel_rfl) (OpSpec.call Tryz.func49 rfl rfl (vs := [_, _]) rfl (trkids0_spec t rn (.map (some rs)) (vint τ.zx) m p (hI.plen ho) (by omega))) (by (repeat' constructor)) ?nx42
  rintro v L' ⟨⟨a5, c5, rfl⟩, rfl⟩
  refine D.q rfl (by kernel_rfl) (Quiet.slen rfl Tryz.underlying40 rfl) ?_
  refine D.h rfl (by kernel_rfl) (OpSpec.store rfl rfl rfl sz_3 ?c45 ?c46) (by (repeat' constructor)) ?nx47
  case c45 => simp [stC]
  case c46 => exact nfz0 _ _
  rintro v L' rfl
  refine D.ph ?_
  refine Phases.go [] (by (repeat' constructor)) ?_
  refine D.qw [12] rfl (by kernel_rfl) (Quiet.fieldAddr rfl fo_43_8) ?_
  refine D.h rfl (by kernel_rfl) (OpSpec.store rfl rfl rfl sz_3 ?c49 ?c50) (by (repeat' constructor)) ?nx51
  case c49 => simp [stC]
  case c50 => exact nfz0 _ _
  rintro v L' rfl
  refine D.ph (Phases.fin ?_)
  refine G.ptCast (b := b7) (l' := stC (statD τ p)) (by (repeat' constructor)) (by rw [hI.stat hal, ← hI.kids ho p, sortS_length]; rfl) ?_
  refine G.then_n (G.seq (G.region ?_))
  refine G.q (Quiet.loadAs (vs := stC (statD τ p)) rfl ag_43 (by (repeat' constructor)) (by simp [stC]) rfl) rfl ?_
  refine G.op (OpSpec.storeA rfl rfl ?c53 sz_43 ?c56 ?c54 ?c55) (by (repeat' constructor)) rfl ?nx57
  case c53 => intro v hv; simp only [stC, List.mem_cons, List.not_mem_nil, or_false] at hv; rcases hv with rfl | rfl | rfl | rfl | rfl | rfl | rfl | rfl | rfl <;> rfl
  case c56 => rfl
  case c54 => simp [stC]
  case c55 => exact nfz0 _ _
  rintro v L' rfl
  refine G.q (Quiet.assign rfl) rfl (G.nil (G.then_n (G.ret ?_)))
  refine G.ptCast (b := b4) (l' := stC (statD τ p)) (by (repeat' constructor)) rfl ?_
  refine G.ndFold (x := (p, px)) (by (repeat' constructor)) rfl rfl rfl rfl ?_
  refine G.bigPut (f := inN) (m := m) p px rfl (by (repeat' constructor)) ?_
  rw [aset_self hal]
  refine G.trFold (τ := τ) hI (by (repeat' constructor)) rfl rfl rfl ?_
  exact G.done2 rfl (.cellA rfl ag_43 (by (repeat' constructor)) (by simp [stC]) rfl) (.tmp rfl) ⟨by rw [decide_eq_true (hI.some_iff hal)]; rfl, rfl⟩ (by (repeat' constructor)) (by (repeat' constructor))

set_option maxRecDepth 100000 in
theorem trget_spec (t : Nat) (τ : Tr) (p : Bs) (N : Nat) (ho : τ.Ok N) (hN : N ≤ 1099511627776) : Fn Tryz.prog 41 #[vptr t, vstr p] [treeR t τ] fun v L => v = .tuple #[vstr (dataD τ p), .agg (stC (statD τ p)).toArray, vint (if thereT τ p then 0 else 60)] ∧ L = [treeR t τ] := by
 refine Fn.intro (vs := [vptr t, vstr p]) Tryz.func41 rfl rfl ?_
 intro F W
 refine G.seq (G.region (G.q (Quiet.assign rfl) rfl ?_))
 refine G.op (OpSpec.allocA ze_43) (by (repeat' constructor)) rfl ?nx2
 rintro v L' ⟨b5, rfl, rfl⟩
 refine G.q (Quiet.assign rfl) rfl (G.nil (G.then_n (G.seq (G.region (G.q (Quiet.move rfl) rfl (G.q (Quiet.move rfl) rfl ?_))))))
 refine G.op (OpSpec.call Tryz.func16 rfl rfl (vs := [_, _]) rfl (trstat_spec t τ p N ho hN)) (by (repeat' constructor)) rfl ?nx7
 rintro v L' ⟨rfl, rfl⟩
 refine G.q (Quiet.move rfl) rfl (G.q (Quiet.extract rfl rfl) rfl (G.q (Quiet.extract rfl rfl) rfl ?_))
 refine G.op (OpSpec.allocA ze_43) (by (repeat' constructor)) rfl ?nx11
 rintro v L' ⟨b7, rfl, rfl⟩
 refine G.op (OpSpec.storeA rfl rfl ?c13 sz_43 ?c16 ?c14 ?c15) (by (repeat' constructor)) rfl ?nx17
 case c13 => intro v hv; simp only [stC, List.mem_cons, List.not_mem_nil, or_false] at hv; rcases hv with rfl | rfl | rfl | rfl | rfl | rfl | rfl | rfl | rfl <;> rfl
 case c16 => rfl
 case c14 => simp [stC]
 case c15 => exact nfz0 _ _
 rintro v L' rfl
 refine G.q (Quiet.assign rfl) rfl (G.nil ?_)
 refine G.ptCast (b := b7) (l' := stC (statD τ p)) (by (repeat' constructor)) rfl ?_
 refine G.then_n (G.seq (G.seq (G.region (G.q (Quiet.move rfl) rfl (G.q (Quiet.not rfl) rfl (G.nil (G.then_n ?_)))))))
 refine G.condN rfl (fun h16 => ?_) (fun h16 => ?_)
 ·refine G.seq (G.region ?_)
  refine G.q (Quiet.build (us := []) fl_43 ze_43 rfl rfl (by simp [isCell])) rfl ?_
  refine G.q (Quiet.assign rfl) rfl ?_
  refine G.op (OpSpec.storeA rfl rfl ?c21 sz_43 ?c24 ?c22 ?c23) (by (repeat' constructor)) rfl ?nx25
  case c21 => (first | (simp [isCell]; done) | (simp [isCell, setAll, Value.cells]; done))
  case c24 => (first | (simp; done) | (simp [setAll, spl, Value.cells]; done))
  case c22 => (first | (simp; done) | (simp [setAll, spl, Value.cells]; done))
  case c23 => exact nfz0 _ _
  rintro v L' rfl
  refine G.q (Quiet.assign rfl) rfl (G.nil (G.then_n (G.ret (G.then_r ?_))))
  refine G.ptCast (b := b5) (l' := stC (statD τ p)) (by (repeat' constructor)) (by rw [show statD τ p = st0 by unfold statD statZ; unfold thereT at h16; cases e : alook τ.nodes p with | none => rfl | some y => rw [e] at h16; exact absurd rfl h16]; rfl) ?_
  exact G.done3 rfl (.tmp rfl) (.cellA rfl ag_43 (by (repeat' constructor)) (by simp [stC]) rfl) (.tmp rfl) ⟨by rw [if_neg h16, show dataD τ p = [] by unfold dataD; unfold thereT at h16; cases e : alook τ.nodes p with | none => rfl | some y => rw [e] at h16; exact absurd rfl h16]; rfl, rfl⟩ (by (repeat' constructor)) (by (repeat' constructor))
 ·refine G.skip (G.then_n (G.seq ?_))
  refine G.trOpen (τ := τ) (by (repeat' constructor)) fun rn rs m s hI => ?_
  obtain ⟨px, hal⟩ : ∃ px, alook m p = some px := by rcases h : alook m p with _ | y; exact absurd h16 (hI.none_iff.1 h); exact ⟨y, rfl⟩
  refine G.bigTake hal (by (repeat' constructor)) ?_
  refine G.ndOpen (x := (p, px)) (by (repeat' constructor)) ?_
  refine G.draw [11] [[0, 1, 2, 3, 4, 5, 6, 7, 8, 9, 10, 11], [12]] mixed (by kernel_rfl) ?_
  refine Phases.go [] (by (repeat' constructor)) ?_
  refine D.qw [1, 2, 3, 5, 6, 7, 8, 10, 11] rfl (by kernel_rfl) (Quiet.move rfl) ?_
  refine D.qw [2, 3, 5, 6, 7, 8, 10, 11] rfl (by kernel_rfl) (Quiet.nilp rfl) ?_
  refine D.qw [3, 5, 6, 7, 8, 10, 11] rfl (by kernel_rfl) (Quiet.fieldAddr rfl fo_110_0) ?_
  refine D.qw [5, 6, 7, 8, 10, 11] rfl (by kernel_rfl) (Quiet.load rfl ag_107 (by (repeat' constructor)) (rfl)) ?_
  refine D.qw [5, 6, 7, 8, 10, 11] rfl (by kernel_rfl) (Quiet.move rfl) ?_
  refine D.qw [6, 7, 8, 10, 11] rfl (by kernel_rfl) (Quiet.lookupY (m := m) (enc := ndV) (KeyLaw.str Tryz.underlying9) (hal) rfl rfl Tryz.underlying107 ze_102 (by (repeat' constructor)) rfl) ?_
  refine D.qw [7, 8, 10, 11] rfl (by kernel_rfl) (Quiet.nilp rfl) ?_
  refine D.qw [8, 10, 11] rfl (by kernel_rfl) (Quiet.fieldAddr rfl fo_106_0) ?_
  refine D.qw [10, 11] rfl (by kernel_rfl) (Quiet.load rfl ag_9 (by (repeat' constructor)) (rfl)) ?_
  refine D.qw [11] rfl (by kernel_rfl) (Quiet.loadAs (vs := stC (statD τ p)) rfl ag_43 (by (repeat' constructor)) (by simp [stC]) rfl) ?_
  refine D.qw [11] rfl (by kernel_rfl) (Quiet.assign rfl) ?_
  refine D.h rfl (by kernel_rfl) (OpSpec.storeA rfl rfl ?c37 sz_43 ?c40 ?c38 ?c39) (by (repeat' constructor)) ?nx41
  case c37 => intro v hv; simp only [stC, List.mem_cons, List.not_mem_nil, or_false] at hv; rcases hv with rfl | rfl | rfl | rfl | rfl | rfl | rfl | rfl | rfl <;> rfl
  case c40 => rfl
  case c38 => simp [stC]
  case c39 => exact nfz0 _ _
  rintro v L' rfl
  refine D.ph ?_
  refine Phases.go [] (by (repeat' constructor)) ?_
  refine D.qw [] rfl (by kernel_rfl) (Quiet.assign rfl) ?_
  refine D.ph (Phases.fin (G.then_n (G.ret ?_)))
  refine G.ptCast (b := b5) (l' := stC (statD τ p)) (by (repeat' constructor)) rfl ?_
  refine G.ndFold (x := (p, px)) (by (repeat' constructor)) rfl rfl rfl rfl ?_
  refine G.bigPut (f := inN) (m := m) p px rfl (by (repeat' constructor)) ?_
  rw [aset_self hal]
  refine G.trFold (τ := τ) hI (by (repeat' constructor)) rfl rfl rfl ?_
  exact G.done3 rfl (.tmp rfl) (.cellA rfl ag_43 (by (repeat' constructor)) (by simp [stC]) rfl) (.tmp rfl) ⟨by rw [if_pos h16, show dataD τ p = px.2.2.data by unfold dataD; rw [hI.at hal]; rfl]; rfl, rfl⟩ (by (repeat' constructor)) (by (repeat' constructor))

set_option maxRecDepth 100000 in
theorem aclequal_spec (va vb : Value) (xs ys : List Ac) (hn : xs.length ≤ 1048576) : Fn Tryz.prog 56 #[va, vb] [rdO 2 va xs.length (xs.flatMap acC), rdO 2 vb ys.length (ys.flatMap acC)] fun v L => v = .bool (decide (xs = ys)) ∧ L = [rdO 2 va xs.length (xs.flatMap acC), rdO 2 vb ys.length (ys.flatMap acC)] := by
 refine Fn.intro (vs := [va, vb]) Tryz.func56 rfl rfl ?_
 intro F W
 refine G.rdAny (p := rdO 2 va xs.length (xs.flatMap acC)) (fun h hp => hp) (by (repeat' constructor)) fun aa ca e0 _ => ?_
 subst e0
 refine G.rdAny (p := rdO 2 vb ys.length (ys.flatMap acC)) (fun h hp => hp) (by (repeat' constructor)) fun ab cb e0 _ => ?_
 subst e0
 refine G.seq (G.region (G.q (Quiet.assign rfl) rfl (G.nil (G.then_n (G.seq (G.seq (G.region (G.q (Quiet.move rfl) rfl (G.q (Quiet.slen rfl Tryz.underlying34 rfl) rfl (G.q (Quiet.move rfl) rfl (G.q (Quiet.slen rfl Tryz.underlying34 rfl) rfl (G.q (Quiet.int rfl rfl rfl) rfl (G.nil (G.then_n ?_))))))))))))))
 refine G.condN rfl (fun h10 => ?_) (fun h10 => ?_)
 ·refine G.seq (G.region (G.q (Quiet.assign rfl) rfl (G.nil (G.then_n (G.ret (G.then_r ?_))))))
  exact G.done (l := [.tmp 4]) rfl rfl ⟨by rw [decide_eq_false (fun e => h10 (by rw [e]))], rfl⟩ (by (repeat' constructor)) (by (repeat' constructor))
 ·have hlen : xs.length = ys.length := by omega
  refine G.skip (G.then_n (G.seq (G.seq (G.region (G.q (Quiet.move rfl) rfl (G.q (Quiet.slen rfl Tryz.underlying34 rfl) rfl (G.q (Quiet.move rfl) rfl (G.nil (G.then_n (G.block ?_))))))))))
  refine G.loopK (ι := Nat) (fun q E => (13, vint q) :: E) (fun q => []) (fun q => q ≤ xs.length ∧ xs.take q = ys.take q) (fun q => xs.length - q) (0) (ts := [0, 1, 12]) (.cons rfl (.cons rfl (.cons rfl (.nil)))) (⟨Nat.zero_le _, rfl⟩) ⟨rfl, rfl, rfl, rfl, trivial⟩ (by (repeat' constructor)) ?_
  rintro i ⟨hi, hpre⟩
  refine G.seq (G.region (G.q (Quiet.int rfl rfl rfl) rfl (G.nil (G.then_n (G.seq ?_)))))
  refine G.condD rfl (fun h14 => ?_) (fun h14 => ?_)
  ·have hi2 : i < xs.length := by omega
   have hi3 : i < ys.length := by omega
   refine G.rdShape (p := rdO 2 _ xs.length (xs.flatMap acC)) (fun h hp => hp) (by (repeat' constructor)) (by omega) fun ba oa e0 => ?_
   subst e0
   refine G.rdShape (p := rdO 2 (.slice ab ys.length cb) ys.length (ys.flatMap acC)) (fun h hp => hp) (by (repeat' constructor)) (by omega) fun bb ob e0 => ?_
   subst e0
   refine G.skip (G.then_n (G.seq (G.block (G.seq (G.region (G.q (Quiet.move rfl) rfl (G.q (Quiet.assign rfl) rfl (G.nil (G.then_n (G.seq ?_))))))))))
   refine G.draw [] [[0, 1, 2, 3, 4, 5, 6, 7, 8]] mixed (by kernel_rfl) ?_
   refine Phases.go [] (by (repeat' constructor)) ?_
   refine D.qw [2, 3, 8] rfl (by kernel_rfl) (Quiet.move rfl) ?_
   refine D.qw [2, 3, 8] rfl (by kernel_rfl) (Quiet.move rfl) ?_
   refine D.qw [3, 8] rfl (by kernel_rfl) (Quiet.indexAddr rfl rfl el_34 (by omega)) ?_
   refine D.qw [8] rfl (by kernel_rfl) (Quiet.loadRdA (sz := 2) (j := i * 2) (k := 2) (p := rdO 2 _ xs.length (xs.flatMap acC)) (vs := acC xs[i]) rfl ag_104 (by (repeat' constructor)) (fun h hp => hp) (by simp) (by omega) (by omega) (flatMap_at (f := acC) (sz := 2) (fun _ _ => rfl) (by omega))) ?_
   refine D.qw [6, 7, 8] rfl (by kernel_rfl) (Quiet.move rfl) ?_
   refine D.qw [6, 7, 8] rfl (by kernel_rfl) (Quiet.move rfl) ?_
   refine D.qw [7, 8] rfl (by kernel_rfl) (Quiet.indexAddr rfl rfl el_34 (by omega)) ?_
   refine D.qw [8] rfl (by kernel_rfl) (Quiet.loadRdA (sz := 2) (j := i * 2) (k := 2) (p := rdO 2 _ ys.length (ys.flatMap acC)) (vs := acC ys[i]) rfl ag_104 (by (repeat' constructor)) (fun h hp => hp) (by simp) (by omega) (by omega) (flatMap_at (f := acC) (sz := 2) (fun _ _ => rfl) (by omega))) ?_
   refine D.qw [] rfl (by kernel_rfl) (Quiet.structNe (r := decide (xs[i] = ys[i])) rfl rfl (by kernel_rfl) (ac_eq 9998 _ _)) ?_
   refine D.ph (Phases.fin (G.then_n ?_))
   refine G.condN rfl (fun h24 => ?_) (fun h24 => ?_)
   ·refine G.seq (G.region (G.q (Quiet.assign rfl) rfl (G.nil (G.then_n (G.ret (G.blk_r (G.then_r (G.then_r (G.blk_r (G.then_r ?_))))))))))
    exact G.done (l := [.tmp 4]) rfl rfl ⟨by rw [decide_eq_false (fun e => h24 (by simp only [e]))], rfl⟩ (by (repeat' constructor)) (by (repeat' constructor))
   ·refine G.skip (G.blk_n (G.then_n (G.region ?_)))
    refine G.q (Quiet.add rfl rfl (by omega)) rfl ?_
    refine G.q (Quiet.move rfl) rfl (G.nil (G.then_n ?_))
    exact G.roundK (i + 1) (⟨by omega, by rw [List.take_succ_eq_append_getElem hi2, List.take_succ_eq_append_getElem hi3, hpre, h24]⟩) (by omega) ⟨rfl, rfl, rfl, rfl, trivial⟩ (by (repeat' constructor)) (by ((repeat (apply Have.cons; (repeat (first | exact Pick.here | apply Pick.there)))); apply Have.base; repeat' constructor))
  ·refine G.exit (G.then_e (G.then_e (G.blk_e (G.then_n (G.seq (G.region (G.q (Quiet.assign rfl) rfl (G.nil (G.then_n (G.ret ?_))))))))))
   exact G.done (l := [.tmp 4]) rfl rfl ⟨by rw [decide_eq_true (by have hii : i = xs.length := (by omega); rw [hii, List.take_length] at hpre; rw [hlen, List.take_length] at hpre; exact hpre)], rfl⟩ (by (repeat' constructor)) (by (repeat' constructor))

theorem nd_ext {a b : Nd} (h1 : a.data = b.data) (h2 : a.acl = b.acl) (h3 : a.st = b.st) : a = b := by cases a; cases b; cases h1; cases h2; cases h3; rfl
set_option maxRecDepth 100000 in
theorem trsame1_spec (a b : Bs) (px py : Nm) (hn : px.2.2.acl.length ≤ 1048576) : Fn Tryz.prog 55 #[vptr px.1, vptr py.1] [inN (a, px), inN (b, py)] fun v L => v = .bool (decide (px.2.2 = py.2.2)) ∧ L = [inN (a, px), inN (b, py)] := by
 refine Fn.intro (vs := [vptr px.1, vptr py.1]) Tryz.func55 rfl rfl ?_
 intro F W
 refine G.ndOpen (x := (a, px)) (by (repeat' constructor)) ?_
 refine G.ndOpen (x := (b, py)) (by (repeat' constructor)) ?_
 refine G.seq (G.region (G.q (Quiet.assign rfl) rfl (G.nil (G.then_n (G.seq ?_)))))
 refine G.draw [] [[0, 1, 2, 3, 4, 5, 6, 7, 8, 9, 10, 11, 12, 13, 14, 15, 16, 17, 18, 19, 20, 21, 22, 23, 24, 25, 26, 27, 28, 29, 30, 31]] mixed (by kernel_rfl) ?_
 refine Phases.go [ptc px.1 _ _, ptc py.1 _ _, rdO 2 px.2.1 _ _, rdO 2 py.2.1 _ _] (by (repeat' constructor)) ?_
 refine D.qw [1, 2, 3, 8, 9, 10, 11, 12, 13, 14, 15, 16, 17, 18, 19, 20, 21, 22, 23, 24, 25, 26, 27, 28, 29, 30, 31] rfl (by kernel_rfl) (Quiet.move rfl) ?_
 refine D.qw [2, 3, 8, 9, 10, 11, 12, 13, 14, 15, 16, 17, 18, 19, 20, 21, 22, 23, 24, 25, 26, 27, 28, 29, 30, 31] rfl (by kernel_rfl) (Quiet.nilp rfl) ?_
 refine D.qw [3, 8, 9, 10, 11, 12, 13, 14, 15, 16, 17, 18, 19, 20, 21, 22, 23, 24, 25, 26, 27, 28, 29, 30, 31] rfl (by kernel_rfl) (Quiet.fieldAddr rfl fo_106_0) ?_
 refine D.qw [8, 9, 10, 11, 12, 13, 14, 15, 16, 17, 18, 19, 20, 21, 22, 23, 24, 25, 26, 27, 28, 29, 30, 31] rfl (by kernel_rfl) (Quiet.load rfl ag_9 (by (repeat' constructor)) (rfl)) ?_
 refine D.qw [5, 6, 7, 8, 9, 10, 11, 12, 13, 14, 15, 16, 17, 18, 19, 20, 21, 22, 23, 24, 25, 26, 27, 28, 29, 30, 31] rfl (by kernel_rfl) (Quiet.move rfl) ?_
 refine D.qw [6, 7, 8, 9, 10, 11, 12, 13, 14, 15, 16, 17, 18, 19, 20, 21, 22, 23, 24, 25, 26, 27, 28, 29, 30, 31] rfl (by kernel_rfl) (Quiet.nilp rfl) ?_
 refine D.qw [7, 8, 9, 10, 11, 12, 13, 14, 15, 16, 17, 18, 19, 20, 21, 22, 23, 24, 25, 26, 27, 28, 29, 30, 31] rfl (by kernel_rfl) (Quiet.fieldAddr rfl fo_106_0) ?_
 refine D.qw [8, 9, 10, 11, 12, 13, 14, 15, 16, 17, 18, 19, 20, 21, 22, 23, 24, 25, 26, 27, 28, 29, 30, 31] rfl (by kernel_rfl) (Quiet.load rfl ag_9 (by (repeat' constructor)) (rfl)) ?_
 refine D.qw [9, 10, 11, 12, 13, 14, 15, 16, 17, 18, 19, 20, 21, 22, 23, 24, 25, 26, 27, 28, 29, 30, 31] rfl (by kernel_rfl) (Quiet.streq rfl rfl) ?_
 refine D.qw [10, 11, 12, 13, 14, 15, 16, 17, 18, 19, 20, 21, 22, 23, 24, 25, 26, 27, 28, 29, 30, 31] rfl (by kernel_rfl) (Quiet.move rfl) ?_
 refine D.dec (t := 14) rfl (fun h1_14 => ?_) (fun h1_14 => ?_)
 ·refine D.kDT (t := 13) rfl h1_14 ?_
  refine D.gqw [11, 12, 13, 18, 19, 20, 21, 22, 23, 24, 25, 26, 27, 28, 29, 30, 31] (t := 14) rfl rfl rfl (by kernel_rfl) (Quiet.move rfl) ?_
  refine D.gqw [12, 13, 18, 19, 20, 21, 22, 23, 24, 25, 26, 27, 28, 29, 30, 31] (t := 14) rfl rfl rfl (by kernel_rfl) (Quiet.nilp rfl) ?_
  refine D.gqw [13, 18, 19, 20, 21, 22, 23, 24, 25, 26, 27, 28, 29, 30, 31] (t := 14) rfl rfl rfl (by kernel_rfl) (Quiet.fieldAddr rfl fo_106_2) ?_
  refine D.gqw [18, 19, 20, 21, 22, 23, 24, 25, 26, 27, 28, 29, 30, 31] (t := 14) rfl rfl rfl (by kernel_rfl) (Quiet.loadAs (vs := stC px.2.2.st) rfl ag_43 (by (repeat' constructor)) (by simp [ndC]) rfl) ?_
  refine D.gqw [15, 16, 17, 18, 19, 20, 21, 22, 23, 24, 25, 26, 27, 28, 29, 30, 31] (t := 14) rfl rfl rfl (by kernel_rfl) (Quiet.move rfl) ?_
  refine D.gqw [16, 17, 18, 19, 20, 21, 22, 23, 24, 25, 26, 27, 28, 29, 30, 31] (t := 14) rfl rfl rfl (by kernel_rfl) (Quiet.nilp rfl) ?_
  refine D.gqw [17, 18, 19, 20, 21, 22, 23, 24, 25, 26, 27, 28, 29, 30, 31] (t := 14) rfl rfl rfl (by kernel_rfl) (Quiet.fieldAddr rfl fo_106_2) ?_
  refine D.gqw [18, 19, 20, 21, 22, 23, 24, 25, 26, 27, 28, 29, 30, 31] (t := 14) rfl rfl rfl (by kernel_rfl) (Quiet.loadAs (vs := stC py.2.2.st) rfl ag_43 (by (repeat' constructor)) (by simp [ndC]) rfl) ?_
  refine D.gqw [19, 20, 21, 22, 23, 24, 25, 26, 27, 28, 29, 30, 31] (t := 14) rfl rfl rfl (by kernel_rfl) (Quiet.structEq (r := decide (px.2.2.st = py.2.2.st)) rfl rfl (by kernel_rfl) (st_eq 9998 _ _)) ?_
  refine D.qw [20, 21, 22, 23, 24, 25, 26, 27, 28, 29, 30, 31] rfl (by kernel_rfl) (Quiet.pickT rfl rfl) ?_
  refine D.qw [21, 22, 23, 24, 25, 26, 27, 28, 29, 30, 31] rfl (by kernel_rfl) (Quiet.move rfl) ?_
  refine D.dec (t := 25) rfl (fun h1_25 => ?_) (fun h1_25 => ?_)
  ·refine D.kDT (t := 23) rfl h1_25 (D.kDT (t := 24) rfl h1_25 ?_)
   refine D.gqw [22, 23, 24, 29, 30, 31] (t := 25) rfl rfl rfl (by kernel_rfl) (Quiet.move rfl) ?_
   refine D.gqw [23, 24, 29, 30, 31] (t := 25) rfl rfl rfl (by kernel_rfl) (Quiet.nilp rfl) ?_
   refine D.gqw [24, 29, 30, 31] (t := 25) rfl rfl rfl (by kernel_rfl) (Quiet.fieldAddr rfl fo_106_1) ?_
   refine D.gqw [29, 30, 31] (t := 25) rfl rfl rfl (by kernel_rfl) (Quiet.load rfl ag_34 (by (repeat' constructor)) (rfl)) ?_
   refine D.gqw [26, 27, 28, 29, 30, 31] (t := 25) rfl rfl rfl (by kernel_rfl) (Quiet.move rfl) ?_
   refine D.gqw [27, 28, 29, 30, 31] (t := 25) rfl rfl rfl (by kernel_rfl) (Quiet.nilp rfl) ?_
   refine D.gqw [28, 29, 30, 31] (t := 25) rfl rfl rfl (by kernel_rfl) (Quiet.fieldAddr rfl fo_106_1) ?_
   refine D.gqw [29, 30, 31] (t := 25) rfl rfl rfl (by kernel_rfl) (Quiet.load rfl ag_34 (by (repeat' constructor)) (rfl)) ?_
   refine D.gm (t := 25) rfl rfl rfl (by kernel_rfl) (OpSpec.call Tryz.func56 rfl rfl (vs := [_, _]) rfl (aclequal_spec px.2.1 py.2.1 px.2.2.acl py.2.2.acl hn)) (by (repeat' constructor)) ?nx28
   refine D.qw [31] rfl (by kernel_rfl) (Quiet.pickT rfl rfl) ?_
   refine D.qw [] rfl (by kernel_rfl) (Quiet.assign rfl) ?_
   refine D.ph (Phases.fin (G.then_n (G.ret ?_)))
   refine G.ndFold (x := (a, px)) (by (repeat' constructor)) rfl rfl rfl rfl ?_
   refine G.ndFold (x := (b, py)) (by (repeat' constructor)) rfl rfl rfl rfl ?_
   exact G.done (l := [.tmp 4]) rfl rfl ⟨by congr 1; exact decide_eq_decide.2 ⟨fun e => nd_ext h1_14 e h1_25, fun e => by rw [e]⟩, rfl⟩ (by (repeat' constructor)) (by (repeat' constructor))
  ·refine D.kDF (t := 23) rfl h1_25 (D.kDF (t := 24) rfl h1_25 ?_)
   refine D.gs (t := 25) rfl rfl rfl rfl (by kernel_rfl) ?_
   refine D.gs (t := 25) rfl rfl rfl rfl (by kernel_rfl) ?_
   refine D.gs (t := 25) rfl rfl rfl rfl (by kernel_rfl) ?_
   refine D.gs (t := 25) rfl rfl rfl rfl (by kernel_rfl) ?_
   refine D.gs (t := 25) rfl rfl rfl rfl (by kernel_rfl) ?_
   refine D.gs (t := 25) rfl rfl rfl rfl (by kernel_rfl) ?_
   refine D.gs (t := 25) rfl rfl rfl rfl (by kernel_rfl) ?_
   refine D.gs (t := 25) rfl rfl rfl rfl (by kernel_rfl) ?_
   refine D.gs (t := 25) rfl rfl rfl rfl (by kernel_rfl) ?_
   refine D.qw [31] rfl (by kernel_rfl) (Quiet.pickF rfl rfl) ?_
   refine D.qw [] rfl (by kernel_rfl) (Quiet.assign rfl) ?_
   refine D.ph (Phases.fin (G.then_n (G.ret ?_)))
   refine G.ndFold (x := (a, px)) (by (repeat' constructor)) rfl rfl rfl rfl ?_
   refine G.ndFold (x := (b, py)) (by (repeat' constructor)) rfl rfl rfl rfl ?_
   exact G.done (l := [.tmp 4]) rfl rfl ⟨by rw [decide_eq_false (fun e => h1_25 (by rw [e]))], rfl⟩ (by (repeat' constructor)) (by (repeat' constructor))
 ·refine D.kDF (t := 13) rfl h1_14 ?_
  refine D.gs (t := 14) rfl rfl rfl rfl (by kernel_rfl) ?_
  refine D.gs (t := 14) rfl rfl rfl rfl (by kernel_rfl) ?_
  refine D.gs (t := 14) rfl rfl rfl rfl (by kernel_rfl) ?_
  refine D.gs (t := 14) rfl rfl rfl rfl (by kernel_rfl) ?_
  refine D.gs (t := 14) rfl rfl rfl rfl (by kernel_rfl) ?_
  refine D.gs (t := 14) rfl rfl rfl rfl (by kernel_rfl) ?_
  refine D.gs (t := 14) rfl rfl rfl rfl (by kernel_rfl) ?_
  refine D.gs (t := 14) rfl rfl rfl rfl (by kernel_rfl) ?_
  refine D.gs (t := 14) rfl rfl rfl rfl (by kernel_rfl) ?_
  refine D.qw [20, 21, 22, 23, 24, 25, 26, 27, 28, 29, 30, 31] rfl (by kernel_rfl) (Quiet.pickF rfl rfl) ?_
  refine D.qw [21, 22, 23, 24, 25, 26, 27, 28, 29, 30, 31] rfl (by kernel_rfl) (Quiet.move rfl) ?_
  refine D.gs (t := 25) rfl rfl rfl rfl (by kernel_rfl) ?_
  refine D.gs (t := 25) rfl rfl rfl rfl (by kernel_rfl) ?_
  refine D.gs (t := 25) rfl rfl rfl rfl (by kernel_rfl) ?_
  refine D.gs (t := 25) rfl rfl rfl rfl (by kernel_rfl) ?_
  refine D.gs (t := 25) rfl rfl rfl rfl (by kernel_rfl) ?_
  refine D.gs (t := 25) rfl rfl rfl rfl (by kernel_rfl) ?_
  refine D.gs (t := 25) rfl rfl rfl rfl (by kernel_rfl) ?_
  refine D.gs (t := 25) rfl rfl rfl rfl (by kernel_rfl) ?_
  refine D.gs (t := 25) rfl rfl rfl rfl (by kernel_rfl) ?_
  refine D.qw [31] rfl (by kernel_rfl) (Quiet.pickF rfl rfl) ?_
  refine D.qw [] rfl (by kernel_rfl) (Quiet.assign rfl) ?_
  refine D.ph (Phases.fin (G.then_n (G.ret ?_)))
  refine G.ndFold (x := (a, px)) (by (repeat' constructor)) rfl rfl rfl rfl ?_
  refine G.ndFold (x := (b, py)) (by (repeat' constructor)) rfl rfl rfl rfl ?_
  exact G.done (l := [.tmp 4]) rfl rfl ⟨by rw [decide_eq_false (fun e => h1_14 (by rw [e]))], rfl⟩ (by (repeat' constructor)) (by (repeat' constructor))

theorem ss_eq (d : Nat) (a b : Int × Bs) : EqAt Tryz.prog (d + 2) 112 (ssV a) (ssV b) (decide (a = b)) := by
  have h := EqAt.struct (d := d + 1) (xs := [vint a.1, vstr a.2]) (ys := [vint b.1, vstr b.2]) Tryz.underlying112 (by kernel_rfl)
    (.cons (FEq.cell (by decide) ag_3 rfl rfl (EqAt.int Tryz.underlying3 a.1 b.1)) (.cons (FEq.cell (by decide) ag_9 rfl rfl (EqAt.str Tryz.underlying9 a.2 b.2)) .nil))
  have e : ([decide (a.1 = b.1), decide (a.2 = b.2)].all id) = decide (a = b) := by
    obtain ⟨a1, a2⟩ := a; obtain ⟨b1, b2⟩ := b
    simp [Bool.decide_and]
  rw [← e]; exact h
theorem al_len_of {K β : Type} [DecidableEq K] {a b : List (K × β)} (ha : (a.map (·.1)).Nodup) (hb : (b.map (·.1)).Nodup) (h : ∀ i, alook a i = alook b i) : a.length = b.length := (al_ext_perm ha hb h).length_eq
theorem eq_of_all {K β : Type} [DecidableEq K] {a b : List (K × β)} (ha : (a.map (·.1)).Nodup) (hl : a.length = b.length) (h : ∀ x ∈ a, alook b x.1 = some x.2) : ∀ i, alook a i = alook b i := fun i => by
  rcases e : alook a i with _ | y
  · exact (keys_same ha hl (fun x hx => by rw [h x hx]; rfl) e).symm
  · exact (h (i, y) (al_mem e)).symm
set_option maxRecDepth 100000 in
theorem mapseq_spec (r1 r2 : Nat) (s1 s2 : SsM) (hn1 : (s1.map (·.1)).Nodup) (hn2 : (s2.map (·.1)).Nodup) : Fn Tryz.prog 53 #[.map (some r1), .map (some r2)] [mapR r1 (ssE s1), mapR r2 (ssE s2)] fun v L => ∃ b, v = .bool b ∧ (b = true ↔ ∀ i, alook s1 i = alook s2 i) ∧ L = [mapR r1 (ssE s1), mapR r2 (ssE s2)] := by
 refine Fn.intro (vs := [.map (some r1), .map (some r2)]) Tryz.func53 rfl rfl ?_
 intro F W
 refine G.seq (G.region (G.q (Quiet.assign rfl) rfl (G.nil (G.then_n (G.seq (G.seq (G.region (G.q (Quiet.move rfl) rfl ?_))))))))
 refine G.q (Quiet.to (Quiet.maplen rfl Tryz.underlying108 rfl (by (repeat' constructor))) (show _ = vint s1.length by simp [ssE])) rfl ?_
 refine G.q (Quiet.move rfl) rfl ?_
 refine G.q (Quiet.to (Quiet.maplen rfl Tryz.underlying108 rfl (by (repeat' constructor))) (show _ = vint s2.length by simp [ssE])) rfl ?_
 refine G.q (Quiet.int rfl rfl rfl) rfl (G.nil (G.then_n ?_))
 refine G.condN rfl (fun h13 => ?_) (fun h13 => ?_)
 ·refine G.seq (G.region (G.q (Quiet.assign rfl) rfl (G.nil (G.then_n (G.ret (G.then_r ?_))))))
  exact G.done (l := [.tmp 4]) rfl rfl ⟨false, rfl, ⟨fun e => (by cases e), fun e => absurd (al_len_of hn1 hn2 e) (by omega)⟩, rfl⟩ (by (repeat' constructor)) (by (repeat' constructor))
 ·refine G.skip (G.then_n (G.seq (G.seq (G.region (G.q (Quiet.move rfl) rfl ?_)))))
  refine G.op (OpSpec.range (f := fun x : Int × (Int × Bs) => (vint x.1, ssV x.2)) (m := s1) rfl Tryz.underlying108 ?he9) (by (repeat' constructor)) rfl ?nx10
  case he9 => rfl
  rintro v L' ⟨it, rfl, rfl⟩
  refine G.nil (G.then_n (G.block ?_))
  refine G.loopK (ι := SsM) (fun q E => E) (fun q => [rangeR (fun x : Int × (Int × Bs) => (vint x.1, ssV x.2)) it r1 s1 q]) (fun q => (∀ x ∈ q, alook s2 x.1 = some x.2) ∧ ∃ rest, s1.Perm (q ++ rest)) (fun q => s1.length - q.length) ([]) (ts := [1, 15]) (.cons rfl (.cons rfl (.nil))) (⟨by simp, s1, .refl _⟩) ⟨rfl, rfl, trivial⟩ (by (repeat' constructor)) ?_
  rintro ss ⟨hall, rest, hm⟩
  have hml := hm.length_eq
  rw [List.length_append] at hml
  refine G.seq (G.region ?_)
  refine G.op (OpSpec.next rfl) (by (repeat' constructor)) rfl ?nx12
  rintro v L' (⟨rfl, hp4, rfl⟩ | ⟨x, rest4, rfl, hp4, rfl⟩)
  ·refine G.rangeDone (by (repeat' constructor)) ?_
   refine G.q (Quiet.extract rfl rfl) rfl (G.nil (G.then_n (G.seq (G.condF rfl (G.exit (G.then_e (G.then_e (G.blk_e (G.then_n (G.seq (G.region (G.q (Quiet.assign rfl) rfl (G.nil (G.then_n (G.ret ?_)))))))))))))))
   exact G.done (l := [.tmp 4]) rfl rfl ⟨true, rfl, ⟨fun _ => eq_of_all hn1 (by omega) (fun x hx => hall x (hp4.mem_iff.1 hx)), fun _ => rfl⟩, rfl⟩ (by (repeat' constructor)) (by (repeat' constructor))
  ·refine G.q (Quiet.extract rfl rfl) rfl (G.nil (G.then_n (G.seq (G.condT rfl (G.skip (G.then_n (G.block (G.seq (G.region ?_)))))))))
   refine G.q (Quiet.entryE (v := .tuple #[vint x.1, ssV x.2]) rfl (by (repeat' constructor)) rfl) rfl ?_
   refine G.q (Quiet.extract rfl rfl) rfl (G.q (Quiet.extract rfl rfl) rfl ?_)
   refine G.op (OpSpec.allocA ze_112) (by (repeat' constructor)) rfl ?nx21
   rintro v L' ⟨b6, rfl, rfl⟩
   refine G.q (Quiet.assign rfl) rfl ?_
   refine G.op (OpSpec.storeA (vs := [vint x.2.1, vstr x.2.2]) rfl rfl ?c123 sz_112 rfl ?c224 ?c325) (by (repeat' constructor)) rfl ?nx26
   case c123 => (first | (simp [isCell]; done) | (simp [isCell, setAll, Value.cells]; done))
   case c224 => (first | (simp; done) | (simp [setAll, spl, Value.cells]; done))
   case c325 => exact nfz0 _ _
   rintro v L' rfl
   refine G.nil ?_
   refine G.ptCast (b := b6) (l' := [vint x.2.1, vstr x.2.2]) (by (repeat' constructor)) rfl ?_
   have hxm : x ∈ s1 := hp4.mem_iff.2 (by simp)
   have hx1 := al_of_mem (k := x.1) (b := x.2) hn1 hxm
   refine G.then_n (G.seq (G.region ?_))
   rcases hy2 : alook s2 x.1 with _ | y
   ·refine G.q (Quiet.move rfl) rfl (G.q (Quiet.move rfl) rfl ?_)
    refine G.q (Quiet.lookupOkN (m := s2) (enc := ssV) (KeyLaw.int Tryz.underlying3) hy2 rfl rfl Tryz.underlying108 ze_112 (by (repeat' constructor)) rfl) rfl ?_
    refine G.q (Quiet.move rfl) rfl (G.q (Quiet.extract rfl rfl) rfl (G.q (Quiet.extract rfl rfl) rfl ?_))
    refine G.op (OpSpec.allocA ze_112) (by (repeat' constructor)) rfl ?nx31
    rintro v L' ⟨b7, rfl, rfl⟩
    refine G.op (OpSpec.storeA (vs := [.int .i64 0, .string (bs [])]) rfl rfl ?c133 sz_112 rfl ?c234 ?c335) (by (repeat' constructor)) rfl ?nx36
    case c133 => (first | (simp [isCell]; done) | (simp [isCell, setAll, Value.cells]; done))
    case c234 => (first | (simp; done) | (simp [setAll, spl, Value.cells]; done))
    case c335 => exact nfz0 _ _
    rintro v L' rfl
    refine G.q (Quiet.assign rfl) rfl (G.nil (G.then_n (G.seq (G.region (G.q (Quiet.move rfl) rfl (G.q (Quiet.not rfl) rfl (G.q (Quiet.move rfl) rfl (G.gskip (t := 29) rfl rfl rfl rfl (G.gskip (t := 29) rfl rfl rfl rfl (G.gskip (t := 29) rfl rfl rfl rfl (G.q (Quiet.pickT rfl rfl) rfl (G.nil (G.then_n (G.condT rfl (G.seq (G.region (G.q (Quiet.assign rfl) rfl (G.nil (G.then_n (G.ret (G.blk_r (G.then_r (G.blk_r (G.then_r ?_))))))))))))))))))))))))
    refine G.rangeDone (by (repeat' constructor)) ?_
    exact G.done (l := [.tmp 4]) rfl rfl ⟨false, rfl, ⟨fun e => (by cases e), fun e => absurd (e x.1) (by rw [hx1, hy2]; simp)⟩, rfl⟩ (by (repeat' constructor)) (by (repeat' constructor))
   ·refine G.q (Quiet.move rfl) rfl (G.q (Quiet.move rfl) rfl ?_)
    refine G.q (Quiet.lookupOkY (m := s2) (enc := ssV) (KeyLaw.int Tryz.underlying3) hy2 rfl rfl Tryz.underlying108 ze_112 (by (repeat' constructor)) rfl) rfl ?_
    refine G.q (Quiet.move rfl) rfl (G.q (Quiet.extract rfl rfl) rfl (G.q (Quiet.extract rfl rfl) rfl ?_))
    refine G.op (OpSpec.allocA ze_112) (by (repeat' constructor)) rfl ?nx44
    rintro v L' ⟨b7, rfl, rfl⟩
    refine G.op (OpSpec.storeA (vs := [vint y.1, vstr y.2]) rfl rfl ?c146 sz_112 rfl ?c247 ?c348) (by (repeat' constructor)) rfl ?nx49
    case c146 => (first | (simp [isCell]; done) | (simp [isCell, setAll, Value.cells]; done))
    case c247 => (first | (simp; done) | (simp [setAll, spl, Value.cells]; done))
    case c348 => exact nfz0 _ _
    rintro v L' rfl
    refine G.q (Quiet.assign rfl) rfl (G.nil ?_)
    refine G.ptCast (b := b7) (l' := [vint y.1, vstr y.2]) (by (repeat' constructor)) rfl ?_
    refine G.then_n (G.seq (G.region (G.q (Quiet.move rfl) rfl (G.q (Quiet.not rfl) rfl (G.q (Quiet.move rfl) rfl (G.grun (t := 29) rfl rfl rfl ?_))))))
    refine G.q (Quiet.loadAs (vs := [vint x.2.1, vstr x.2.2]) rfl ag_112 (by (repeat' constructor)) (by simp) rfl) rfl ?_
    refine G.grun (t := 29) rfl rfl rfl ?_
    refine G.q (Quiet.loadAs (vs := [vint y.1, vstr y.2]) rfl ag_112 (by (repeat' constructor)) (by simp) rfl) rfl ?_
    refine G.grun (t := 29) rfl rfl rfl ?_
    refine G.q (Quiet.structNe (r := decide (x.2 = y)) rfl rfl (by kernel_rfl) (ss_eq 9998 x.2 y)) rfl ?_
    refine G.q (Quiet.pickF rfl rfl) rfl (G.nil (G.then_n ?_))
    refine G.condN rfl (fun h33 => ?_) (fun h33 => ?_)
    ·refine G.seq (G.region (G.q (Quiet.assign rfl) rfl (G.nil (G.then_n (G.ret (G.blk_r (G.then_r (G.blk_r (G.then_r ?_)))))))))
     refine G.rangeDone (by (repeat' constructor)) ?_
     exact G.done (l := [.tmp 4]) rfl rfl ⟨false, rfl, ⟨fun e => (by cases e), fun e => absurd (e x.1) (by rw [hx1, hy2]; intro g; exact h33 (Option.some.inj g))⟩, rfl⟩ (by (repeat' constructor)) (by (repeat' constructor))
    ·have h7_x := h33.symm
     refine G.skip (G.blk_n (G.then_n ?_))
     have hl := hp4.length_eq
     simp at hl
     exact G.roundK ((ss ++ [x])) (⟨fun z hz => by rcases List.mem_append.1 hz with hz | hz; exact hall z hz; (have hz : z = x := by simpa using hz); subst hz; rw [hy2, h7_x], ⟨_, by simpa using hp4⟩⟩) (by simp; omega) ⟨rfl, rfl, trivial⟩ (by (repeat' constructor)) (by ((repeat (apply Have.cons; (repeat (first | exact Pick.here | apply Pick.there)))); apply Have.base; repeat' constructor))

theorem nd_all {a b : NmM} (ha : (a.map (·.1)).Nodup) (hl : a.length = b.length) (h : ∀ x ∈ a, ∃ y, alook b x.1 = some y ∧ y.2.2 = x.2.2.2) : ∀ p, (alook a p).map (fun x : Nm => x.2.2) = (alook b p).map (fun x : Nm => x.2.2) := fun p => by
  rcases e : alook a p with _ | y
  · rw [keys_same ha hl (fun x hx => by obtain ⟨y, hy, -⟩ := h x hx; rw [hy]; rfl) e]
  · obtain ⟨z, hz, hq⟩ := h (p, y) (al_mem e)
    dsimp only at hz hq
    rw [hz]; simp [hq]
theorem nd_len {a b : NmM} (ha : (a.map (·.1)).Nodup) (hb : (b.map (·.1)).Nodup) (h : ∀ p, (alook a p).map (fun x : Nm => x.2.2) = (alook b p).map (fun x : Nm => x.2.2)) : a.length = b.length := by
  have := ((List.perm_ext_iff_of_nodup ha hb).2 fun p => by
    rw [← al_isSome, ← al_isSome]
    have := congrArg Option.isSome (h p)
    rw [Option.isSome_map, Option.isSome_map] at this
    rw [this]).length_eq
  simpa using this
set_option maxRecDepth 100000 in
theorem mapsef_spec (r1 r2 : Nat) (m1 m2 : NmM) (hn1 : (m1.map (·.1)).Nodup) (hn2 : (m2.map (·.1)).Nodup) (hacl : ∀ x ∈ m1, x.2.2.2.acl.length ≤ 1048576) : Fn Tryz.prog 54 #[.map (some r1), .map (some r2), .func (.func 55) #[] #[]] [mapR r1 (ndE m1), mapR r2 (ndE m2), bigR inN m1, bigR inN m2] fun v L => ∃ b, v = .bool b ∧ (b = true ↔ ∀ p, (alook m1 p).map (fun x : Nm => x.2.2) = (alook m2 p).map (fun x : Nm => x.2.2)) ∧ L = [mapR r1 (ndE m1), mapR r2 (ndE m2), bigR inN m1, bigR inN m2] := by
 refine Fn.intro (vs := [.map (some r1), .map (some r2), .func (.func 55) #[] #[]]) Tryz.func54 rfl rfl ?_
 intro F W
 refine G.seq (G.region (G.q (Quiet.assign rfl) rfl (G.nil (G.then_n (G.seq (G.seq (G.region (G.q (Quiet.move rfl) rfl ?_))))))))
 refine G.q (Quiet.to (Quiet.maplen rfl Tryz.underlying107 rfl (by (repeat' constructor))) (show _ = vint m1.length by simp [ndE])) rfl ?_
 refine G.q (Quiet.move rfl) rfl ?_
 refine G.q (Quiet.to (Quiet.maplen rfl Tryz.underlying107 rfl (by (repeat' constructor))) (show _ = vint m2.length by simp [ndE])) rfl ?_
 refine G.q (Quiet.int rfl rfl rfl) rfl (G.nil (G.then_n ?_))
 refine G.condN rfl (fun h15 => ?_) (fun h15 => ?_)
 ·refine G.seq (G.region (G.q (Quiet.assign rfl) rfl (G.nil (G.then_n (G.ret (G.then_r ?_))))))
  exact G.done (l := [.tmp 6]) rfl rfl ⟨false, rfl, ⟨fun e => (by cases e), fun e => absurd (nd_len hn1 hn2 e) (by omega)⟩, rfl⟩ (by (repeat' constructor)) (by (repeat' constructor))
 ·refine G.skip (G.then_n (G.seq (G.seq (G.region (G.q (Quiet.move rfl) rfl ?_)))))
  refine G.op (OpSpec.range (f := fun x : Bs × Nm => (vstr x.1, ndV x.2)) (m := m1) rfl Tryz.underlying107 ?he9) (by (repeat' constructor)) rfl ?nx10
  case he9 => rfl
  rintro v L' ⟨it, rfl, rfl⟩
  refine G.nil (G.then_n (G.block ?_))
  refine G.loopK (ι := NmM) (fun q E => E) (fun q => [rangeR (fun x : Bs × Nm => (vstr x.1, ndV x.2)) it r1 m1 q]) (fun q => (∀ x ∈ q, ∃ y, alook m2 x.1 = some y ∧ y.2.2 = x.2.2.2) ∧ ∃ rest, m1.Perm (q ++ rest)) (fun q => m1.length - q.length) ([]) (ts := [1, 2, 17]) (.cons rfl (.cons rfl (.cons rfl (.nil)))) (⟨by simp, m1, .refl _⟩) ⟨rfl, rfl, rfl, trivial⟩ (by (repeat' constructor)) ?_
  rintro ss ⟨hall, rest, hm⟩
  have hml := hm.length_eq
  rw [List.length_append] at hml
  refine G.seq (G.region ?_)
  refine G.op (OpSpec.next rfl) (by (repeat' constructor)) rfl ?nx12
  rintro v L' (⟨rfl, hp4, rfl⟩ | ⟨x, rest4, rfl, hp4, rfl⟩)
  ·refine G.rangeDone (by (repeat' constructor)) ?_
   refine G.q (Quiet.extract rfl rfl) rfl (G.nil (G.then_n (G.seq (G.condF rfl (G.exit (G.then_e (G.then_e (G.blk_e (G.then_n (G.seq (G.region (G.q (Quiet.assign rfl) rfl (G.nil (G.then_n (G.ret ?_)))))))))))))))
   exact G.done (l := [.tmp 6]) rfl rfl ⟨true, rfl, ⟨fun _ => nd_all hn1 (by omega) (fun x hx => hall x (hp4.mem_iff.1 hx)), fun _ => rfl⟩, rfl⟩ (by (repeat' constructor)) (by (repeat' constructor))
  ·refine G.q (Quiet.extract rfl rfl) rfl (G.nil (G.then_n (G.seq (G.condT rfl (G.skip (G.then_n (G.block (G.seq (G.region ?_)))))))))
   refine G.q (Quiet.entryE (v := .tuple #[vstr x.1, ndV x.2]) rfl (by (repeat' constructor)) rfl) rfl ?_
   refine G.q (Quiet.extract rfl rfl) rfl (G.q (Quiet.extract rfl rfl) rfl (G.q (Quiet.assign rfl) rfl (G.q (Quiet.assign rfl) rfl (G.nil ?_))))
   have hxm : x ∈ m1 := hp4.mem_iff.2 (by simp)
   have hx1 := al_of_mem (k := x.1) (b := x.2) hn1 hxm
   refine G.then_n (G.seq (G.region ?_))
   rcases hy2 : alook m2 x.1 with _ | y
   ·refine G.q (Quiet.move rfl) rfl (G.q (Quiet.move rfl) rfl ?_)
    refine G.q (Quiet.lookupOkN (m := m2) (enc := ndV) (KeyLaw.str Tryz.underlying9) hy2 rfl rfl Tryz.underlying107 ze_102 (by (repeat' constructor)) rfl) rfl ?_
    refine G.q (Quiet.move rfl) rfl (G.q (Quiet.extract rfl rfl) rfl (G.q (Quiet.extract rfl rfl) rfl (G.q (Quiet.assign rfl) rfl (G.q (Quiet.assign rfl) rfl (G.nil (G.then_n (G.seq (G.region (G.q (Quiet.move rfl) rfl (G.q (Quiet.not rfl) rfl (G.q (Quiet.move rfl) rfl (G.gskip (t := 31) rfl rfl rfl rfl (G.gskip (t := 31) rfl rfl rfl rfl (G.gskip (t := 31) rfl rfl rfl rfl (G.gskip (t := 31) rfl rfl rfl rfl (G.gskip (t := 31) rfl rfl rfl rfl (G.q (Quiet.pickT rfl rfl) rfl (G.nil (G.then_n (G.condT rfl (G.seq (G.region (G.q (Quiet.assign rfl) rfl (G.nil (G.then_n (G.ret (G.blk_r (G.then_r (G.blk_r (G.then_r ?_))))))))))))))))))))))))))))))
    refine G.rangeDone (by (repeat' constructor)) ?_
    exact G.done (l := [.tmp 6]) rfl rfl ⟨false, rfl, ⟨fun e => (by cases e), fun e => absurd (e x.1) (by rw [hx1, hy2]; simp)⟩, rfl⟩ (by (repeat' constructor)) (by (repeat' constructor))
   ·refine G.q (Quiet.move rfl) rfl (G.q (Quiet.move rfl) rfl ?_)
    refine G.q (Quiet.lookupOkY (m := m2) (enc := ndV) (KeyLaw.str Tryz.underlying9) hy2 rfl rfl Tryz.underlying107 ze_102 (by (repeat' constructor)) rfl) rfl ?_
    refine G.q (Quiet.move rfl) rfl (G.q (Quiet.extract rfl rfl) rfl (G.q (Quiet.extract rfl rfl) rfl (G.q (Quiet.assign rfl) rfl (G.q (Quiet.assign rfl) rfl (G.nil (G.then_n (G.seq (G.region (G.q (Quiet.move rfl) rfl (G.q (Quiet.not rfl) rfl (G.q (Quiet.move rfl) rfl ?_)))))))))))
    refine G.bigTake hx1 (by (repeat' constructor)) ?_
    refine G.bigTake hy2 (by (repeat' constructor)) ?_
    refine G.grun (t := 31) rfl rfl rfl (G.q (Quiet.move rfl) rfl (G.grun (t := 31) rfl rfl rfl (G.q (Quiet.move rfl) rfl (G.grun (t := 31) rfl rfl rfl (G.q (Quiet.move rfl) rfl (G.grun (t := 31) rfl rfl rfl ?_))))))
    refine G.op (OpSpec.callV Tryz.func55 rfl rfl (us := []) (vs := [_, _]) (ws := []) rfl rfl (trsame1_spec x.1 x.1 x.2 y (hacl _ hxm))) (by (repeat' constructor)) rfl ?nx34
    rintro v L' ⟨rfl, rfl⟩
    refine G.bigPut (f := inN) (m := m1) x.1 x.2 rfl (by (repeat' constructor)) ?_
    refine G.bigPut (f := inN) (m := m2) x.1 y rfl (by (repeat' constructor)) ?_
    rw [aset_self hx1, aset_self hy2]
    refine G.grun (t := 31) rfl rfl rfl (G.q (Quiet.not rfl) rfl (G.q (Quiet.pickF rfl rfl) rfl (G.nil (G.then_n ?_))))
    refine G.condN rfl (fun h37 => ?_) (fun h37 => ?_)
    ·refine G.seq (G.region (G.q (Quiet.assign rfl) rfl (G.nil (G.then_n (G.ret (G.blk_r (G.then_r (G.blk_r (G.then_r ?_)))))))))
     refine G.rangeDone (by (repeat' constructor)) ?_
     exact G.done (l := [.tmp 6]) rfl rfl ⟨false, rfl, ⟨fun e => (by cases e), fun e => absurd (e x.1) (by rw [hx1, hy2]; intro g; exact h37 (Option.some.inj g))⟩, rfl⟩ (by (repeat' constructor)) (by (repeat' constructor))
    ·have h35 := h37
     refine G.skip (G.blk_n (G.then_n ?_))
     have hl := hp4.length_eq
     simp at hl
     exact G.roundK ((ss ++ [x])) (⟨fun z hz => by rcases List.mem_append.1 hz with hz | hz; exact hall z hz; (have hz : z = x := by simpa using hz); subst hz; exact ⟨y, hy2, h35.symm⟩, ⟨_, by simpa using hp4⟩⟩) (by simp; omega) ⟨rfl, rfl, rfl, trivial⟩ (by (repeat' constructor)) (by ((repeat (apply Have.cons; (repeat (first | exact Pick.here | apply Pick.there)))); apply Have.base; repeat' constructor))

set_option maxRecDepth 100000 in
theorem trsame_spec (t u : Nat) (τ υ : Tr) (N M : Nat) (ho : τ.Ok N) (hυ : υ.Ok M) : Fn Tryz.prog 23 #[vptr t, vptr u] [treeR t τ, treeR u υ] fun v L => v = .bool (decide (τ = υ)) ∧ L = [treeR t τ, treeR u υ] := by
 refine Fn.intro (vs := [vptr t, vptr u]) Tryz.func23 rfl rfl ?_
 intro F W
 refine G.trOpen (τ := τ) (by (repeat' constructor)) fun rn rs m s hI => ?_
 refine G.trOpen (t := u) (τ := υ) (by (repeat' constructor)) fun rn2 rs2 m2 s2 hI2 => ?_
 have hts := tr_same ho hυ hI hI2
 refine G.seq (G.region (G.q (Quiet.assign rfl) rfl (G.nil (G.then_n (G.seq ?_)))))
 refine G.draw [22, 33] [[0, 1, 2, 3, 4, 5, 6, 7, 8, 9, 10, 11, 12, 13, 14, 15, 16, 17, 18, 19, 20, 21, 22], [23, 24, 25, 26, 27, 28, 29, 30, 31, 32, 33], [34, 35]] mixed (by kernel_rfl) ?_
 refine Phases.go [] (by (repeat' constructor)) ?_
 refine D.qw [1, 2, 3, 4, 5, 6, 7, 8, 9, 10, 11, 12, 13, 14, 15, 16, 17, 18, 19, 20, 21, 22] rfl (by kernel_rfl) (Quiet.move rfl) ?_
 refine D.qw [2, 3, 4, 5, 6, 7, 8, 9, 10, 11, 12, 13, 14, 15, 16, 17, 18, 19, 20, 21, 22] rfl (by kernel_rfl) (Quiet.as (v' := .bool true) (by rfl) (Quiet.ptrne rfl rfl Tryz.underlying28)) ?_
 refine D.qw [3, 4, 5, 6, 7, 8, 9, 10, 11, 12, 13, 14, 15, 16, 17, 18, 19, 20, 21, 22] rfl (by kernel_rfl) (Quiet.move rfl) ?_
 refine D.gqw [4, 5, 6, 11, 12, 13, 14, 15, 16, 17, 18, 19, 20, 21, 22] (t := 7) rfl rfl rfl (by kernel_rfl) (Quiet.move rfl) ?_
 refine D.gqw [5, 6, 11, 12, 13, 14, 15, 16, 17, 18, 19, 20, 21, 22] (t := 7) rfl rfl rfl (by kernel_rfl) (Quiet.nilp rfl) ?_
 refine D.gqw [6, 11, 12, 13, 14, 15, 16, 17, 18, 19, 20, 21, 22] (t := 7) rfl rfl rfl (by kernel_rfl) (Quiet.fieldAddr rfl fo_110_2) ?_
 refine D.gqw [11, 12, 13, 14, 15, 16, 17, 18, 19, 20, 21, 22] (t := 7) rfl rfl rfl (by kernel_rfl) (Quiet.load rfl ag_3 (by (repeat' constructor)) (rfl)) ?_
 refine D.gqw [8, 9, 10, 11, 12, 13, 14, 15, 16, 17, 18, 19, 20, 21, 22] (t := 7) rfl rfl rfl (by kernel_rfl) (Quiet.move rfl) ?_
 refine D.gqw [9, 10, 11, 12, 13, 14, 15, 16, 17, 18, 19, 20, 21, 22] (t := 7) rfl rfl rfl (by kernel_rfl) (Quiet.nilp rfl) ?_
 refine D.gqw [10, 11, 12, 13, 14, 15, 16, 17, 18, 19, 20, 21, 22] (t := 7) rfl rfl rfl (by kernel_rfl) (Quiet.fieldAddr rfl fo_110_2) ?_
 refine D.gqw [11, 12, 13, 14, 15, 16, 17, 18, 19, 20, 21, 22] (t := 7) rfl rfl rfl (by kernel_rfl) (Quiet.load rfl ag_3 (by (repeat' constructor)) (rfl)) ?_
 refine D.gqw [12, 13, 14, 15, 16, 17, 18, 19, 20, 21, 22] (t := 7) rfl rfl rfl (by kernel_rfl) (Quiet.int rfl rfl rfl) ?_
 refine D.qw [13, 14, 15, 16, 17, 18, 19, 20, 21, 22] rfl (by kernel_rfl) (Quiet.pickT rfl rfl) ?_
 refine D.qw [14, 15, 16, 17, 18, 19, 20, 21, 22] rfl (by kernel_rfl) (Quiet.move rfl) ?_
 refine D.dec (t := 18) rfl (fun h1_18 => ?_) (fun h1_18 => ?_)
 ·refine D.kDT (t := 16) rfl h1_18 (D.kDT (t := 17) rfl h1_18 ?_)
  refine D.gqw [15, 16, 17, 22] (t := 18) rfl rfl rfl (by kernel_rfl) (Quiet.move rfl) ?_
  refine D.gqw [16, 17, 22] (t := 18) rfl rfl rfl (by kernel_rfl) (Quiet.nilp rfl) ?_
  refine D.gqw [17, 22] (t := 18) rfl rfl rfl (by kernel_rfl) (Quiet.fieldAddr rfl fo_110_1) ?_
  refine D.gqw [22] (t := 18) rfl rfl rfl (by kernel_rfl) (Quiet.load rfl ag_108 (by (repeat' constructor)) (rfl)) ?_
  refine D.gqw [19, 20, 21, 22] (t := 18) rfl rfl rfl (by kernel_rfl) (Quiet.move rfl) ?_
  refine D.gqw [20, 21, 22] (t := 18) rfl rfl rfl (by kernel_rfl) (Quiet.nilp rfl) ?_
  refine D.gqw [21, 22] (t := 18) rfl rfl rfl (by kernel_rfl) (Quiet.fieldAddr rfl fo_110_1) ?_
  refine D.gqw [22] (t := 18) rfl rfl rfl (by kernel_rfl) (Quiet.load rfl ag_108 (by (repeat' constructor)) (rfl)) ?_
  refine D.gh (t := 18) rfl rfl rfl (by kernel_rfl) (OpSpec.call Tryz.func53 rfl rfl (vs := [_, _]) rfl (mapseq_spec rs rs2 s s2 hI.skeys hI2.skeys)) (by (repeat' constructor)) ?nx21
  rintro v L' ⟨b1, rfl, hb1, rfl⟩
  refine D.ph ?_
  refine Phases.go [] (by (repeat' constructor)) ?_
  refine D.qw [24, 25, 26, 27, 28, 29, 30, 31, 32, 33] rfl (by kernel_rfl) (Quiet.pickT rfl rfl) ?_
  refine D.qw [25, 26, 27, 28, 29, 30, 31, 32, 33] rfl (by kernel_rfl) (Quiet.move rfl) ?_
  refine D.bool (t := 29) rfl (fun h1_29 => ?_) (fun h1_29 => ?_)
  ·refine D.kB (t := 27) rfl h1_29 (D.kB (t := 28) rfl h1_29 ?_)
   refine D.gqw [26, 27, 28, 33] (t := 29) rfl rfl rfl (by kernel_rfl) (Quiet.move rfl) ?_
   refine D.gqw [27, 28, 33] (t := 29) rfl rfl rfl (by kernel_rfl) (Quiet.nilp rfl) ?_
   refine D.gqw [28, 33] (t := 29) rfl rfl rfl (by kernel_rfl) (Quiet.fieldAddr rfl fo_110_0) ?_
   refine D.gqw [33] (t := 29) rfl rfl rfl (by kernel_rfl) (Quiet.load rfl ag_107 (by (repeat' constructor)) (rfl)) ?_
   refine D.gqw [30, 31, 32, 33] (t := 29) rfl rfl rfl (by kernel_rfl) (Quiet.move rfl) ?_
   refine D.gqw [31, 32, 33] (t := 29) rfl rfl rfl (by kernel_rfl) (Quiet.nilp rfl) ?_
   refine D.gqw [32, 33] (t := 29) rfl rfl rfl (by kernel_rfl) (Quiet.fieldAddr rfl fo_110_0) ?_
   refine D.gqw [33] (t := 29) rfl rfl rfl (by kernel_rfl) (Quiet.load rfl ag_107 (by (repeat' constructor)) (rfl)) ?_
   refine D.gh (t := 29) rfl rfl rfl (by kernel_rfl) (OpSpec.call Tryz.func54 rfl rfl (vs := [_, _, _]) rfl (mapsef_spec rn rn2 m m2 hI.keys hI2.keys (fun x hx => hI.acl ho (al_of_mem (k := x.1) (b := x.2) hI.keys hx)))) (by (repeat' constructor)) ?nx31
   rintro v L' ⟨b2, rfl, hb2, rfl⟩
   refine D.ph ?_
   refine Phases.go [] (by (repeat' constructor)) ?_
   refine D.qw [35] rfl (by kernel_rfl) (Quiet.pickT rfl rfl) ?_
   refine D.qw [] rfl (by kernel_rfl) (Quiet.assign rfl) ?_
   refine D.ph (Phases.fin (G.then_n (G.ret ?_)))
   refine G.trFold (τ := τ) hI (by (repeat' constructor)) rfl rfl rfl ?_
   refine G.trFold (t := u) (τ := υ) hI2 (by (repeat' constructor)) rfl rfl rfl ?_
   exact G.done (l := [.tmp 4]) rfl rfl ⟨by congr 1; exact Bool.eq_iff_iff.2 (by rw [decide_eq_true_iff, hts]; exact ⟨fun e => ⟨h1_18, hb1.1 h1_29, hb2.1 e⟩, fun e => hb2.2 e.2.2⟩), rfl⟩ (by (repeat' constructor)) (by (repeat' constructor))
  ·refine D.kB (t := 27) rfl h1_29 (D.kB (t := 28) rfl h1_29 ?_)
   refine D.gs (t := 29) rfl rfl rfl rfl (by kernel_rfl) ?_
   refine D.gs (t := 29) rfl rfl rfl rfl (by kernel_rfl) ?_
   refine D.gs (t := 29) rfl rfl rfl rfl (by kernel_rfl) ?_
   refine D.gs (t := 29) rfl rfl rfl rfl (by kernel_rfl) ?_
   refine D.gs (t := 29) rfl rfl rfl rfl (by kernel_rfl) ?_
   refine D.gs (t := 29) rfl rfl rfl rfl (by kernel_rfl) ?_
   refine D.gs (t := 29) rfl rfl rfl rfl (by kernel_rfl) ?_
   refine D.gs (t := 29) rfl rfl rfl rfl (by kernel_rfl) ?_
   refine D.gs (t := 29) rfl rfl rfl rfl (by kernel_rfl) ?_
   refine D.ph ?_
   refine Phases.go [] (by (repeat' constructor)) ?_
   refine D.qw [35] rfl (by kernel_rfl) (Quiet.pickF rfl rfl) ?_
   refine D.qw [] rfl (by kernel_rfl) (Quiet.assign rfl) ?_
   refine D.ph (Phases.fin (G.then_n (G.ret ?_)))
   refine G.trFold (τ := τ) hI (by (repeat' constructor)) rfl rfl rfl ?_
   refine G.trFold (t := u) (τ := υ) hI2 (by (repeat' constructor)) rfl rfl rfl ?_
   exact G.done (l := [.tmp 4]) rfl rfl ⟨by rw [decide_eq_false (fun e => by have := hb1.2 (hts.1 e).2.1; rw [h1_29] at this; cases this)], rfl⟩ (by (repeat' constructor)) (by (repeat' constructor))
 ·refine D.kDF (t := 16) rfl h1_18 (D.kDF (t := 17) rfl h1_18 ?_)
  refine D.gs (t := 18) rfl rfl rfl rfl (by kernel_rfl) ?_
  refine D.gs (t := 18) rfl rfl rfl rfl (by kernel_rfl) ?_
  refine D.gs (t := 18) rfl rfl rfl rfl (by kernel_rfl) ?_
  refine D.gs (t := 18) rfl rfl rfl rfl (by kernel_rfl) ?_
  refine D.gs (t := 18) rfl rfl rfl rfl (by kernel_rfl) ?_
  refine D.gs (t := 18) rfl rfl rfl rfl (by kernel_rfl) ?_
  refine D.gs (t := 18) rfl rfl rfl rfl (by kernel_rfl) ?_
  refine D.gs (t := 18) rfl rfl rfl rfl (by kernel_rfl) ?_
  refine D.gs (t := 18) rfl rfl rfl rfl (by kernel_rfl) ?_
  refine D.ph ?_
  refine Phases.go [] (by (repeat' constructor)) ?_
  refine D.qw [24, 25, 26, 27, 28, 29, 30, 31, 32, 33] rfl (by kernel_rfl) (Quiet.pickF rfl rfl) ?_
  refine D.qw [25, 26, 27, 28, 29, 30, 31, 32, 33] rfl (by kernel_rfl) (Quiet.move rfl) ?_
  refine D.gs (t := 29) rfl rfl rfl rfl (by kernel_rfl) ?_
  refine D.gs (t := 29) rfl rfl rfl rfl (by kernel_rfl) ?_
  refine D.gs (t := 29) rfl rfl rfl rfl (by kernel_rfl) ?_
  refine D.gs (t := 29) rfl rfl rfl rfl (by kernel_rfl) ?_
  refine D.gs (t := 29) rfl rfl rfl rfl (by kernel_rfl) ?_
  refine D.gs (t := 29) rfl rfl rfl rfl (by kernel_rfl) ?_
  refine D.gs (t := 29) rfl rfl rfl rfl (by kernel_rfl) ?_
  refine D.gs (t := 29) rfl rfl rfl rfl (by kernel_rfl) ?_
  refine D.gs (t := 29) rfl rfl rfl rfl (by kernel_rfl) ?_
  refine D.ph ?_
  refine Phases.go [] (by (repeat' constructor)) ?_
  refine D.qw [35] rfl (by kernel_rfl) (Quiet.pickF rfl rfl) ?_
  refine D.qw [] rfl (by kernel_rfl) (Quiet.assign rfl) ?_
  refine D.ph (Phases.fin (G.then_n (G.ret ?_)))
  refine G.trFold (τ := τ) hI (by (repeat' constructor)) rfl rfl rfl ?_
  refine G.trFold (t := u) (τ := υ) hI2 (by (repeat' constructor)) rfl rfl rfl ?_
  exact G.done (l := [.tmp 4]) rfl rfl ⟨by rw [decide_eq_false (fun e => h1_18 (hts.1 e).1)], rfl⟩ (by (repeat' constructor)) (by (repeat' constructor))

end Go.Proofs.YtnnbelmpbmfdnaaGreatDoor

/- Own work, by program: package tree: Apply, Stat, Get: walked. -/

namespace Go.Proofs.YtnnbelmpbmfdnaaGreatDoor
open Go
set_option maxRecDepth 100000 in
theorem trapply_spec (t : Nat) (τ : Tr) (zx ses xid : Int) (x : Pt) (subs : List Pt) (p : HP) (hx : TxA p x subs) (N : Nat) (ho : τ.Ok N) (hN : N + subs.length ≤ 1099511627776) : Fn Tryz.prog 14 #[vptr t, .agg ([vint zx, vint ses, vint xid] ++ ptC x).toArray] [treeR t τ, p] fun v L => ∃ u e, v = .tuple #[u, vint e] ∧ e = (applyZ τ zx x subs).2.2 ∧ (∃ a c, u = .slice a (applyZ τ zx x subs).2.1.length c) ∧ L = [treeR t (applyZ τ zx x subs).1, p, slR 75 3 u (applyZ τ zx x subs).2.1.length ((applyZ τ zx x subs).2.1.flatMap evC)] := by
 refine Fn.intro (vs := [vptr t, .agg ([vint zx, vint ses, vint xid] ++ ptC x).toArray]) Tryz.func14 rfl rfl ?_
 intro F W
 refine G.rdAny (p := p) hx.rd (by (repeat' constructor)) fun asb csb esub _ => ?_
 have hrd := hx.rd
 rw [esub] at hrd
 have hfs := hx.few
 refine G.seq (G.region ?_)
 refine G.op (OpSpec.box rfl) (by (repeat' constructor)) rfl ?nx1
 rintro v L' ⟨be, rfl, rfl⟩
 refine G.q (Quiet.assign rfl) rfl (G.q (Quiet.assign rfl) rfl (G.nil ?_))
 refine G.ptCast (b := be) (l' := ([vint zx, vint ses, vint xid] ++ ptC x)) (by (repeat' constructor)) rfl ?_
 refine G.then_n (G.seq (G.region (G.q (Quiet.assign rfl) rfl (G.nil (G.then_n (G.seq (G.region (G.q (Quiet.fieldAddr rfl fo_39_3) rfl ?_))))))))
 refine G.q (Quiet.loadAs (vs := ptC x) rfl ag_37 (by (repeat' constructor)) (by simp [ptC]) rfl) rfl ?_
 refine G.op (OpSpec.allocA ze_37) (by (repeat' constructor)) rfl ?nx8
 rintro v L' ⟨bx, rfl, rfl⟩
 refine G.op (OpSpec.storeA rfl rfl ?c10 sz_37 ?c13 ?c11 ?c12) (by (repeat' constructor)) rfl ?nx14
 case c10 => exact hx.own.all
 case c13 => rfl
 case c11 => simp [ptC]
 case c12 => exact nfz0 _ _
 rintro v L' rfl
 refine G.nil ?_
 refine G.ptCast (b := bx) (l' := ptC x) (by (repeat' constructor)) rfl ?_
 refine G.then_n (G.seq ?_)
 refine G.trOpen (τ := τ) (by (repeat' constructor)) fun rn rs m s hI => ?_
 refine G.region (G.q (Quiet.move rfl) rfl (G.q (Quiet.fieldAddr rfl fo_39_0) rfl ?_))
 refine G.q (Quiet.load rfl ag_3 (by (repeat' constructor)) (rfl)) rfl ?_
 refine G.q (Quiet.nilp rfl) rfl (G.q (Quiet.fieldAddr rfl fo_110_2) rfl ?_)
 refine G.op (OpSpec.store rfl rfl rfl sz_3 ?c20 ?c21) (by (repeat' constructor)) rfl ?nx22
 case c20 => first | decide | (simp; omega) | simp
 case c21 => exact nfz0 _ _
 rintro v L' rfl
 refine G.nil ?_
 refine G.trFold (τ := (zxT τ zx)) (hI.zx zx) (by (repeat' constructor)) rfl rfl rfl ?_
 refine G.then_n (G.seq (G.seq (G.region (G.q (Quiet.fieldAddr rfl fo_37_0) rfl ?_))))
 refine G.q (Quiet.load rfl ag_3 (by (repeat' constructor)) (rfl)) rfl ?_
 refine G.nil (G.then_n (G.block (G.seq (G.region (G.q (Quiet.int rfl rfl rfl) rfl (G.q (Quiet.assign rfl) rfl (G.nil (G.then_n ?_))))))))
 refine G.condD rfl (fun h26 => ?_) (fun h26 => ?_)
 ·refine G.seq (G.region (G.q (Quiet.fieldAddr rfl fo_37_4) rfl ?_))
  refine G.q (Quiet.load rfl ag_3 (by (repeat' constructor)) (rfl)) rfl ?_
  refine G.q (Quiet.int rfl rfl rfl) rfl (G.nil (G.then_n ?_))
  refine G.condD rfl (fun h30 => ?_) (fun h30 => ?_)
  ·refine G.trOpen (τ := (zxT τ zx)) (by (repeat' constructor)) fun rn rs m s hI => ?_
   refine G.draw [11] [[0, 1, 2, 3, 4, 5, 6, 7, 8, 9, 10, 11]] mixed (by kernel_rfl) ?_
   refine Phases.go [] (by (repeat' constructor)) ?_
   refine D.qw [1, 2, 3, 11] rfl (by kernel_rfl) (Quiet.move rfl) ?_
   refine D.qw [2, 3, 11] rfl (by kernel_rfl) (Quiet.nilp rfl) ?_
   refine D.qw [3, 11] rfl (by kernel_rfl) (Quiet.fieldAddr rfl fo_110_1) ?_
   refine D.qw [11] rfl (by kernel_rfl) (Quiet.load rfl ag_108 (by (repeat' constructor)) (rfl)) ?_
   refine D.qw [5, 11] rfl (by kernel_rfl) (Quiet.fieldAddr rfl fo_37_4) ?_
   refine D.qw [11] rfl (by kernel_rfl) (Quiet.load rfl ag_3 (by (repeat' constructor)) (rfl)) ?_
   refine D.qw [7, 10, 11] rfl (by kernel_rfl) (Quiet.fieldAddr rfl fo_37_5) ?_
   refine D.qw [10, 11] rfl (by kernel_rfl) (Quiet.load rfl ag_3 (by (repeat' constructor)) (rfl)) ?_
   refine D.qw [9, 10, 11] rfl (by kernel_rfl) (Quiet.fieldAddr rfl fo_37_2) ?_
   refine D.qw [10, 11] rfl (by kernel_rfl) (Quiet.load rfl ag_9 (by (repeat' constructor)) (rfl)) ?_
   refine D.qw [11] rfl (by kernel_rfl) (Quiet.build (us := [(0, _), (1, _)]) fl_112 ze_112 rfl rfl (by simp [isCell])) ?_
   refine D.h rfl (by kernel_rfl) (OpSpec.mapSet (m := s) (enc := ssV) (v := (x.num, x.data)) (k := x.own) (KeyLaw.int Tryz.underlying3) rfl rfl rfl Tryz.underlying108 ?he40) (by (repeat' constructor)) ?nx41
   case he40 => rfl
   rintro v L' rfl
   refine D.ph (Phases.fin ?_)
   refine G.trFold (τ := (openS (zxT τ zx) x.own x.num x.data)) (hI.open x.own x.num x.data) (by (repeat' constructor)) rfl rfl rfl ?_
   refine G.blk_n (G.then_n (G.seq (G.region (G.q (Quiet.move rfl) rfl (G.q (Quiet.assign rfl) rfl (G.q (Quiet.assign rfl) rfl (G.nil (G.then_n (G.ret (G.add (slR_nil 75 3) ?_))))))))))
   have hc : applyZ τ zx x subs = (openS (zxT τ zx) x.own x.num x.data, ([], 0)) := by unfold applyZ; dsimp only; rw [if_pos h26, if_pos (by omega)]
   refine G.trCast (τ' := (applyZ τ zx x subs).1) (by (repeat' constructor)) (by rw [hc]) ?_
   refine G.slCast (T := 75) (sz := 3) (m' := (applyZ τ zx x subs).2.1.length) (xs' := (applyZ τ zx x subs).2.1.flatMap evC) (by (repeat' constructor)) (by (rw [hc]; try rfl)) (by (rw [hc]; try rfl)) ?_
   exact G.done (l := [.tmp 4, .tmp 5]) rfl rfl ⟨_, _, rfl, by rw [hc], ⟨_, _, by (rw [hc]; try rfl)⟩, rfl⟩ (by (repeat' constructor)) (by (repeat' constructor))
  ·refine G.skip (G.blk_n (G.then_n (G.seq (G.region (G.q (Quiet.move rfl) rfl (G.q (Quiet.assign rfl) rfl (G.q (Quiet.assign rfl) rfl (G.nil (G.then_n (G.ret (G.add (slR_nil 75 3) ?_)))))))))))
   have hc : applyZ τ zx x subs = ((zxT τ zx), ([], 0)) := by unfold applyZ; dsimp only; rw [if_pos h26, if_neg (by omega)]
   refine G.trCast (τ' := (applyZ τ zx x subs).1) (by (repeat' constructor)) (by rw [hc]) ?_
   refine G.slCast (T := 75) (sz := 3) (m' := (applyZ τ zx x subs).2.1.length) (xs' := (applyZ τ zx x subs).2.1.flatMap evC) (by (repeat' constructor)) (by (rw [hc]; try rfl)) (by (rw [hc]; try rfl)) ?_
   exact G.done (l := [.tmp 4, .tmp 5]) rfl rfl ⟨_, _, rfl, by rw [hc], ⟨_, _, by (rw [hc]; try rfl)⟩, rfl⟩ (by (repeat' constructor)) (by (repeat' constructor))
 ·refine G.seq (G.region (G.q (Quiet.int rfl rfl rfl) rfl (G.q (Quiet.assign rfl) rfl (G.nil (G.then_n ?_)))))
  refine G.condD rfl (fun h42 => ?_) (fun h42 => ?_)
  ·refine G.seq (G.seq (G.region (G.q (Quiet.fieldAddr rfl fo_37_7) rfl ?_)))
   refine G.q (Quiet.as (v' := .slice asb subs.length csb) (by exact esub) (Quiet.load rfl ag_35 (by (repeat' constructor)) (rfl))) rfl ?_
   refine G.q (Quiet.slen rfl Tryz.underlying35 rfl) rfl (G.q (Quiet.move rfl) rfl (G.nil (G.then_n (G.block (G.add (slR_nil 75 3) ?_)))))
   refine G.trCast (τ' := (partsZ (zxT τ zx) zx ((subs.take 0).filter isDel)).1) (by (repeat' constructor)) (by rw [List.take_zero]; rfl) ?_
   refine G.slCast (T := 75) (sz := 3) (m' := (partsZ (zxT τ zx) zx ((subs.take 0).filter isDel)).2.length) (xs' := (partsZ (zxT τ zx) zx ((subs.take 0).filter isDel)).2.flatMap evC) (by (repeat' constructor)) (by rw [List.take_zero]; rfl) (by rw [List.take_zero]; rfl) ?_
   refine G.loopK (ι := Nat × Value) (fun q E => (47, vint q.1) :: (6, q.2) :: E) (fun q => [treeR t (partsZ (zxT τ zx) zx ((subs.take q.1).filter isDel)).1, slR 75 3 q.2 (partsZ (zxT τ zx) zx ((subs.take q.1).filter isDel)).2.length ((partsZ (zxT τ zx) zx ((subs.take q.1).filter isDel)).2.flatMap evC)]) (fun q => q.1 ≤ subs.length ∧ ∃ a c, q.2 = .slice a (partsZ (zxT τ zx) zx ((subs.take q.1).filter isDel)).2.length c) (fun q => subs.length - q.1) (0, .slice none 0 0) (ts := [0, 3, 4, 5, 7, 45, 46]) (.cons rfl (.cons rfl (.cons rfl (.cons rfl (.cons rfl (.cons rfl (.cons rfl (.nil)))))))) (⟨Nat.zero_le _, none, 0, by rw [List.take_zero]; rfl⟩) ⟨rfl, rfl, rfl, rfl, rfl, rfl, rfl, rfl, rfl, trivial⟩ (by (repeat' constructor)) ?_
   rintro ⟨i, u⟩ ⟨hi, au, cu, hu⟩
   dsimp only
   dsimp only at hi hu
   subst hu
   have hev := parts_ev (zxT τ zx) zx ((subs.take i).filter isDel)
   have hfl := List.length_filter_le isDel (subs.take i)
   rw [List.length_take] at hfl
   have hok : (partsZ (zxT τ zx) zx ((subs.take i).filter isDel)).1.Ok (N + subs.length) := ((ho.zx zx).parts zx _ (fun y hy => (hx.each y (List.mem_of_mem_take (List.mem_filter.1 hy).1)).few)).more (by omega)
   refine G.seq (G.region (G.q (Quiet.int rfl rfl rfl) rfl (G.nil (G.then_n (G.seq ?_)))))
   refine G.condD rfl (fun h48 => ?_) (fun h48 => ?_)
   ·have hi2 : i < subs.length := by omega
    refine G.rdShape (p := p) hrd (by (repeat' constructor)) (by omega) fun bs os e1 => ?_
    subst e1
    have hys := hx.each _ (List.getElem_mem hi2)
    refine G.skip (G.then_n (G.seq (G.block (G.seq (G.region ?_)))))
    refine G.q (Quiet.indexAddr rfl rfl el_35 (by omega)) rfl ?_
    refine G.q (Quiet.loadRdA (sz := 8) (j := i * 8) (k := 8) (p := p) (vs := ptC subs[i]) rfl ag_37 (by (repeat' constructor)) hrd (by simp) (by omega) (by omega) (flatMap_at (f := ptC) (sz := 8) (fun _ _ => rfl) (by omega))) rfl ?_
    refine G.op (OpSpec.allocA ze_37) (by (repeat' constructor)) rfl ?nx52
    rintro v L' ⟨by1, rfl, rfl⟩
    refine G.op (OpSpec.storeA rfl rfl ?c54 sz_37 ?c57 ?c55 ?c56) (by (repeat' constructor)) rfl ?nx58
    case c54 => exact hys.all
    case c57 => rfl
    case c55 => simp [ptC]
    case c56 => exact nfz0 _ _
    rintro v L' rfl
    refine G.nil ?_
    refine G.ptCast (b := by1) (l' := ptC subs[i]) (by (repeat' constructor)) rfl ?_
    refine G.then_n (G.seq (G.region (G.q (Quiet.fieldAddr rfl fo_37_0) rfl ?_)))
    refine G.q (Quiet.load rfl ag_3 (by (repeat' constructor)) (rfl)) rfl ?_
    refine G.q (Quiet.int rfl rfl rfl) rfl (G.nil (G.then_n ?_))
    refine G.condD rfl (fun h53 => ?_) (fun h53 => ?_)
    ·refine G.region (G.q (Quiet.move rfl) rfl (G.q (Quiet.move rfl) rfl ?_))
     refine G.q (Quiet.loadAs (vs := ptC subs[i]) rfl ag_37 (by (repeat' constructor)) (by simp [ptC]) rfl) rfl ?_
     refine G.q (Quiet.fieldAddr rfl fo_39_0) rfl ?_
     refine G.q (Quiet.load rfl ag_3 (by (repeat' constructor)) (rfl)) rfl ?_
     refine G.op (OpSpec.call Tryz.func46 rfl rfl (vs := [_, _, _]) rfl (trpart_spec t (partsZ (zxT τ zx) zx ((subs.take i).filter isDel)).1 subs[i] zx p hys (N + subs.length) hok (by omega))) (by (repeat' constructor)) rfl ?nx67
     rintro v L' ⟨a14, c14, rfl, rfl⟩
     refine G.op (OpSpec.append (n := (partsZ (zxT τ zx) zx ((subs.take i).filter isDel)).2.length) (m := (partZ (partsZ (zxT τ zx) zx ((subs.take i).filter isDel)).1 subs[i] zx).2.length) (ys := (partZ (partsZ (zxT τ zx) zx ((subs.take i).filter isDel)).1 subs[i] zx).2.flatMap evC) (p := slR 75 3 (.slice a14 (partZ (partsZ (zxT τ zx) zx ((subs.take i).filter isDel)).1 subs[i] zx).2.length c14) (partZ (partsZ (zxT τ zx) zx ((subs.take i).filter isDel)).1 subs[i] zx).2.length ((partZ (partsZ (zxT τ zx) zx ((subs.take i).filter isDel)).1 subs[i] zx).2.flatMap evC)) rfl rfl rfl el_30 (.inl ⟨_, Tryz.underlying30⟩) ze_75 rfl rfl ?hc69 ?hr70 ?hb71 (by decide)) (by (repeat' constructor)) rfl ?nx72
     case hc69 => exact evC_cells _
     case hr70 => exact fun h hp => slR_rd hp
     case hb71 => have := part_ev (partsZ (zxT τ zx) zx ((subs.take i).filter isDel)).1 subs[i] zx; omega
     rintro v L' ⟨⟨a14_6, c14_6, rfl⟩, rfl⟩
     refine G.q (Quiet.assign rfl) rfl (G.nil (G.blk_n (G.then_n (G.region ?_))))
     refine G.q (Quiet.add rfl rfl (by omega)) rfl ?_
     refine G.q (Quiet.move rfl) rfl (G.nil (G.then_n ?_))
     have hst := filter_take_yes (f := isDel) hi2 (by unfold isDel; rw [decide_eq_true h53])
     refine G.trCast (τ' := (partsZ (zxT τ zx) zx ((subs.take (i + 1)).filter isDel)).1) (by (repeat' constructor)) (by rw [hst, parts_snoc]) ?_
     refine G.slCast (T := 75) (sz := 3) (m' := (partsZ (zxT τ zx) zx ((subs.take (i + 1)).filter isDel)).2.length) (xs' := (partsZ (zxT τ zx) zx ((subs.take (i + 1)).filter isDel)).2.flatMap evC) (by (repeat' constructor)) (by rw [hst, parts_snoc]; simp) (by rw [hst, parts_snoc]; simp) ?_
     exact G.roundK ((i + 1, .slice a14_6 ((partsZ (zxT τ zx) zx ((subs.take i).filter isDel)).2.length + (partZ (partsZ (zxT τ zx) zx ((subs.take i).filter isDel)).1 subs[i] zx).2.length) c14_6)) (⟨by dsimp only; omega, _, _, by rw [hst, parts_snoc, List.length_append]⟩) (by dsimp only; omega) ⟨rfl, rfl, rfl, rfl, rfl, rfl, rfl, rfl, rfl, trivial⟩ (by (repeat' constructor)) (by ((repeat (apply Have.cons; (repeat (first | exact Pick.here | apply Pick.there)))); apply Have.base; repeat' constructor))
    ·refine G.skip (G.blk_n (G.then_n (G.region ?_)))
     refine G.q (Quiet.add rfl rfl (by omega)) rfl ?_
     refine G.q (Quiet.move rfl) rfl (G.nil (G.then_n ?_))
     have hst := filter_take_no (f := isDel) hi2 (by unfold isDel; rw [decide_eq_false h53])
     refine G.trCast (τ' := (partsZ (zxT τ zx) zx ((subs.take (i + 1)).filter isDel)).1) (by (repeat' constructor)) (by rw [hst]) ?_
     refine G.slCast (T := 75) (sz := 3) (m' := (partsZ (zxT τ zx) zx ((subs.take (i + 1)).filter isDel)).2.length) (xs' := (partsZ (zxT τ zx) zx ((subs.take (i + 1)).filter isDel)).2.flatMap evC) (by (repeat' constructor)) (by rw [hst]) (by rw [hst]) ?_
     exact G.roundK ((i + 1, .slice au (partsZ (zxT τ zx) zx ((subs.take i).filter isDel)).2.length cu)) (⟨by dsimp only; omega, _, _, by rw [hst]⟩) (by dsimp only; omega) ⟨rfl, rfl, rfl, rfl, rfl, rfl, rfl, rfl, rfl, trivial⟩ (by (repeat' constructor)) (by ((repeat (apply Have.cons; (repeat (first | exact Pick.here | apply Pick.there)))); apply Have.base; repeat' constructor))
   ·have hii : i = subs.length := by omega
    rw [hii, List.take_length]
    refine G.exit (G.then_e (G.then_e (G.blk_e (G.then_n ?_))))
    refine G.trOpen (τ := (partsZ (zxT τ zx) zx (subs.filter isDel)).1) (by (repeat' constructor)) fun rn rs m s hI => ?_
    refine G.draw [6] [[0, 1, 2, 3, 4, 5, 6]] mixed (by kernel_rfl) ?_
    refine Phases.go [] (by (repeat' constructor)) ?_
    refine D.qw [1, 2, 3, 6] rfl (by kernel_rfl) (Quiet.move rfl) ?_
    refine D.qw [2, 3, 6] rfl (by kernel_rfl) (Quiet.nilp rfl) ?_
    refine D.qw [3, 6] rfl (by kernel_rfl) (Quiet.fieldAddr rfl fo_110_1) ?_
    refine D.qw [6] rfl (by kernel_rfl) (Quiet.load rfl ag_108 (by (repeat' constructor)) (rfl)) ?_
    refine D.qw [5, 6] rfl (by kernel_rfl) (Quiet.fieldAddr rfl fo_37_4) ?_
    refine D.qw [6] rfl (by kernel_rfl) (Quiet.load rfl ag_3 (by (repeat' constructor)) (rfl)) ?_
    refine D.h rfl (by kernel_rfl) (OpSpec.mapDel (m := s) (enc := ssV) (k := x.own) (KeyLaw.int Tryz.underlying3) rfl rfl rfl Tryz.underlying108 ?he82) (by (repeat' constructor)) ?nx83
    case he82 => rfl
    rintro v L' rfl
    refine D.ph (Phases.fin ?_)
    refine G.trFold (τ := (dropS (partsZ (zxT τ zx) zx (subs.filter isDel)).1 x.own)) (hI.drop x.own) (by (repeat' constructor)) rfl rfl rfl ?_
    refine G.blk_n (G.then_n (G.seq (G.region (G.q (Quiet.move rfl) rfl (G.q (Quiet.assign rfl) rfl (G.q (Quiet.assign rfl) rfl (G.nil (G.then_n (G.ret ?_)))))))))
    have hc : applyZ τ zx x subs = (dropS (partsZ (zxT τ zx) zx (subs.filter isDel)).1 x.own, ((partsZ (zxT τ zx) zx (subs.filter isDel)).2, 0)) := by unfold applyZ; dsimp only; rw [if_neg h26, if_pos h42]
    refine G.trCast (τ' := (applyZ τ zx x subs).1) (by (repeat' constructor)) (by rw [hc]) ?_
    refine G.slCast (T := 75) (sz := 3) (m' := (applyZ τ zx x subs).2.1.length) (xs' := (applyZ τ zx x subs).2.1.flatMap evC) (by (repeat' constructor)) (by (rw [hc]; try rfl)) (by (rw [hc]; try rfl)) ?_
    exact G.done (l := [.tmp 4, .tmp 5]) rfl rfl ⟨_, _, rfl, by rw [hc], ⟨_, _, by (rw [hc]; try rfl)⟩, rfl⟩ (by (repeat' constructor)) (by (repeat' constructor))
  ·refine G.seq (G.region (G.q (Quiet.int rfl rfl rfl) rfl (G.q (Quiet.assign rfl) rfl (G.nil (G.then_n ?_)))))
   refine G.condD rfl (fun h68 => ?_) (fun h68 => ?_)
   ·refine G.seq (G.region (G.q (Quiet.fieldAddr rfl fo_37_7) rfl ?_))
    refine G.q (Quiet.as (v' := .slice asb subs.length csb) (by exact esub) (Quiet.load rfl ag_35 (by (repeat' constructor)) (rfl))) rfl ?_
    refine G.q (Quiet.slen rfl Tryz.underlying35 rfl) rfl (G.q (Quiet.move rfl) rfl (G.nil (G.then_n (G.block (G.add (slR_nil 75 3) ?_)))))
    refine G.trCast (τ' := (partsZ (zxT τ zx) zx (subs.take 0)).1) (by (repeat' constructor)) (by rw [List.take_zero]; rfl) ?_
    refine G.slCast (T := 75) (sz := 3) (m' := (partsZ (zxT τ zx) zx (subs.take 0)).2.length) (xs' := (partsZ (zxT τ zx) zx (subs.take 0)).2.flatMap evC) (by (repeat' constructor)) (by rw [List.take_zero]; rfl) (by rw [List.take_zero]; rfl) ?_
    refine G.loopK (ι := Nat × Value) (fun q E => (73, vint q.1) :: (6, q.2) :: E) (fun q => [treeR t (partsZ (zxT τ zx) zx (subs.take q.1)).1, slR 75 3 q.2 (partsZ (zxT τ zx) zx (subs.take q.1)).2.length ((partsZ (zxT τ zx) zx (subs.take q.1)).2.flatMap evC)]) (fun q => q.1 ≤ subs.length ∧ ∃ a c, q.2 = .slice a (partsZ (zxT τ zx) zx (subs.take q.1)).2.length c) (fun q => subs.length - q.1) (0, .slice none 0 0) (ts := [0, 3, 4, 5, 71, 72]) (.cons rfl (.cons rfl (.cons rfl (.cons rfl (.cons rfl (.cons rfl (.nil))))))) (⟨Nat.zero_le _, none, 0, by rw [List.take_zero]; rfl⟩) ⟨rfl, rfl, rfl, rfl, rfl, rfl, rfl, rfl, trivial⟩ (by (repeat' constructor)) ?_
    rintro ⟨i, u⟩ ⟨hi, au, cu, hu⟩
    dsimp only
    dsimp only at hi hu
    subst hu
    have hev := parts_ev (zxT τ zx) zx (subs.take i)
    have hfl := List.length_take_le i subs
    have hok : (partsZ (zxT τ zx) zx (subs.take i)).1.Ok (N + subs.length) := ((ho.zx zx).parts zx _ (fun y hy => (hx.each y (List.mem_of_mem_take hy)).few)).more (by rw [List.length_take]; omega)
    refine G.seq (G.region (G.q (Quiet.int rfl rfl rfl) rfl (G.nil (G.then_n (G.seq ?_)))))
    refine G.condD rfl (fun h74 => ?_) (fun h74 => ?_)
    ·have hi2 : i < subs.length := by omega
     refine G.rdShape (p := p) hrd (by (repeat' constructor)) (by omega) fun bs os e1 => ?_
     subst e1
     have hys := hx.each _ (List.getElem_mem hi2)
     refine G.skip (G.then_n (G.seq (G.block (G.seq (G.region ?_)))))
     refine G.q (Quiet.indexAddr rfl rfl el_35 (by omega)) rfl ?_
     refine G.q (Quiet.loadRdA (sz := 8) (j := i * 8) (k := 8) (p := p) (vs := ptC subs[i]) rfl ag_37 (by (repeat' constructor)) hrd (by simp) (by omega) (by omega) (flatMap_at (f := ptC) (sz := 8) (fun _ _ => rfl) (by omega))) rfl ?_
     refine G.op (OpSpec.allocA ze_37) (by (repeat' constructor)) rfl ?nx94
     rintro v L' ⟨by1, rfl, rfl⟩
     refine G.op (OpSpec.storeA rfl rfl ?c96 sz_37 ?c99 ?c97 ?c98) (by (repeat' constructor)) rfl ?nx100
     case c96 => exact hys.all
     case c99 => rfl
     case c97 => simp [ptC]
     case c98 => exact nfz0 _ _
     rintro v L' rfl
     refine G.nil ?_
     refine G.ptCast (b := by1) (l' := ptC subs[i]) (by (repeat' constructor)) rfl ?_
     refine G.then_n (G.region (G.q (Quiet.move rfl) rfl (G.q (Quiet.move rfl) rfl ?_)))
     refine G.q (Quiet.loadAs (vs := ptC subs[i]) rfl ag_37 (by (repeat' constructor)) (by simp [ptC]) rfl) rfl ?_
     refine G.q (Quiet.fieldAddr rfl fo_39_0) rfl ?_
     refine G.q (Quiet.load rfl ag_3 (by (repeat' constructor)) (rfl)) rfl ?_
     refine G.op (OpSpec.call Tryz.func46 rfl rfl (vs := [_, _, _]) rfl (trpart_spec t (partsZ (zxT τ zx) zx (subs.take i)).1 subs[i] zx p hys (N + subs.length) hok (by omega))) (by (repeat' constructor)) rfl ?nx106
     rintro v L' ⟨a21, c21, rfl, rfl⟩
     refine G.op (OpSpec.append (n := (partsZ (zxT τ zx) zx (subs.take i)).2.length) (m := (partZ (partsZ (zxT τ zx) zx (subs.take i)).1 subs[i] zx).2.length) (ys := (partZ (partsZ (zxT τ zx) zx (subs.take i)).1 subs[i] zx).2.flatMap evC) (p := slR 75 3 (.slice a21 (partZ (partsZ (zxT τ zx) zx (subs.take i)).1 subs[i] zx).2.length c21) (partZ (partsZ (zxT τ zx) zx (subs.take i)).1 subs[i] zx).2.length ((partZ (partsZ (zxT τ zx) zx (subs.take i)).1 subs[i] zx).2.flatMap evC)) rfl rfl rfl el_30 (.inl ⟨_, Tryz.underlying30⟩) ze_75 rfl rfl ?hc108 ?hr109 ?hb110 (by decide)) (by (repeat' constructor)) rfl ?nx111
     case hc108 => exact evC_cells _
     case hr109 => exact fun h hp => slR_rd hp
     case hb110 => have := part_ev (partsZ (zxT τ zx) zx (subs.take i)).1 subs[i] zx; omega
     rintro v L' ⟨⟨a21_6, c21_6, rfl⟩, rfl⟩
     refine G.q (Quiet.assign rfl) rfl (G.nil (G.blk_n (G.then_n (G.region ?_))))
     refine G.q (Quiet.add rfl rfl (by omega)) rfl ?_
     refine G.q (Quiet.move rfl) rfl (G.nil (G.then_n ?_))
     have hst := List.take_succ_eq_append_getElem hi2
     refine G.trCast (τ' := (partsZ (zxT τ zx) zx (subs.take (i + 1))).1) (by (repeat' constructor)) (by rw [hst, parts_snoc]) ?_
     refine G.slCast (T := 75) (sz := 3) (m' := (partsZ (zxT τ zx) zx (subs.take (i + 1))).2.length) (xs' := (partsZ (zxT τ zx) zx (subs.take (i + 1))).2.flatMap evC) (by (repeat' constructor)) (by rw [hst, parts_snoc]; simp) (by rw [hst, parts_snoc]; simp) ?_
     exact G.roundK ((i + 1, .slice a21_6 ((partsZ (zxT τ zx) zx (subs.take i)).2.length + (partZ (partsZ (zxT τ zx) zx (subs.take i)).1 subs[i] zx).2.length) c21_6)) (⟨by dsimp only; omega, _, _, by rw [hst, parts_snoc, List.length_append]⟩) (by dsimp only; omega) ⟨rfl, rfl, rfl, rfl, rfl, rfl, rfl, rfl, trivial⟩ (by (repeat' constructor)) (by ((repeat (apply Have.cons; (repeat (first | exact Pick.here | apply Pick.there)))); apply Have.base; repeat' constructor))
    ·have hii : i = subs.length := by omega
     rw [hii, List.take_length]
     refine G.exit (G.then_e (G.then_e (G.blk_e (G.blk_n (G.then_n (G.seq (G.region (G.q (Quiet.move rfl) rfl (G.q (Quiet.assign rfl) rfl (G.q (Quiet.assign rfl) rfl (G.nil (G.then_n (G.ret ?_)))))))))))))
     have hc : applyZ τ zx x subs = ((partsZ (zxT τ zx) zx subs).1, ((partsZ (zxT τ zx) zx subs).2, 0)) := by unfold applyZ; dsimp only; rw [if_neg h26, if_neg h42, if_pos h68]
     refine G.trCast (τ' := (applyZ τ zx x subs).1) (by (repeat' constructor)) (by rw [hc]) ?_
     refine G.slCast (T := 75) (sz := 3) (m' := (applyZ τ zx x subs).2.1.length) (xs' := (applyZ τ zx x subs).2.1.flatMap evC) (by (repeat' constructor)) (by (rw [hc]; try rfl)) (by (rw [hc]; try rfl)) ?_
     exact G.done (l := [.tmp 4, .tmp 5]) rfl rfl ⟨_, _, rfl, by rw [hc], ⟨_, _, by (rw [hc]; try rfl)⟩, rfl⟩ (by (repeat' constructor)) (by (repeat' constructor))
   ·refine G.seq (G.region (G.q (Quiet.int rfl rfl rfl) rfl (G.q (Quiet.assign rfl) rfl (G.nil (G.then_n ?_)))))
    refine G.condD rfl (fun h85 => ?_) (fun h85 => ?_)
    ·refine G.seq ?_
     refine G.draw [] [[0, 1, 2, 3]] mixed (by kernel_rfl) ?_
     refine Phases.go [] (by (repeat' constructor)) ?_
     refine D.qw [1, 3] rfl (by kernel_rfl) (Quiet.fieldAddr rfl fo_37_6) ?_
     refine D.qw [3] rfl (by kernel_rfl) (Quiet.load rfl ag_31 (by (repeat' constructor)) (rfl)) ?_
     refine D.qw [3] rfl (by kernel_rfl) (Quiet.assign rfl) ?_
     refine D.qw [] rfl (by kernel_rfl) (Quiet.assign rfl) ?_
     refine D.ph (Phases.fin (G.then_n (G.ret (G.blk_r (G.then_r (G.add (slR_nil 75 3) ?_))))))
     have hc : applyZ τ zx x subs = ((zxT τ zx), ([], x.err)) := by unfold applyZ; dsimp only; rw [if_neg h26, if_neg h42, if_neg h68, if_pos h85]
     refine G.trCast (τ' := (applyZ τ zx x subs).1) (by (repeat' constructor)) (by rw [hc]) ?_
     refine G.slCast (T := 75) (sz := 3) (m' := (applyZ τ zx x subs).2.1.length) (xs' := (applyZ τ zx x subs).2.1.flatMap evC) (by (repeat' constructor)) (by (rw [hc]; try rfl)) (by (rw [hc]; try rfl)) ?_
     exact G.done (l := [.tmp 4, .tmp 5]) rfl rfl ⟨_, _, rfl, by rw [hc], ⟨_, _, by (rw [hc]; try rfl)⟩, rfl⟩ (by (repeat' constructor)) (by (repeat' constructor))
    ·refine G.region (G.q (Quiet.move rfl) rfl ?_)
     refine G.q (Quiet.loadAs (vs := ptC x) rfl ag_37 (by (repeat' constructor)) (by simp [ptC]) rfl) rfl ?_
     refine G.q (Quiet.fieldAddr rfl fo_39_0) rfl ?_
     refine G.q (Quiet.load rfl ag_3 (by (repeat' constructor)) (rfl)) rfl ?_
     refine G.op (OpSpec.call Tryz.func46 rfl rfl (vs := [_, _, _]) rfl (trpart_spec t (zxT τ zx) x zx p hx.own N (ho.zx zx) (by omega))) (by (repeat' constructor)) rfl ?nx124
     rintro v L' ⟨a5, c5, rfl, rfl⟩
     refine G.q (Quiet.assign rfl) rfl (G.nil (G.blk_n (G.then_n (G.seq (G.region (G.q (Quiet.move rfl) rfl (G.q (Quiet.assign rfl) rfl (G.q (Quiet.assign rfl) rfl (G.nil (G.then_n (G.ret ?_)))))))))))
     have hc : applyZ τ zx x subs = ((partZ (zxT τ zx) x zx).1, ((partZ (zxT τ zx) x zx).2, 0)) := by unfold applyZ; dsimp only; rw [if_neg h26, if_neg h42, if_neg h68, if_neg h85]
     refine G.trCast (τ' := (applyZ τ zx x subs).1) (by (repeat' constructor)) (by rw [hc]) ?_
     refine G.slCast (T := 75) (sz := 3) (m' := (applyZ τ zx x subs).2.1.length) (xs' := (applyZ τ zx x subs).2.1.flatMap evC) (by (repeat' constructor)) (by (rw [hc]; try rfl)) (by (rw [hc]; try rfl)) ?_
     exact G.done (l := [.tmp 4, .tmp 5]) rfl rfl ⟨_, _, rfl, by rw [hc], ⟨_, _, by (rw [hc]; try rfl)⟩, rfl⟩ (by (repeat' constructor)) (by (repeat' constructor))

end Go.Proofs.YtnnbelmpbmfdnaaGreatDoor

/- Own work: entries as plain data; what is done below one node does not touch what is below another one: plain. -/
namespace Go.Proofs.YtnnbelmpbmfdnaaGreatDoor
open Go

structure En where
  zx : Int
  ses : Int
  xid : Int
  x : Pt
  subs : List Pt
def enC (e : En) : List Value := [vint e.zx, vint e.ses, vint e.xid] ++ ptC e.x
def appE (τ : Tr) (e : En) : Tr := (applyZ τ e.zx e.x e.subs).1
def appL (τ : Tr) (l : List En) : Tr := l.foldl appE τ
theorem appL_snoc (τ : Tr) (l : List En) (e : En) : appL τ (l ++ [e]) = appE (appL τ l) e := by unfold appL; rw [List.foldl_append]; rfl
/-- A part without lists. -/
def ptS (kind : Int) (path data : Bs) (num : Int) : Pt := ⟨kind, path, data, .slice none 0 0, [], 0, num, 0, .slice none 0 0⟩
def enS (zx kind : Int) (path data : Bs) (num : Int) : En := ⟨zx, 0, 0, ptS kind path data num, []⟩
theorem rd_none (sz : Nat) (h : Hp) : rdS sz h (.slice none 0 0) 0 [] := .inl ⟨rfl, rfl, none, 0, rfl⟩
theorem ptS_ok (p : HP) {kind : Int} {path data : Bs} {num : Int} (hp : path.length ≤ 1048576) : PtA p (ptS kind path data num) := ⟨fun h _ => rd_none 2 h, Nat.zero_le _, hp, rfl, rfl⟩
theorem txS_ok (p : HP) {kind : Int} {path data : Bs} {num : Int} (hp : path.length ≤ 1048576) : TxA p (ptS kind path data num) [] := ⟨ptS_ok p hp, fun h _ => rd_none 8 h, Nat.zero_le _, fun y hy => by cases hy⟩
/-! ### Raw acts -/
abbrev Ac0 := Int × (Int × (Int × (Bs × Value)))
def ac0C (a : Ac0) : List Value := [vint a.1, vint a.2.1, vint a.2.2.1, vstr a.2.2.2.1, a.2.2.2.2]
structure Acts0 (p : HP) (v : Value) (xs : List Ac0) : Prop where
  cells : ∀ h : Hp, p h → rdS 5 h v xs.length (xs.flatMap ac0C)
  len : xs.length ≤ 1048576
  ok : ∀ a ∈ xs, (-9223372036854775808 ≤ a.1 ∧ a.1 ≤ 9223372036854775807) ∧ (-9223372036854775808 ≤ a.2.1 ∧ a.2.1 ≤ 9223372036854775807) ∧ (-9223372036854775808 ≤ a.2.2.1 ∧ a.2.2.1 ≤ 9223372036854775807) ∧ a.2.2.2.1.length ≤ 1048576
def undNames : List Bs := [[120], [121], [122], [120, 47, 120], [120, 47, 121], [121, 47, 120]]
def undName (k : Int) : Bs := undNames.getD k.toNat []
def undE (q : Bs) (i : Nat) (a : Ac0) : En := enS (10 + i) (1 + pickZ a.1 4) (q ++ [47] ++ undName (pickZ a.2.1 6)) a.2.2.2.1 (pickZ a.2.2.1 9)
def undTo (q : Bs) (xs : List Ac0) : Nat → List En
  | 0 => []
  | i + 1 => undTo q xs i ++ [undE q i (xs.getD i (0, (0, (0, ([], .bool false)))))]
def undL (q : Bs) (xs : List Ac0) : List En := undTo q xs (min 60 xs.length)
/-! ### Parts touch what is theirs -/
theorem part_sess (τ : Tr) (x : Pt) (zx : Int) : (partZ τ x zx).1.sess = τ.sess := by
  unfold partZ createZ eraseZ
  repeat' split
  all_goals rfl
/-- Below a node. -/
def inR (r q : Bs) : Prop := q = r ∨ ∃ c, q = r ++ [47] ++ c
/-! ### The chapter's examples -/
def aw7x : Pt := ptS 1 [47, 97] [120] 1
def aw7y : Pt := ptS 1 [47, 98, 47, 99] [] 1
def aw7A : Tr := (applyZ newT 5 aw7x []).1
def aw7B : Tr := (applyZ aw7A 6 aw7y []).1
theorem aw7_1 : (applyZ newT 5 aw7x []).2 = ([(1, ([47, 97], 5)), (4, ([47], 5))], 0) := by decide
theorem aw7_2 : (applyZ aw7A 6 aw7y []).2 = ([], 0) := by decide
theorem aw7_3 : dataD aw7B [47, 97] = [120] ∧ statD aw7B [47, 97] = ⟨5, 5, 5, 0, 0, 0, 0, 1, 0⟩ ∧ thereT aw7B [47, 97] := by decide
theorem aw7_4 : statD aw7B [47] = ⟨0, 0, 5, 0, 1, 0, 0, 0, 1⟩ ∧ thereT aw7B [47] := by decide
theorem aw7_5 : aw7B.zx = 6 := by decide
theorem aw7_okA : aw7A.Ok 2 := newT_ok.apply 5 aw7x [] (by decide) (by simp)
theorem aw7_okB : aw7B.Ok 3 := aw7_okA.apply 6 aw7y [] (by decide) (by simp)
end Go.Proofs.YtnnbelmpbmfdnaaGreatDoor

/- Own work: sound histories as plain data, and what is so in all of them. -/
namespace Go.Proofs.YtnnbelmpbmfdnaaGreatDoor
open Go

/-! ### Paths -/
theorem lt_pre (p : Bs) {r : Bs} (h : r ≠ []) : p < p ++ r := by
  have : p ++ [] < p ++ r ↔ [] < r := lt_cut p
  rw [List.append_nil] at this
  refine this.2 ?_
  cases r with
  | nil => exact absurd rfl h
  | cons a r => exact List.nil_lt_cons _ _
theorem under_pre {q p : Bs} (h : underZ q p) : ∃ d, d ≠ [] ∧ q = kidZ p [] ++ d := by
  obtain ⟨h1, h2⟩ := h
  unfold pfx at h1
  have e : q = kidZ p [] ++ q.drop (kidZ p []).length := by
    conv => lhs; rw [← List.take_append_drop (kidZ p []).length q, h1]
  refine ⟨q.drop (kidZ p []).length, fun g => h2 ?_, e⟩
  rw [e, g, List.append_nil]
theorem hit_under {q p d : Bs} (hd : d ≠ []) (e : q = kidZ p [] ++ d) : hitT q p = true := by
  have : underZ q p := by
    subst e
    refine ⟨by unfold pfx; rw [List.take_left], fun g => hd ?_⟩
    have := congrArg List.length g
    rw [List.length_append] at this
    exact List.eq_nil_of_length_eq_zero (by omega)
  unfold hitT
  rw [decide_eq_true this, Bool.or_true]
theorem kid_root (n : Bs) : kidZ [47] n = 47 :: n := by unfold kidZ; rw [if_pos rfl]; rfl
theorem kid_else {p : Bs} (h : p ≠ [47]) (n : Bs) : kidZ p n = p ++ 47 :: n := by unfold kidZ; rw [if_neg h, List.append_assoc]; rfl
theorem hit_pre {q p : Bs} (h : hitT q p = true) : ∃ r, q = p ++ r := by
  unfold hitT at h
  rw [Bool.or_eq_true, decide_eq_true_iff, decide_eq_true_iff] at h
  rcases h with rfl | h
  · exact ⟨[], (List.append_nil _).symm⟩
  · obtain ⟨d, -, rfl⟩ := under_pre h
    by_cases e : p = [47]
    · subst e; exact ⟨d, by rw [kid_root]⟩
    · exact ⟨47 :: d, by rw [kid_else e, List.append_assoc]; rfl⟩
theorem base_ne {q : Bs} (h : ableZ q) : baseZ q ≠ [] := by
  obtain ⟨-, -, -, h⟩ := able_cut h
  intro e
  rw [e] at h; revert h; decide
theorem kid_parent {q : Bs} (h : ableZ q) : q = kidZ (parentZ q) (baseZ q) := by
  obtain ⟨h0, h1, h2, -⟩ := able_cut h
  rw [able_parent h]
  by_cases e : preZ q = []
  · rw [if_pos e, kid_root]; rw [e] at h2; exact h2
  · rw [if_neg e, kid_else h1]; exact h2
theorem parent_pre {q : Bs} (h : ableZ q) : ∃ r, r ≠ [] ∧ q = parentZ q ++ r := by
  have h1 := kid_parent h
  by_cases e : parentZ q = [47]
  · rw [e, kid_root] at h1
    exact ⟨baseZ q, base_ne h, by rw [e]; exact h1⟩
  · rw [kid_else e] at h1
    exact ⟨47 :: baseZ q, by simp, h1⟩
theorem parent_lt {q : Bs} (h : ableZ q) : parentZ q < q := by
  obtain ⟨r, h1, h2⟩ := parent_pre h
  have := lt_pre (parentZ q) h1
  rw [← h2] at this; exact this
theorem hit_le {q p : Bs} (h : hitT q p = true) : ¬ q < p := by
  obtain ⟨r, rfl⟩ := hit_pre h
  intro g
  by_cases e : r = []
  · subst e; rw [List.append_nil] at g; exact linB.irr _ g
  · exact linB.irr _ (linB.tr _ _ _ g (lt_pre p e))
/-- Who is below a node has a parent there or is its kid. -/
theorem hit_parent {q p : Bs} (hq : ableZ q) (hp : p ≠ [47]) (h : hitT (parentZ q) p = true) : hitT q p = true := by
  obtain ⟨r, hr, e⟩ := parent_pre hq
  have key : ∃ d, d ≠ [] ∧ q = kidZ p [] ++ d := by
    unfold hitT at h
    rw [Bool.or_eq_true, decide_eq_true_iff, decide_eq_true_iff] at h
    rcases h with h | h
    · have h1 := kid_parent hq
      rw [h, kid_else hp] at h1
      refine ⟨baseZ q, base_ne hq, ?_⟩
      rw [kid_else hp, List.append_assoc]; exact h1
    · obtain ⟨d, hd, h2⟩ := under_pre h
      refine ⟨d ++ r, by simp [hd], ?_⟩
      rw [← List.append_assoc, ← h2]; exact e
  obtain ⟨d, hd, e2⟩ := key
  exact hit_under hd e2
/-! ### What a part does, path by path -/
theorem create_at {τ : Tr} {y : Pt} {zx : Int} (h1 : y.kind = 1) (ha : ableZ y.path) (hu : thereT τ (parentZ y.path)) (q : Bs) : alook (partZ τ y zx).1.nodes q = (if q = parentZ y.path then (if q = y.path then some (newN y zx) else alook τ.nodes q).map (kidN y.num zx) else if q = y.path then some (newN y zx) else alook τ.nodes q) := by
  unfold partZ createZ
  rw [if_pos h1, if_pos ⟨ha, hu⟩]
  show alook (amod (sset _ _ _) _ _) q = _
  rw [al_amod, al_sset]
theorem erase_at {τ : Tr} {y : Pt} {zx : Int} (h2 : y.kind = 2) (ha : ableZ y.path) (q : Bs) : alook (partZ τ y zx).1.nodes q = (if q = parentZ y.path then (if hitT q y.path = true then none else alook τ.nodes q).map (kidN y.num zx) else if hitT q y.path = true then none else alook τ.nodes q) := by
  unfold partZ eraseZ
  rw [if_neg (by omega), if_pos h2, if_pos ha]
  show alook (amod (τ.nodes.filter _) _ _) q = _
  rw [al_amod, al_filter (fun k => !hitT k y.path)]
  cases hitT q y.path <;> simp
theorem set_at {τ : Tr} {y : Pt} {zx : Int} (h3 : y.kind = 3) (ht : thereT τ y.path) (q : Bs) : alook (partZ τ y zx).1.nodes q = if q = y.path then (alook τ.nodes q).map (setN y.data y.num zx) else alook τ.nodes q := by
  unfold partZ
  rw [if_neg (by omega), if_neg (by omega), if_pos ⟨h3, ht⟩]
  show alook (amod _ _ _) q = _
  rw [al_amod]
theorem acl_at {τ : Tr} {y : Pt} {zx : Int} (h4 : y.kind = 4) (ht : thereT τ y.path) (q : Bs) : alook (partZ τ y zx).1.nodes q = if q = y.path then (alook τ.nodes q).map (aclN y.acl y.num) else alook τ.nodes q := by
  unfold partZ
  rw [if_neg (by omega), if_neg (by omega), if_neg (by rintro ⟨g, -⟩; omega), if_pos ⟨h4, ht⟩]
  show alook (amod _ _ _) q = _
  rw [al_amod]
/-! ### What an entry may be -/
def wldZ : Bs := [119, 111, 114, 108, 100]
def wld (l : List Ac) : Prop := l = [] ∨ ∃ q : Int, 1 ≤ q ∧ q ≤ 31 ∧ l = [(q, wldZ)]
theorem wld_len {l : List Ac} (h : wld l) : l.length ≤ 1 := by
  rcases h with rfl | ⟨q, -, -, rfl⟩ <;> simp
structure PartH (τ : Tr) (y : Pt) (K : Int) : Prop where
  kind : 0 ≤ y.kind ∧ y.kind ≤ 4
  path : y.path.length ≤ 62
  data : y.data.length ≤ 100
  acl : wld y.acl
  own : y.own = 0 ∨ ∃ s, alook τ.sess y.own = some s
  num : 0 ≤ y.num ∧ y.num ≤ K + 1
  err : y.err = 0
  room : y.kind = 1 → τ.nodes.length < 60
theorem PartH.congr {τ υ : Tr} {y : Pt} {K : Int} (h : PartH τ y K) (hn : υ.nodes = τ.nodes) (hs : υ.sess = τ.sess) : PartH υ y K :=
  ⟨h.kind, h.path, h.data, h.acl, by rw [hs]; exact h.own, h.num, h.err, by rw [hn]; exact h.room⟩
theorem PartH.more {τ : Tr} {y : Pt} {K M : Int} (h : PartH τ y K) (hm : K ≤ M) : PartH τ y M := { h with num := ⟨h.num.1, by have := h.num.2; omega⟩ }
def PartsH (τ : Tr) (zx : Int) (subs : List Pt) (K : Int) : Prop := ∀ i (hi : i < subs.length), PartH (partsZ τ zx (subs.take i)).1 subs[i] (K + i)
structure CloseH (τ : Tr) (x : Pt) (subs : List Pt) : Prop where
  own : 1 ≤ x.own ∧ x.own ≤ 5
  paths : subs.map (·.path) = (ownedZ τ x.own).reverse
  kinds : ∀ y ∈ subs, y.kind = 2
inductive ShapeH (τ : Tr) (zx : Int) (x : Pt) (subs : List Pt) (K : Int) : Prop
  | part (hs : subs = []) (h : PartH τ x K)
  | opens (hk : x.kind = 5) (hs : subs = []) (ho : 1 ≤ x.own ∧ x.own ≤ 5) (hn : 4 ≤ x.num ∧ x.num ≤ 53) (hd : x.data.length ≤ 100) (ha : x.acl = []) (hp : x.path = [])
  | close (hk : x.kind = 6) (h : CloseH τ x subs) (hp : PartsH τ zx subs K) (ha : x.acl = []) (hd : x.data = []) (hl : subs.length ≤ 60) (hp : x.path = [])
  | multi (hk : x.kind = 7) (h : PartsH τ zx subs K) (ha : x.acl = []) (hd : x.data = []) (hl : subs.length ≤ 6) (hp : x.path = [])
  | error (hk : x.kind = 8) (hs : subs = []) (he : 0 ≤ x.err ∧ x.err < 99) (hn : x.num = -1) (ha : x.acl = []) (hd : x.data = []) (hp : x.path = [])
/-- What lies in its fields. -/
def TxC (x : Pt) (subs : List Pt) : Prop := isCell x.aclV = true ∧ isCell x.subsV = true ∧ ∀ y ∈ subs, isCell y.aclV = true ∧ isCell y.subsV = true
structure EntH (τ : Tr) (e : En) (K : Int) : Prop where
  sound : soundZ τ e.zx e.x e.subs = true
  shape : ShapeH τ e.zx e.x e.subs K
  ses : 0 ≤ e.ses ∧ e.ses < 9
  cells : TxC e.x e.subs
/-! ### What is so in a sound history -/
structure HInv (τ : Tr) (K : Int) : Prop where
  ok : τ.Ok 60
  root : ∃ n, alook τ.nodes [47] = some n ∧ n.st.own = 0
  closed : ∀ q, thereT τ q → q ≠ [47] → thereT τ (parentZ q)
  ver : ∀ q n, alook τ.nodes q = some n → (0 ≤ n.st.ver ∧ n.st.ver ≤ K) ∧ (0 ≤ n.st.cver ∧ n.st.cver ≤ K) ∧ (0 ≤ n.st.av ∧ n.st.av ≤ K)
  own : ∀ q n, alook τ.nodes q = some n → n.st.own = 0 ∨ ∃ s, alook τ.sess n.st.own = some s
  ids : ∀ i s, alook τ.sess i = some s → 1 ≤ i ∧ i ≤ 5
  data : ∀ q n, alook τ.nodes q = some n → n.data.length ≤ 100
  acl : ∀ q n, alook τ.nodes q = some n → wld n.acl
  bare : ∀ q n, alook τ.nodes q = some n → n.st.len = 0 ∧ n.st.kids = 0
  zx0 : 0 ≤ K
theorem HInv.able {τ : Tr} {K : Int} (h : HInv τ K) {q : Bs} (ht : thereT τ q) (hq : q ≠ [47]) : ableZ q := by
  unfold thereT at ht
  obtain ⟨n, hn⟩ := Option.isSome_iff_exists.1 ht
  exact (h.ok.able _ (al_mem hn)).resolve_left hq
theorem HInv.rootT {τ : Tr} {K : Int} (h : HInv τ K) : thereT τ [47] := by
  obtain ⟨n, hn, -⟩ := h.root
  unfold thereT; rw [hn]; rfl
theorem HInv.pos {τ : Tr} {K : Int} (h : HInv τ K) : 0 < τ.nodes.length := by
  obtain ⟨n, hn, -⟩ := h.root
  exact List.length_pos_of_mem (al_mem hn)
theorem HInv.more {τ : Tr} {K M : Int} (h : HInv τ K) (hm : K ≤ M) : HInv τ M :=
  { h with ver := fun q n hn => by have := h.ver q n hn; omega, zx0 := by have := h.zx0; omega }
theorem HInv.zx {τ : Tr} {K : Int} (h : HInv τ K) (z : Int) : HInv (zxT τ z) K := ⟨h.ok.zx z, h.root, h.closed, h.ver, h.own, h.ids, h.data, h.acl, h.bare, h.zx0⟩
theorem HInv.new : HInv newT 0 := by
  have key : ∀ q n, alook newT.nodes q = some n → q = [47] ∧ n = ⟨[], [(31, wldZ)], st0⟩ := by
    intro q n h
    have := al_mem h
    simp only [newT, List.mem_singleton, Prod.mk.injEq] at this
    exact this
  refine ⟨newT_ok.more (by decide), ⟨_, rfl, rfl⟩, fun q hq hne => ?_, fun q n h => ?_, fun q n h => ?_, fun i s h => ?_, fun q n h => ?_, fun q n h => ?_, fun q n h => ?_, Int.le_refl _⟩
  · unfold thereT at hq
    obtain ⟨n, hn⟩ := Option.isSome_iff_exists.1 hq
    exact absurd (key q n hn).1 hne
  · obtain ⟨-, rfl⟩ := key q n h; decide
  · obtain ⟨-, rfl⟩ := key q n h; exact .inl rfl
  · cases h
  · obtain ⟨-, rfl⟩ := key q n h; decide
  · obtain ⟨-, rfl⟩ := key q n h; exact .inr ⟨31, by decide, by decide, rfl⟩
  · obtain ⟨-, rfl⟩ := key q n h; decide
theorem map_some {α β : Type} {f : α → β} {o : Option α} {b : β} (h : o.map f = some b) : ∃ a, o = some a ∧ b = f a := by
  cases o with
  | none => cases h
  | some a => exact ⟨a, rfl, by simpa using h.symm⟩
theorem there_some {τ : Tr} {p : Bs} : thereT τ p ↔ ∃ n, alook τ.nodes p = some n := Option.isSome_iff_exists
/-- A part that finds what it needs keeps it. -/
theorem HInv.part {τ : Tr} {K : Int} (h : HInv τ K) {y : Pt} {zx : Int} (hs : findsZ τ y = true) (hp : PartH τ y K) : HInv (partZ τ y zx).1 (K + 1) := by
  have hacl := wld_len hp.acl
  have hses := part_sess τ y zx
  -- what a node may become
  suffices hn : (∀ q n, alook (partZ τ y zx).1.nodes q = some n → (∃ n0, (alook τ.nodes q = some n0 ∨ (n0 = newN y zx ∧ q = y.path ∧ y.kind = 1)) ∧ (n = n0 ∨ n = kidN y.num zx n0 ∨ n = setN y.data y.num zx n0 ∨ n = aclN y.acl y.num n0))) ∧ thereT (partZ τ y zx).1 [47] ∧ (∀ q, thereT (partZ τ y zx).1 q → q ≠ [47] → thereT (partZ τ y zx).1 (parentZ q)) ∧ (partZ τ y zx).1.nodes.length ≤ 60 ∧ ¬ y.kind = 1 ∨ y.kind = 1 ∧ (∀ q n, alook (partZ τ y zx).1.nodes q = some n → (∃ n0, (alook τ.nodes q = some n0 ∨ (n0 = newN y zx ∧ q = y.path ∧ y.kind = 1)) ∧ (n = n0 ∨ n = kidN y.num zx n0 ∨ n = setN y.data y.num zx n0 ∨ n = aclN y.acl y.num n0))) ∧ thereT (partZ τ y zx).1 [47] ∧ (∀ q, thereT (partZ τ y zx).1 q → q ≠ [47] → thereT (partZ τ y zx).1 (parentZ q)) ∧ y.path ≠ [47] by
    have hok := h.ok.part y zx (by omega)
    have key : (∀ q n, alook (partZ τ y zx).1.nodes q = some n → (∃ n0, (alook τ.nodes q = some n0 ∨ (n0 = newN y zx ∧ q = y.path ∧ y.kind = 1)) ∧ (n = n0 ∨ n = kidN y.num zx n0 ∨ n = setN y.data y.num zx n0 ∨ n = aclN y.acl y.num n0))) ∧ thereT (partZ τ y zx).1 [47] ∧ (∀ q, thereT (partZ τ y zx).1 q → q ≠ [47] → thereT (partZ τ y zx).1 (parentZ q)) ∧ (partZ τ y zx).1.nodes.length ≤ 60 ∧ (y.kind = 1 → y.path ≠ [47]) := by
      rcases hn with ⟨h1, h2, h3, h4, h5⟩ | ⟨h0, h1, h2, h3, h5⟩
      · exact ⟨h1, h2, h3, h4, fun g => absurd g h5⟩
      · refine ⟨h1, h2, h3, ?_, fun _ => h5⟩
        have hr := hp.room h0
        unfold partZ createZ
        rw [if_pos h0]
        split
        · show (amod (sset _ _ _) _ _).length ≤ 60
          rw [amod_len]
          have := (sset_len τ.nodes y.path (newN y zx)).1
          omega
        · show τ.nodes.length ≤ 60
          omega
    obtain ⟨g1, g2, g3, g4, g5⟩ := key
    have hv : ∀ q n, alook (partZ τ y zx).1.nodes q = some n → ((0 ≤ n.st.ver ∧ n.st.ver ≤ K + 1) ∧ (0 ≤ n.st.cver ∧ n.st.cver ≤ K + 1) ∧ (0 ≤ n.st.av ∧ n.st.av ≤ K + 1)) ∧ (n.st.own = 0 ∨ ∃ s, alook (partZ τ y zx).1.sess n.st.own = some s) ∧ n.data.length ≤ 100 ∧ wld n.acl ∧ n.st.len = 0 ∧ n.st.kids = 0 := by
      intro q n hq
      obtain ⟨n0, g, e⟩ := g1 q n hq
      have hk := h.zx0
      obtain ⟨p1, p2⟩ := hp.num
      rw [hses]
      have base : ((0 ≤ n0.st.ver ∧ n0.st.ver ≤ K + 1) ∧ (0 ≤ n0.st.cver ∧ n0.st.cver ≤ K + 1) ∧ (0 ≤ n0.st.av ∧ n0.st.av ≤ K + 1)) ∧ (n0.st.own = 0 ∨ ∃ s, alook τ.sess n0.st.own = some s) ∧ n0.data.length ≤ 100 ∧ wld n0.acl ∧ n0.st.len = 0 ∧ n0.st.kids = 0 := by
        rcases g with g | ⟨rfl, -, -⟩
        · have := h.ver q n0 g
          exact ⟨by omega, h.own q n0 g, h.data q n0 g, h.acl q n0 g, h.bare q n0 g⟩
        · refine ⟨?_, hp.own, hp.data, hp.acl, rfl, rfl⟩
          show ((0 : Int) ≤ 0 ∧ (0 : Int) ≤ K + 1) ∧ ((0 : Int) ≤ 0 ∧ (0 : Int) ≤ K + 1) ∧ ((0 : Int) ≤ 0 ∧ (0 : Int) ≤ K + 1)
          omega
      obtain ⟨b1, b2, b3, b4, b5⟩ := base
      rcases e with rfl | rfl | rfl | rfl
      · exact ⟨b1, b2, b3, b4, b5⟩
      · exact ⟨⟨b1.1, ⟨p1, p2⟩, b1.2.2⟩, b2, b3, b4, b5⟩
      · exact ⟨⟨⟨p1, p2⟩, b1.2.1, b1.2.2⟩, b2, hp.data, b4, b5⟩
      · exact ⟨⟨b1.1, b1.2.1, ⟨p1, p2⟩⟩, b2, b3, hp.acl, b5⟩
    refine ⟨⟨hok.sorted, hok.ssorted, g4, hok.able, hok.ids, hok.acls, ?_⟩, ?_, g3, fun q n hq => (hv q n hq).1, fun q n hq => (hv q n hq).2.1, ?_, fun q n hq => (hv q n hq).2.2.1, fun q n hq => (hv q n hq).2.2.2.1, fun q n hq => (hv q n hq).2.2.2.2, by have := h.zx0; omega⟩
    · rw [hses]; exact h.ok.sfew
    · obtain ⟨n, hn⟩ := there_some.1 g2
      refine ⟨n, hn, ?_⟩
      obtain ⟨r, hr, hr0⟩ := h.root
      obtain ⟨n0, g, e⟩ := g1 _ _ hn
      have : n0.st.own = 0 := by
        rcases g with g | ⟨-, g, g'⟩
        · rw [hr] at g; cases g; exact hr0
        · exact absurd g.symm (g5 g')
      rcases e with rfl | rfl | rfl | rfl <;> exact this
    · rw [hses]; exact h.ids
  unfold findsZ at hs
  split at hs
  · rename_i h1
    obtain ⟨ha, hnt, hu⟩ := of_decide_eq_true hs
    refine .inr ⟨h1, fun q n hq => ?_, ?_, fun q hq hne => ?_, ha.1⟩
    · rw [create_at h1 ha hu] at hq
      by_cases e1 : q = parentZ y.path
      · rw [if_pos e1] at hq
        obtain ⟨n0, g, rfl⟩ := map_some hq
        by_cases e2 : q = y.path
        · rw [if_pos e2] at g; cases g
          exact ⟨_, .inr ⟨rfl, e2, h1⟩, .inr (.inl rfl)⟩
        · rw [if_neg e2] at g
          exact ⟨_, .inl g, .inr (.inl rfl)⟩
      · rw [if_neg e1] at hq
        by_cases e2 : q = y.path
        · rw [if_pos e2] at hq; cases hq
          exact ⟨_, .inr ⟨rfl, e2, h1⟩, .inl rfl⟩
        · rw [if_neg e2] at hq
          exact ⟨_, .inl hq, .inl rfl⟩
    · have := h.rootT
      unfold thereT at this ⊢
      rw [create_at h1 ha hu]
      rw [if_neg (show ¬ [47] = y.path from fun e => ha.1 e.symm)]
      split
      · rw [Option.isSome_map]; exact this
      · exact this
    · have hth : ∀ r, thereT (partZ τ y zx).1 r ↔ r = y.path ∨ thereT τ r := by
        intro r
        unfold thereT
        rw [create_at h1 ha hu]
        by_cases e2 : r = y.path
        · rw [if_pos e2]; split <;> simp [e2]
        · rw [if_neg e2]; split <;> simp [e2]
      rw [hth] at hq ⊢
      right
      rcases hq with rfl | hq
      · exact hu
      · exact h.closed q hq hne
  · rename_i h1
    split at hs
    · rename_i h2
      obtain ⟨hr, ht, hk⟩ := of_decide_eq_true hs
      have ha := h.able ht hr
      have hth : ∀ r, thereT (partZ τ y zx).1 r ↔ thereT τ r ∧ hitT r y.path = false := by
        intro r
        unfold thereT
        rw [erase_at h2 ha]
        cases e : hitT r y.path <;> split <;> simp
      refine .inl ⟨fun q n hq => ?_, ?_, fun q hq hne => ?_, ?_, h1⟩
      · rw [erase_at h2 ha] at hq
        by_cases e1 : q = parentZ y.path
        · rw [if_pos e1] at hq
          obtain ⟨n0, g, rfl⟩ := map_some hq
          split at g
          · cases g
          · exact ⟨_, .inl g, .inr (.inl rfl)⟩
        · rw [if_neg e1] at hq
          split at hq
          · cases hq
          · exact ⟨_, .inl hq, .inl rfl⟩
      · rw [hth]
        refine ⟨h.rootT, ?_⟩
        cases e : hitT [47] y.path with
        | false => rfl
        | true =>
          obtain ⟨r, e2⟩ := hit_pre e
          have := congrArg List.length e2
          simp at this
          cases hy : y.path with
          | nil => exact absurd (h.able ht hr) (by rw [hy]; decide)
          | cons c r2 =>
            rw [hy] at e2
            simp at e2
            exact absurd (by rw [hy, ← e2.1, e2.2.1]) hr
      · rw [hth] at hq ⊢
        refine ⟨h.closed q hq.1 hne, ?_⟩
        cases e : hitT (parentZ q) y.path with
        | false => rfl
        | true => rw [hit_parent (h.able hq.1 hne) hr e] at hq; exact absurd hq.2 (by decide)
      · unfold partZ eraseZ
        rw [if_neg h1, if_pos h2, if_pos ha]
        show (amod (cutT τ y.path).nodes _ _).length ≤ 60
        rw [amod_len]
        exact Nat.le_trans (cut_len τ y.path) h.ok.few
    · rename_i h2
      split at hs
      · rename_i h3
        have ht := of_decide_eq_true hs
        have hth : ∀ r, thereT (partZ τ y zx).1 r ↔ thereT τ r := by
          intro r
          unfold thereT
          rcases h3 with h3 | h4
          · rw [set_at h3 ht]; split <;> simp
          · rw [acl_at h4 ht]; split <;> simp
        refine .inl ⟨fun q n hq => ?_, (hth _).2 h.rootT, fun q hq hne => (hth _).2 (h.closed q ((hth q).1 hq) hne), ?_, h1⟩
        · rcases h3 with h3 | h4
          · rw [set_at h3 ht] at hq
            split at hq
            · obtain ⟨n0, g, rfl⟩ := map_some hq
              exact ⟨_, .inl g, .inr (.inr (.inl rfl))⟩
            · exact ⟨_, .inl hq, .inl rfl⟩
          · rw [acl_at h4 ht] at hq
            split at hq
            · obtain ⟨n0, g, rfl⟩ := map_some hq
              exact ⟨_, .inl g, .inr (.inr (.inr rfl))⟩
            · exact ⟨_, .inl hq, .inl rfl⟩
        · unfold partZ
          rw [if_neg h1, if_neg h2]
          have := h.ok.few
          split
          · show (amod _ _ _).length ≤ 60
            rw [amod_len]; exact this
          · split
            · show (amod _ _ _).length ≤ 60
              rw [amod_len]; exact this
            · exact this
      · cases hs
/-! ### Parts, one by one -/
theorem snocInd {α : Type} {P : List α → Prop} (h0 : P []) (h1 : ∀ l x, P l → P (l ++ [x])) (l : List α) : P l := by
  have : ∀ m : List α, P m.reverse := by
    intro m
    induction m with
    | nil => exact h0
    | cons x m ih => rw [List.reverse_cons]; exact h1 _ _ ih
  have := this l.reverse
  rwa [List.reverse_reverse] at this
theorem parts_at {τ : Tr} {zx : Int} {subs : List Pt} {i : Nat} (hi : i < subs.length) : (partsZ τ zx (subs.take (i + 1))).1 = (partZ (partsZ τ zx (subs.take i)).1 subs[i] zx).1 := by
  rw [List.take_succ_eq_append_getElem hi, parts_snoc]
theorem soundL_at {τ : Tr} {zx : Int} {cl : Bool} {subs : List Pt} (hs : soundL τ zx cl subs = true) : ∀ i, i ≤ subs.length → soundL (partsZ τ zx (subs.take i)).1 zx cl (subs.drop i) = true := by
  intro i
  induction i with
  | zero => intro _; rw [List.take_zero]; exact hs
  | succ i ih =>
    intro hi
    have := ih (by omega)
    rw [sound_step (by omega)] at this
    simp only [Bool.and_eq_true] at this
    exact this.2
theorem soundL_finds {τ : Tr} {zx : Int} {cl : Bool} {subs : List Pt} (hs : soundL τ zx cl subs = true) {i : Nat} (hi : i < subs.length) : findsZ (partsZ τ zx (subs.take i)).1 subs[i] = true := by
  have := soundL_at hs i (by omega)
  rw [sound_step hi] at this
  simp only [Bool.and_eq_true] at this
  exact this.1.1
theorem HInv.parts {τ : Tr} {K : Int} (h : HInv τ K) {zx : Int} {cl : Bool} {subs : List Pt} (hs : soundL τ zx cl subs = true) (hp : PartsH τ zx subs K) : ∀ i, i ≤ subs.length → HInv (partsZ τ zx (subs.take i)).1 (K + i) := by
  intro i
  induction i with
  | zero => intro _; rw [List.take_zero]; exact h.more (by omega)
  | succ i ih =>
    intro hi
    rw [parts_at (by omega)]
    exact ((ih (by omega)).part (soundL_finds hs (by omega)) (hp i (by omega))).more (by omega)
theorem parts_sess (τ : Tr) (zx : Int) (l : List Pt) : (partsZ τ zx l).1.sess = τ.sess := by
  induction l using snocInd with
  | h0 => rfl
  | h1 l x ih => rw [parts_snoc]; dsimp only; rw [part_sess, ih]
theorem HInv.sfew {l : List (Int × (Int × Bs))} (hs : SortedK l) (h : ∀ i s, alook l i = some s → 1 ≤ i ∧ i ≤ 5) : l.length ≤ 5 := by
  have hn := hs.nodup linI
  have := nodup_len (l := l.map (·.1)) (m := [1, 2, 3, 4, 5]) hn fun x hx => by
    have h1 := al_isSome.2 hx
    obtain ⟨s, e⟩ := Option.isSome_iff_exists.1 h1
    have := h x s e
    have : x = 1 ∨ x = 2 ∨ x = 3 ∨ x = 4 ∨ x = 5 := by omega
    simpa using this
  simpa using this
theorem HInv.opens {τ : Tr} {K : Int} (h : HInv τ K) {id n : Int} {s : Bs} (hi : 1 ≤ id ∧ id ≤ 5) : HInv (openS τ id n s) K := by
  have hl : ∀ i, alook (openS τ id n s).sess i = if i = id then some (n, s) else alook τ.sess i := fun i => al_sset τ.sess id i (n, s)
  have hids : ∀ i r, alook (openS τ id n s).sess i = some r → 1 ≤ i ∧ i ≤ 5 := by
    intro i r hr
    rw [hl] at hr
    split at hr
    · rename_i e; rw [e]; exact hi
    · exact h.ids i r hr
  have hk := h.ok.openS (id := id) (by omega) n s
  refine ⟨⟨hk.sorted, hk.ssorted, h.ok.few, hk.able, hk.ids, hk.acls, by have := HInv.sfew hk.ssorted hids; omega⟩, h.root, h.closed, h.ver, fun q m hq => ?_, hids, h.data, h.acl, h.bare, h.zx0⟩
  rcases h.own q m hq with e | ⟨r, e⟩
  · exact .inl e
  · right; rw [hl]
    split
    · exact ⟨_, rfl⟩
    · exact ⟨r, e⟩
/-- What deletes leave. -/
theorem dels_left {τ : Tr} {zx : Int} {subs : List Pt} (hk : ∀ y ∈ subs, y.kind = 2) : ∀ i, i ≤ subs.length → (∀ j (hj : j < subs.length), j < i → ableZ subs[j].path) → ∀ q n, alook (partsZ τ zx (subs.take i)).1.nodes q = some n → (∃ n0, alook τ.nodes q = some n0 ∧ n0.st.own = n.st.own) ∧ ∀ j (hj : j < subs.length), j < i → hitT q subs[j].path = false := by
  intro i
  induction i with
  | zero => intro _ _ q n hq; exact ⟨⟨n, by rw [List.take_zero] at hq; exact hq, rfl⟩, fun j _ hj => by omega⟩
  | succ i ih =>
    intro hi ha q n hq
    have hi2 : i < subs.length := by omega
    rw [parts_at hi2, erase_at (hk _ (List.getElem_mem hi2)) (ha i hi2 (by omega))] at hq
    have key : ∃ n0, alook (partsZ τ zx (subs.take i)).1.nodes q = some n0 ∧ n0.st.own = n.st.own ∧ hitT q subs[i].path = false := by
      split at hq
      · obtain ⟨n0, g, rfl⟩ := map_some hq
        split at g
        · cases g
        · rename_i e; exact ⟨n0, g, rfl, by simpa using e⟩
      · split at hq
        · cases hq
        · rename_i e; exact ⟨n, hq, rfl, by simpa using e⟩
    obtain ⟨n0, g1, g2, g3⟩ := key
    obtain ⟨⟨n1, k1, k2⟩, k3⟩ := ih (by omega) (fun j hj hji => ha j hj (by omega)) q n0 g1
    refine ⟨⟨n1, k1, k2.trans g2⟩, fun j hj hji => ?_⟩
    by_cases e : j = i
    · subst e; exact g3
    · exact k3 j hj (by omega)
theorem hit_self (q : Bs) : hitT q q = true := by unfold hitT; simp
theorem owned_mem {τ : Tr} {s : Int} {q : Bs} (hn : (τ.nodes.map (·.1)).Nodup) : q ∈ ownedZ τ s ↔ s ≠ 0 ∧ ∃ n, alook τ.nodes q = some n ∧ n.st.own = s := by
  unfold ownedZ
  rw [List.mem_map]
  constructor
  · rintro ⟨⟨q', n⟩, hm, rfl⟩
    obtain ⟨h1, h2⟩ := List.mem_filter.1 hm
    simp at h2
    exact ⟨h2.1, n, al_of_mem hn h1, h2.2⟩
  · rintro ⟨h0, n, h1, h2⟩
    exact ⟨(q, n), List.mem_filter.2 ⟨al_mem h1, by simp [h0, h2]⟩, rfl⟩
theorem finds_del {τ : Tr} {K : Int} (h : HInv τ K) {y : Pt} (hs : findsZ τ y = true) (hk : y.kind = 2) : ableZ y.path := by
  unfold findsZ at hs
  rw [if_neg (by omega), if_pos hk] at hs
  obtain ⟨h1, h2, -⟩ := of_decide_eq_true hs
  exact h.able h2 h1
/-- Behind the deletes of a session's end nothing is its own. -/
theorem close_none {τ : Tr} {K : Int} (h : HInv τ K) {zx : Int} {x : Pt} {subs : List Pt} (hs : soundL τ zx true subs = true) (hp : PartsH τ zx subs K) (hc : CloseH τ x subs) : ∀ q n, alook (partsZ τ zx subs).1.nodes q = some n → n.st.own ≠ x.own := by
  intro q n hq e
  have ha : ∀ j (hj : j < subs.length), j < subs.length → ableZ subs[j].path := fun j hj _ =>
    finds_del (h.parts hs hp j (by omega)) (soundL_finds hs hj) (hc.kinds _ (List.getElem_mem hj))
  have hq' : alook (partsZ τ zx (subs.take subs.length)).1.nodes q = some n := by rw [List.take_length]; exact hq
  obtain ⟨⟨n0, g1, g2⟩, g3⟩ := dels_left hc.kinds subs.length (Nat.le_refl _) ha q n hq'
  have hm : q ∈ ownedZ τ x.own := (owned_mem (h.ok.sorted.nodup linB)).2 ⟨by have := hc.own.1; omega, n0, g1, g2.trans e⟩
  have hm2 : q ∈ subs.map (·.path) := by rw [hc.paths]; simpa using hm
  obtain ⟨y, hy, rfl⟩ := List.mem_map.1 hm2
  obtain ⟨j, hj, rfl⟩ := List.mem_iff_getElem.1 hy
  have := g3 j hj hj
  rw [hit_self] at this; cases this
theorem HInv.drop {τ : Tr} {K : Int} (h : HInv τ K) {id : Int} (hno : ∀ q n, alook τ.nodes q = some n → n.st.own ≠ id) : HInv (dropS τ id) K := by
  have hl : ∀ i, alook (dropS τ id).sess i = if i = id then none else alook τ.sess i := by
    intro i
    show alook (τ.sess.filter fun y => !decide (y.1 = id)) i = _
    rw [al_filter (fun k => !decide (k = id))]
    by_cases e : i = id <;> simp [e]
  refine ⟨h.ok.dropS id, h.root, h.closed, h.ver, fun q n hq => ?_, fun i s hi => ?_, h.data, h.acl, h.bare, h.zx0⟩
  · rcases h.own q n hq with e | ⟨s, e⟩
    · exact .inl e
    · right; rw [hl, if_neg (hno q n hq)]; exact ⟨s, e⟩
  · rw [hl] at hi
    split at hi
    · cases hi
    · exact h.ids i s hi
theorem sound_parts {τ : Tr} {zx : Int} {x : Pt} {subs : List Pt} (h : soundZ τ zx x subs = true) (hk : x.kind = 6 ∨ x.kind = 7) : soundL τ zx (decide (x.kind = 6)) subs = true := by
  unfold soundZ at h
  rw [if_neg (by omega), if_pos hk] at h
  exact h
theorem filter_del {subs : List Pt} (h : ∀ y ∈ subs, y.kind = 2) : subs.filter isDel = subs := List.filter_eq_self.2 fun y hy => by unfold isDel; rw [decide_eq_true (h y hy)]
/-- What an entry does. -/
theorem app_part {τ : Tr} {e : En} (h : e.x.kind ≤ 4 ∨ 8 < e.x.kind) : appE τ e = zxT (partZ τ e.x e.zx).1 e.zx := by
  unfold appE applyZ; dsimp only
  have hz : ∀ (x : Pt) (zx z : Int), partZ (zxT τ z) x zx = (zxT (partZ τ x zx).1 z, (partZ τ x zx).2) := by
    intro x zx z
    unfold partZ createZ eraseZ
    have h : ∀ p, thereT (zxT τ z) p ↔ thereT τ p := fun p => Iff.rfl
    simp only [h]
    repeat' split
    all_goals first | rfl | contradiction
  rw [if_neg (by omega), if_neg (by omega), if_neg (by omega), if_neg (by omega), hz]
theorem part_zx' (τ : Tr) (x : Pt) (zx z : Int) : (partZ (zxT τ z) x zx).1 = zxT (partZ τ x zx).1 z := by
  unfold partZ createZ eraseZ
  have h : ∀ p, thereT (zxT τ z) p ↔ thereT τ p := fun p => Iff.rfl
  simp only [h]
  repeat' split
  all_goals first | rfl | contradiction
theorem parts_zx' (τ : Tr) (zx z : Int) (l : List Pt) : (partsZ (zxT τ z) zx l).1 = zxT (partsZ τ zx l).1 z := by
  induction l using snocInd with
  | h0 => rfl
  | h1 l x ih => rw [parts_snoc, parts_snoc]; dsimp only; rw [ih, part_zx']
theorem app_open {τ : Tr} {e : En} (h : e.x.kind = 5) (ho : 0 < e.x.own) : appE τ e = zxT (openS τ e.x.own e.x.num e.x.data) e.zx := by
  unfold appE applyZ; dsimp only; rw [if_pos h, if_pos ho]; rfl
theorem app_close {τ : Tr} {e : En} (h : e.x.kind = 6) (hk : ∀ y ∈ e.subs, y.kind = 2) : appE τ e = zxT (dropS (partsZ τ e.zx e.subs).1 e.x.own) e.zx := by
  unfold appE applyZ; dsimp only; rw [if_neg (by omega), if_pos h, filter_del hk, parts_zx']; rfl
theorem app_multi {τ : Tr} {e : En} (h : e.x.kind = 7) : appE τ e = zxT (partsZ τ e.zx e.subs).1 e.zx := by
  unfold appE applyZ; dsimp only; rw [if_neg (by omega), if_neg (by omega), if_pos h, parts_zx']
theorem app_err {τ : Tr} {e : En} (h : e.x.kind = 8) : appE τ e = zxT τ e.zx := by
  unfold appE applyZ; dsimp only; rw [if_neg (by omega), if_neg (by omega), if_neg (by omega), if_pos h]
theorem part_zero {τ : Tr} {x : Pt} {zx : Int} (h : x.kind = 0) : (partZ τ x zx).1 = τ := by
  unfold partZ
  rw [if_neg (by omega), if_neg (by omega), if_neg (by rintro ⟨g, -⟩; omega), if_neg (by rintro ⟨g, -⟩; omega)]
theorem HInv.app {τ : Tr} {K : Int} (h : HInv τ K) {e : En} (he : EntH τ e K) : HInv (appE τ e) (K + 60) := by
  rcases he.shape with ⟨hs, hp⟩ | ⟨hk, hs, ho, hn, hd, ha, hp⟩ | ⟨hk, hc, hps, ha, hd, hl, hp⟩ | ⟨hk, hps, ha, hd, hl, hp⟩ | ⟨hk, hs, he2, hn, ha, hd, hp⟩
  · rw [app_part (.inl hp.kind.2)]
    by_cases hz : e.x.kind = 0
    · rw [part_zero hz]; exact (h.zx _).more (by omega)
    · have hf : findsZ τ e.x = true := by
        have := he.sound
        unfold soundZ at this
        have hk := hp.kind
        rw [if_pos (by omega)] at this
        exact this
      exact ((h.part hf hp).zx _).more (by omega)
  · rw [app_open hk (by omega)]
    exact ((h.opens ho).zx _).more (by omega)
  · rw [app_close hk hc.kinds]
    have hsl := sound_parts he.sound (.inl hk)
    rw [decide_eq_true hk] at hsl
    have h2 := h.parts hsl hps e.subs.length (Nat.le_refl _)
    rw [List.take_length] at h2
    exact ((h2.drop (close_none h hsl hps hc)).zx _).more (by omega)
  · rw [app_multi hk]
    have h2 := h.parts (sound_parts he.sound (.inr hk)) hps e.subs.length (Nat.le_refl _)
    rw [List.take_length] at h2
    exact (h2.zx _).more (by omega)
  · rw [app_err hk]
    exact (h.zx _).more (by omega)
/-- A sound history, from a number on, and what comes of it. -/
inductive Hist (z0 : Int) : List En → Tr → Prop
  | nil : Hist z0 [] newT
  | snoc {l : List En} {τ : Tr} {e : En} (h : Hist z0 l τ) (he : EntH τ e (60 * l.length)) (hz : e.zx = z0 + l.length) (hx : 0 ≤ e.xid ∧ e.xid < 150) : Hist z0 (l ++ [e]) (appE τ e)
theorem Hist.tree {z0 : Int} {l : List En} {τ : Tr} (h : Hist z0 l τ) : τ = appL newT l := by
  induction h with
  | nil => rfl
  | snoc _ _ _ _ ih => rw [appL_snoc, ← ih]
theorem Hist.inv {z0 : Int} {l : List En} {τ : Tr} (h : Hist z0 l τ) : HInv τ (60 * l.length) := by
  induction h with
  | nil => exact HInv.new
  | snoc _ he _ _ ih => exact (ih.app he).more (by rw [List.length_append]; simp; omega)
/-- Every beginning of a history is one. -/
theorem Hist.take {z0 : Int} {l : List En} {τ : Tr} (h : Hist z0 l τ) : ∀ i, i ≤ l.length → Hist z0 (l.take i) (appL newT (l.take i)) := by
  induction h with
  | nil => intro i _; rw [List.take_nil]; exact .nil
  | @snoc l τ e h0 he hz hx ih =>
    intro i hi
    by_cases g : i ≤ l.length
    · rw [List.take_append_of_le_length g]; exact ih i g
    · have : i = (l ++ [e]).length := by rw [List.length_append] at hi ⊢; simp at hi ⊢; omega
      rw [this, List.take_length, ← (Hist.snoc h0 he hz hx).tree]
      exact .snoc h0 he hz hx
theorem Hist.at {z0 : Int} {l : List En} {τ : Tr} (h : Hist z0 l τ) : ∀ i (hi : i < l.length), EntH (appL newT (l.take i)) l[i] (60 * i) ∧ l[i].zx = z0 + i := by
  induction h with
  | nil => intro i hi; simp at hi
  | @snoc l τ e h0 he hz hx ih =>
    intro i hi
    by_cases g : i < l.length
    · rw [List.take_append_of_le_length (by omega), List.getElem_append_left g]; exact ih i g
    · have : i = l.length := by rw [List.length_append] at hi; simp at hi; omega
      subst this
      rw [List.take_append_of_le_length (Nat.le_refl _), List.take_length, List.getElem_append_right (Nat.le_refl _)]
      rw [← h0.tree]
      simpa using ⟨he, hz⟩
/-! ### In memory -/
def txRd (x : Pt) (subs : List Pt) : HP := fun h => rdS 2 h x.aclV x.acl.length (x.acl.flatMap acC) ∧ rdS 8 h x.subsV subs.length (subs.flatMap ptC) ∧ ∀ y ∈ subs, rdS 2 h y.aclV y.acl.length (y.acl.flatMap acC)
def enRd (e : En) : HP := txRd e.x e.subs
def ensA (l : List En) : HP := fun h => ∀ e ∈ l, enRd e h
/-- Sizes that every entry of a history keeps. -/
structure EnSz (e : En) : Prop where
  acl : e.x.acl.length ≤ 1
  path : e.x.path.length ≤ 62
  few : e.subs.length ≤ 60
  each : ∀ y ∈ e.subs, y.acl.length ≤ 1 ∧ y.path.length ≤ 62
theorem PartsH.each {τ : Tr} {zx : Int} {subs : List Pt} {K : Int} (h : PartsH τ zx subs K) : ∀ y ∈ subs, y.acl.length ≤ 1 ∧ y.path.length ≤ 62 := fun y hy => by
  obtain ⟨i, hi, rfl⟩ := List.mem_iff_getElem.1 hy
  exact ⟨wld_len (h i hi).acl, (h i hi).path⟩
theorem ShapeH.sz {τ : Tr} {e : En} {K : Int} (h : ShapeH τ e.zx e.x e.subs K) : EnSz e := by
  rcases h with ⟨hs, hp⟩ | ⟨hk, hs, ho, hn, hd, ha, hp⟩ | ⟨hk, hc, hps, ha, hd, hl, hp⟩ | ⟨hk, hps, ha, hd, hl, hp⟩ | ⟨hk, hs, he2, hn, ha, hd, hp⟩
  · exact ⟨wld_len hp.acl, hp.path, by rw [hs]; simp, by rw [hs]; simp⟩
  · exact ⟨by rw [ha]; simp, by rw [hp]; simp, by rw [hs]; simp, by rw [hs]; simp⟩
  · exact ⟨by rw [ha]; simp, by rw [hp]; simp, hl, hps.each⟩
  · exact ⟨by rw [ha]; simp, by rw [hp]; simp, by omega, hps.each⟩
  · exact ⟨by rw [ha]; simp, by rw [hp]; simp, by rw [hs]; simp, by rw [hs]; simp⟩
/-! ### A session's end, path by path -/
theorem owned_sorted {τ : Tr} {N : Nat} (ho : τ.Ok N) (s : Int) : (ownedZ τ s).Pairwise (· < ·) := ho.sorted.filter _
theorem owned_able {τ : Tr} {K : Int} (h : HInv τ K) {s : Int} {q : Bs} (hq : q ∈ ownedZ τ s) : ableZ q ∧ thereT τ q := by
  obtain ⟨h0, n, h1, h2⟩ := (owned_mem (h.ok.sorted.nodup linB)).1 hq
  have ht : thereT τ q := there_some.2 ⟨n, h1⟩
  refine ⟨h.able ht fun e => ?_, ht⟩
  subst e
  obtain ⟨r, g1, g2⟩ := h.root
  rw [h1] at g1; cases g1
  exact h0 (h2.symm.trans g2)
theorem dels_there {τ : Tr} {zx : Int} {q : Bs} (l : List Pt) : (∀ y ∈ l, y.kind = 2 ∧ ableZ y.path) → (thereT (partsZ τ zx l).1 q ↔ thereT τ q ∧ ∀ y ∈ l, hitT q y.path = false) := by
  induction l using snocInd with
  | h0 => intro _; exact ⟨fun h => ⟨h, fun y hy => by cases hy⟩, fun h => h.1⟩
  | h1 l x ih =>
    intro hl
    obtain ⟨k1, k2⟩ := hl x (by simp)
    have ih2 := ih fun y hy => hl y (by simp [hy])
    have e : thereT (partsZ τ zx (l ++ [x])).1 q ↔ thereT (partsZ τ zx l).1 q ∧ hitT q x.path = false := by
      rw [parts_snoc]
      unfold thereT
      dsimp only
      rw [erase_at k1 k2]
      cases hitT q x.path <;> split <;> simp
    rw [e, ih2]
    constructor
    · rintro ⟨⟨a, b⟩, c⟩
      refine ⟨a, fun y hy => ?_⟩
      rcases List.mem_append.1 hy with hy | hy
      · exact b y hy
      · rw [List.mem_singleton] at hy; subst hy; exact c
    · rintro ⟨a, b⟩
      exact ⟨⟨a, fun y hy => b y (by simp [hy])⟩, b x (by simp)⟩
structure DelI (τ : Tr) (zx K own : Int) (j : Nat) (l : List Pt) : Prop where
  le : j ≤ (ownedZ τ own).length
  paths : l.map (·.path) = ((ownedZ τ own).drop j).reverse
  kinds : ∀ y ∈ l, y.kind = 2 ∧ y.aclV = .slice none 0 0 ∧ y.acl = [] ∧ y.subsV = .slice none 0 0
  parts : PartsH τ zx l K
  ver : ∀ q n, alook (partsZ τ zx l).1.nodes q = some n → 0 ≤ n.st.cver ∧ n.st.cver ≤ K + l.length
theorem DelI.len {τ : Tr} {zx K own : Int} {j : Nat} {l : List Pt} (h : DelI τ zx K own j l) : l.length + j = (ownedZ τ own).length := by
  have := congrArg List.length h.paths
  simp at this
  have := h.le
  omega
theorem DelI.able {τ : Tr} {zx K own : Int} {j : Nat} {l : List Pt} (h : DelI τ zx K own j l) (hi : HInv τ K) : ∀ y ∈ l, y.kind = 2 ∧ ableZ y.path := fun y hy => by
  refine ⟨(h.kinds y hy).1, ?_⟩
  have h1 : y.path ∈ l.map (·.path) := List.mem_map_of_mem hy
  rw [h.paths] at h1
  exact (owned_able hi (List.mem_of_mem_drop (List.mem_reverse.1 h1))).1
theorem DelI.parent {τ : Tr} {zx K own : Int} {k : Nat} {l : List Pt} (h : DelI τ zx K own (k + 1) l) (hi : HInv τ K) : thereT (partsZ τ zx l).1 (parentZ ((ownedZ τ own)[k]'(h.le))) := by
  obtain ⟨ha, ht⟩ := owned_able hi (List.getElem_mem (l := ownedZ τ own) h.le)
  rw [dels_there l (h.able hi)]
  refine ⟨hi.closed _ ht ha.1, fun y hy => ?_⟩
  have h1 : y.path ∈ l.map (·.path) := List.mem_map_of_mem hy
  rw [h.paths, List.mem_reverse] at h1
  obtain ⟨m, hm, e⟩ := List.mem_iff_getElem.1 h1
  rw [List.getElem_drop] at e
  have hm2 : k + 1 + m < (ownedZ τ own).length := by rw [List.length_drop] at hm; omega
  have hlt := List.pairwise_iff_getElem.1 (owned_sorted hi.ok own) k (k + 1 + m) h.le hm2 (by omega)
  cases e2 : hitT (parentZ (ownedZ τ own)[k]) y.path with
  | false => rfl
  | true =>
    refine absurd (linB.tr _ _ _ (parent_lt ha) ?_) (hit_le e2)
    rw [← e]; exact hlt
theorem DelI.step {τ : Tr} {zx K own : Int} {k : Nat} {l : List Pt} (h : DelI τ zx K own (k + 1) l) (hi : HInv τ K) {n : Nd} (hn : alook (partsZ τ zx l).1.nodes (parentZ ((ownedZ τ own)[k]'(h.le))) = some n) : DelI τ zx K own k (l ++ [⟨2, (ownedZ τ own)[k]'(h.le), [], .slice none 0 0, [], 0, n.st.cver + 1, 0, .slice none 0 0⟩]) := by
  have hle := h.le
  obtain ⟨ha, ht⟩ := owned_able hi (List.getElem_mem (l := ownedZ τ own) h.le)
  have hv := h.ver _ _ hn
  refine ⟨by omega, ?_, fun y hy => ?_, fun i hl => ?_, fun q m hq => ?_⟩
  · rw [List.map_append, h.paths, List.drop_eq_getElem_cons (show k < (ownedZ τ own).length from hle), List.reverse_cons]; rfl
  · rcases List.mem_append.1 hy with hy | hy
    · exact h.kinds y hy
    · rw [List.mem_singleton] at hy; subst hy; exact ⟨rfl, rfl, rfl, rfl⟩
  · by_cases g : i < l.length
    · rw [List.take_append_of_le_length (by omega), List.getElem_append_left g]; exact h.parts i g
    · have : i = l.length := by rw [List.length_append] at hl; simp at hl; omega
      subst this
      rw [List.take_append_of_le_length (Nat.le_refl _), List.take_length, List.getElem_append_right (Nat.le_refl _)]
      have hpl := able_len (.inr ha)
      simp only [Nat.sub_self, List.getElem_cons_zero]
      exact ⟨⟨by show (0 : Int) ≤ 2; decide, by show (2 : Int) ≤ 4; decide⟩, by show ((ownedZ τ own)[k]).length ≤ 62; omega, by simp, .inl rfl, .inl rfl, ⟨by show 0 ≤ n.st.cver + 1; omega, by show n.st.cver + 1 ≤ K + l.length + 1; omega⟩, rfl, fun e => by cases e⟩
  · rw [parts_snoc] at hq
    dsimp only at hq
    rw [erase_at rfl ha] at hq
    rw [List.length_append]
    simp only [List.length_cons, List.length_nil]
    split at hq
    · obtain ⟨n0, g, rfl⟩ := map_some hq
      show 0 ≤ n.st.cver + 1 ∧ n.st.cver + 1 ≤ K + (l.length + 1 : Nat)
      omega
    · split at hq
      · cases hq
      · have := h.ver q m hq
        omega
theorem PartsH.snoc {τ : Tr} {zx : Int} {l : List Pt} {K : Int} {y : Pt} (h : PartsH τ zx l K) (hy : PartH (partsZ τ zx l).1 y (K + l.length)) : PartsH τ zx (l ++ [y]) K := by
  intro i hl
  by_cases g : i < l.length
  · rw [List.take_append_of_le_length (by omega), List.getElem_append_left g]; exact h i g
  · have : i = l.length := by rw [List.length_append] at hl; simp at hl; omega
    subst this
    rw [List.take_append_of_le_length (Nat.le_refl _), List.take_length, List.getElem_append_right (Nat.le_refl _)]
    simpa using hy
/-- Rows of ACLs of parts that are read. -/
def aclsA (l : List Pt) : HP := fun h => ∀ y ∈ l, rdS 2 h y.aclV y.acl.length (y.acl.flatMap acC)
theorem ShapeH.tx {τ : Tr} {e : En} {K : Int} (h : ShapeH τ e.zx e.x e.subs K) (c : TxC e.x e.subs) {p : HP} (hp : ∀ h : Hp, p h → txRd e.x e.subs h) : TxA p e.x e.subs := by
  have hz := h.sz
  obtain ⟨c1, c2, c3⟩ := c
  refine ⟨⟨fun w hw => (hp w hw).1, by have := hz.acl; omega, by have := hz.path; omega, c2, c1⟩, fun w hw => (hp w hw).2.1, by have := hz.few; omega, fun y hy => ?_⟩
  obtain ⟨g1, g2⟩ := hz.each y hy
  exact ⟨fun w hw => (hp w hw).2.2 y hy, by omega, by omega, (c3 y hy).2, (c3 y hy).1⟩
theorem EntH.txOf {τ : Tr} {e : En} {K : Int} (h : EntH τ e K) {p : HP} (hp : ∀ h : Hp, p h → enRd e h) : TxA p e.x e.subs := h.shape.tx h.cells hp
/-- Raw acts, with what lies in them. -/
structure Acts1 (p : HP) (v : Value) (xs : List Ac0) : Prop where
  own : Acts0 p v xs
  subs : ∀ a ∈ xs, ∃ ss, Acts0 p a.2.2.2.2 ss ∧ ∀ s ∈ ss, isCell s.2.2.2.2 = true
theorem Hist.tx {z0 : Int} {l : List En} {τ : Tr} (h : Hist z0 l τ) : ∀ i (hi : i < l.length), TxA (ensA l) l[i].x l[i].subs := fun i hi =>
  (h.at i hi).1.txOf fun _ hw => hw _ (List.getElem_mem hi)
end Go.Proofs.YtnnbelmpbmfdnaaGreatDoor

/- Own work, by program: package tree: Owned, Session, Kids: walked. -/

namespace Go.Proofs.YtnnbelmpbmfdnaaGreatDoor
open Go
def ownK (l : List (Bs × Nd)) (s : Int) : List Bs := (l.filter fun y => !decide (s = 0) && decide (y.2.st.own = s)).map (·.1)
theorem ownK_len (l : List (Bs × Nd)) (s : Int) : (ownK l s).length ≤ l.length := by unfold ownK; rw [List.length_map]; exact List.length_filter_le _ _
theorem ownK_yes {l : List (Bs × Nd)} {s : Int} {i : Nat} (hi : i < l.length) (h0 : s ≠ 0) (h : l[i].2.st.own = s) : ownK (l.take (i + 1)) s = ownK (l.take i) s ++ [l[i].1] := by
  unfold ownK; rw [List.take_succ_eq_append_getElem hi, List.filter_append, List.map_append]; simp [h0, h]
theorem ownK_no {l : List (Bs × Nd)} {s : Int} {i : Nat} (hi : i < l.length) (h : s ≠ 0 → l[i].2.st.own ≠ s) : ownK (l.take (i + 1)) s = ownK (l.take i) s := by
  unfold ownK; rw [List.take_succ_eq_append_getElem hi, List.filter_append, List.map_append]
  simp; intro h0; exact h h0
theorem TrI.getAt {τ : Tr} {m : NmM} {s : SsM} (h : TrI τ m s) {N : Nat} (ho : τ.Ok N) {i : Nat} (hi : i < τ.nodes.length) : ∃ px, alook m τ.nodes[i].1 = some px ∧ px.2.2 = τ.nodes[i].2 := by
  have h1 : alook τ.nodes τ.nodes[i].1 = some τ.nodes[i].2 := al_of_mem (ho.sorted.nodup linB) (List.getElem_mem hi)
  rw [← h.look] at h1
  rcases e : alook m τ.nodes[i].1 with _ | px
  · rw [e] at h1; cases h1
  · rw [e] at h1; exact ⟨px, rfl, by simpa using h1⟩
def sesD (τ : Tr) (id : Int) : Int × Bs := (alook τ.sess id).getD (0, [])
def sesT (τ : Tr) (id : Int) : Prop := (alook τ.sess id).isSome = true
instance (τ : Tr) (id : Int) : Decidable (sesT τ id) := inferInstanceAs (Decidable (_ = _))
set_option maxRecDepth 100000 in
theorem trowned_spec (t : Nat) (τ : Tr) (id : Int) (N : Nat) (ho : τ.Ok N) (hN : N ≤ 1099511627776) : Fn Tryz.prog 18 #[vptr t, vint id] [treeR t τ] fun v L => (∃ a c, v = .slice a (ownedZ τ id).length c) ∧ L = [treeR t τ, slR 9 1 v (ownedZ τ id).length (strs (ownedZ τ id))] := by
 refine Fn.intro (vs := [vptr t, vint id]) Tryz.func18 rfl rfl ?_
 intro F W
 have hfew := ho.few
 have hpz : (pathsZ τ).length = τ.nodes.length := List.length_map _
 refine G.seq (G.region (G.q (Quiet.assign rfl) rfl (G.nil (G.then_n (G.seq (G.add (slR_nil 9 1) (G.region (G.q (Quiet.assign rfl) rfl (G.nil (G.then_n (G.seq (G.seq (G.region (G.q (Quiet.move rfl) rfl ?_))))))))))))))
 refine G.op (OpSpec.call Tryz.func15 rfl rfl (vs := [_]) rfl (trpaths_spec t τ N ho hN)) (by (repeat' constructor)) rfl ?nx4
 rintro v L' ⟨⟨ap, cp, rfl⟩, rfl⟩
 refine G.q (Quiet.slen rfl Tryz.underlying40 rfl) rfl (G.q (Quiet.move rfl) rfl (G.nil (G.then_n (G.block ?_))))
 refine G.loopK (ι := Nat × Value) (fun q E => (11, vint q.1) :: (5, q.2) :: E) (fun q => [treeR t τ, slR 9 1 q.2 (ownK (τ.nodes.take q.1) id).length (strs (ownK (τ.nodes.take q.1) id))]) (fun q => q.1 ≤ (pathsZ τ).length ∧ ∃ a c, q.2 = .slice a (ownK (τ.nodes.take q.1) id).length c) (fun q => (pathsZ τ).length - q.1) (0, .slice none 0 0) (ts := [0, 1, 4, 9, 10]) (.cons rfl (.cons rfl (.cons rfl (.cons rfl (.cons rfl (.nil)))))) (⟨Nat.zero_le _, none, 0, rfl⟩) ⟨rfl, rfl, rfl, rfl, rfl, rfl, rfl, trivial⟩ (by (repeat' constructor)) ?_
 rintro ⟨i, u⟩ ⟨hi, au, cu, hu⟩
 dsimp only
 dsimp only at hi hu
 subst hu
 have hkl := ownK_len (τ.nodes.take i) id
 rw [List.length_take] at hkl
 refine G.seq (G.region (G.q (Quiet.int rfl rfl rfl) rfl (G.nil (G.then_n (G.seq ?_)))))
 refine G.condD rfl (fun h12 => ?_) (fun h12 => ?_)
 ·have hi2 : i < (pathsZ τ).length := by omega
  have hin : i < τ.nodes.length := by omega
  refine G.slShape (v := .slice ap _ cp) (by (repeat' constructor)) (by omega) fun bp cp' e0 mp _ => ?_
  simp only [Value.slice.injEq, true_and] at e0
  obtain ⟨rfl, rfl⟩ := e0
  have hpi : (pathsZ τ)[i] = τ.nodes[i].1 := by simp [pathsZ]
  refine G.skip (G.then_n (G.seq (G.block (G.seq (G.region ?_)))))
  refine G.q (Quiet.indexAddr rfl rfl el_40 (by omega)) rfl ?_
  refine G.q (Quiet.loadSl (v := vstr (pathsZ τ)[i]) (i := i * 1) rfl ag_9 (by (repeat' constructor)) (by simp [hi2])) rfl ?_
  refine G.q (Quiet.assign rfl) rfl (G.nil (G.then_n (G.seq ?_)))
  refine G.trOpen (τ := τ) (by (repeat' constructor)) fun rn rs m s hI => ?_
  obtain ⟨px, hal, hpx⟩ := hI.getAt ho hin
  rw [← hpi] at hal
  refine G.bigTake hal (by (repeat' constructor)) ?_
  refine G.ndOpen (x := ((pathsZ τ)[i], px)) (by (repeat' constructor)) ?_
  refine G.region (G.q (Quiet.move rfl) rfl (G.q (Quiet.int rfl rfl rfl) rfl (G.q (Quiet.move rfl) rfl ?_)))
  refine G.ndec (t := 17) rfl (fun h5_17 => ?_) (fun h5_17 => ?_)
  ·refine G.kNT (t := 16) rfl h5_17 (G.grun (t := 17) rfl rfl rfl (G.q (Quiet.move rfl) rfl (G.grun (t := 17) rfl rfl rfl (G.q (Quiet.nilp rfl) rfl (G.grun (t := 17) rfl rfl rfl (G.q (Quiet.fieldAddr rfl fo_110_0) rfl (G.grun (t := 17) rfl rfl rfl ?_)))))))
   refine G.q (Quiet.load rfl ag_107 (by (repeat' constructor)) (rfl)) rfl ?_
   refine G.grun (t := 17) rfl rfl rfl (G.q (Quiet.move rfl) rfl (G.grun (t := 17) rfl rfl rfl ?_))
   refine G.q (Quiet.lookupY (m := m) (enc := ndV) (KeyLaw.str Tryz.underlying9) (hal) rfl rfl Tryz.underlying107 ze_102 (by (repeat' constructor)) rfl) rfl ?_
   refine G.grun (t := 17) rfl rfl rfl (G.q (Quiet.nilp rfl) rfl (G.grun (t := 17) rfl rfl rfl (G.q (Quiet.fieldAddr rfl fo_106_2) rfl (G.grun (t := 17) rfl rfl rfl (G.q (Quiet.fieldAddr rfl fo_43_6) rfl (G.grun (t := 17) rfl rfl rfl ?_))))))
   refine G.q (Quiet.to (v' := vint τ.nodes[i].2.st.own) (Quiet.load rfl ag_3 (by (repeat' constructor)) rfl) (by rw [← hpx])) rfl ?_
   refine G.grun (t := 17) rfl rfl rfl (G.q (Quiet.move rfl) rfl (G.grun (t := 17) rfl rfl rfl (G.q (Quiet.int rfl rfl rfl) rfl (G.q (Quiet.pickT rfl rfl) rfl (G.nil ?_)))))
   refine G.ndFold (x := ((pathsZ τ)[i], px)) (by (repeat' constructor)) rfl rfl rfl rfl ?_
   refine G.bigPut (f := inN) (m := m) (pathsZ τ)[i] px rfl (by (repeat' constructor)) ?_
   rw [aset_self hal]
   refine G.trFold (τ := τ) hI (by (repeat' constructor)) rfl rfl rfl ?_
   refine G.then_n ?_
   refine G.condD rfl (fun h30 => ?_) (fun h30 => ?_)
   ·refine G.region (G.q (Quiet.move rfl) rfl (G.q (Quiet.move rfl) rfl ?_))
    refine G.op (OpSpec.buildSlice1 (vs := [_]) el_40 ze_9 rfl rfl rfl rfl rfl (by decide)) (by (repeat' constructor)) rfl ?nx25
    rintro v L' ⟨b6_2, rfl, rfl⟩
    refine G.op (OpSpec.append1 rfl rfl rfl el_40 ze_9 rfl rfl ?c27 ?c28 (Nat.le_refl _) ?c29 (by decide)) (by (repeat' constructor)) rfl ?nx30
    case c27 => (first | (simp [isCell]; done) | (simp [isCell, setAll, Value.cells]; done))
    case c28 => rfl
    case c29 => first | omega | (simp; omega)
    rintro v L' ⟨⟨a6_3, c6_3, rfl⟩, rfl⟩
    refine G.q (Quiet.assign rfl) rfl (G.nil (G.blk_n (G.then_n (G.region ?_))))
    refine G.q (Quiet.add rfl rfl (by omega)) rfl ?_
    refine G.q (Quiet.move rfl) rfl (G.nil (G.then_n ?_))
    have hst := ownK_yes hin h5_17 h30
    rw [show strs (ownK (τ.nodes.take i) id) ++ [vstr (pathsZ τ)[i]] = strs (ownK (τ.nodes.take (i + 1)) id) by rw [hst]; simp [strs, pathsZ], show (ownK (τ.nodes.take i) id).length + 1 = (ownK (τ.nodes.take (i + 1)) id).length by rw [hst, List.length_append]; rfl]
    exact G.roundK ((i + 1, .slice a6_3 (ownK (τ.nodes.take (i + 1)) id).length c6_3)) (⟨by dsimp only; omega, _, _, rfl⟩) (by dsimp only; omega) ⟨rfl, rfl, rfl, rfl, rfl, rfl, rfl, trivial⟩ (by (repeat' constructor)) (by ((repeat (apply Have.cons; (repeat (first | exact Pick.here | apply Pick.there)))); apply Have.base; repeat' constructor))
   ·refine G.skip (G.blk_n (G.then_n (G.region ?_)))
    refine G.q (Quiet.add rfl rfl (by omega)) rfl ?_
    refine G.q (Quiet.move rfl) rfl (G.nil (G.then_n ?_))
    have hst := ownK_no (s := id) hin (fun g => h30)
    rw [← hst]
    exact G.roundK ((i + 1, .slice au (ownK (τ.nodes.take (i + 1)) id).length cu)) (⟨by dsimp only; omega, _, _, rfl⟩) (by dsimp only; omega) ⟨rfl, rfl, rfl, rfl, rfl, rfl, rfl, trivial⟩ (by (repeat' constructor)) (by ((repeat (apply Have.cons; (repeat (first | exact Pick.here | apply Pick.there)))); apply Have.base; repeat' constructor))
  ·refine G.kNF (t := 16) rfl h5_17 (G.gskip (t := 17) rfl rfl rfl rfl (G.gskip (t := 17) rfl rfl rfl rfl (G.gskip (t := 17) rfl rfl rfl rfl (G.gskip (t := 17) rfl rfl rfl rfl (G.gskip (t := 17) rfl rfl rfl rfl (G.gskip (t := 17) rfl rfl rfl rfl (G.gskip (t := 17) rfl rfl rfl rfl (G.gskip (t := 17) rfl rfl rfl rfl (G.gskip (t := 17) rfl rfl rfl rfl (G.gskip (t := 17) rfl rfl rfl rfl (G.gskip (t := 17) rfl rfl rfl rfl (G.gskip (t := 17) rfl rfl rfl rfl (G.q (Quiet.pickF rfl rfl) rfl (G.nil ?_))))))))))))))
   refine G.ndFold (x := ((pathsZ τ)[i], px)) (by (repeat' constructor)) rfl rfl rfl rfl ?_
   refine G.bigPut (f := inN) (m := m) (pathsZ τ)[i] px rfl (by (repeat' constructor)) ?_
   rw [aset_self hal]
   refine G.trFold (τ := τ) hI (by (repeat' constructor)) rfl rfl rfl ?_
   refine G.then_n (G.condF rfl (G.skip (G.blk_n (G.then_n (G.region ?_)))))
   refine G.q (Quiet.add rfl rfl (by omega)) rfl ?_
   refine G.q (Quiet.move rfl) rfl (G.nil (G.then_n ?_))
   have hst := ownK_no (s := id) hin (fun g => absurd h5_17 g)
   rw [← hst]
   exact G.roundK ((i + 1, .slice au (ownK (τ.nodes.take (i + 1)) id).length cu)) (⟨by dsimp only; omega, _, _, rfl⟩) (by dsimp only; omega) ⟨rfl, rfl, rfl, rfl, rfl, rfl, rfl, trivial⟩ (by (repeat' constructor)) (by ((repeat (apply Have.cons; (repeat (first | exact Pick.here | apply Pick.there)))); apply Have.base; repeat' constructor))
 ·have hii : i = τ.nodes.length := by omega
  rw [hii, List.take_length]
  refine G.exit (G.then_e (G.then_e (G.blk_e (G.then_n (G.seq (G.region (G.q (Quiet.move rfl) rfl (G.q (Quiet.assign rfl) rfl (G.nil (G.then_n (G.ret ?_)))))))))))
  exact G.done (l := [.tmp 4]) rfl rfl ⟨⟨_, _, rfl⟩, rfl⟩ (by (repeat' constructor)) (by (repeat' constructor))

set_option maxRecDepth 100000 in
theorem trsession_spec (t : Nat) (τ : Tr) (id : Int) : Fn Tryz.prog 19 #[vptr t, vint id] [treeR t τ] fun v L => v = .tuple #[vint (sesD τ id).1, vstr (sesD τ id).2, .bool (decide (sesT τ id))] ∧ L = [treeR t τ] := by
 refine Fn.intro (vs := [vptr t, vint id]) Tryz.func19 rfl rfl ?_
 intro F W
 refine G.trOpen (τ := τ) (by (repeat' constructor)) fun rn rs m s hI => ?_
 refine G.seq (G.region (G.q (Quiet.assign rfl) rfl (G.q (Quiet.assign rfl) rfl (G.q (Quiet.assign rfl) rfl (G.nil (G.then_n (G.seq (G.region ?_))))))))
 rcases hal : alook s id with _ | y
 ·have hz : sesD τ id = (0, []) ∧ ¬ sesT τ id := by unfold sesD sesT; rw [← hI.slook, hal]; exact ⟨rfl, by simp⟩
  refine G.q (Quiet.move rfl) rfl (G.q (Quiet.nilp rfl) rfl (G.q (Quiet.fieldAddr rfl fo_110_1) rfl ?_))
  refine G.q (Quiet.load rfl ag_108 (by (repeat' constructor)) (rfl)) rfl ?_
  refine G.q (Quiet.move rfl) rfl ?_
  refine G.q (Quiet.lookupOkN (m := s) (enc := ssV) (KeyLaw.int Tryz.underlying3) hal rfl rfl Tryz.underlying108 ze_112 (by (repeat' constructor)) rfl) rfl ?_
  refine G.q (Quiet.move rfl) rfl (G.q (Quiet.extract rfl rfl) rfl (G.q (Quiet.extract rfl rfl) rfl ?_))
  refine G.op (OpSpec.allocA ze_112) (by (repeat' constructor)) rfl ?nx12
  rintro v L' ⟨b7, rfl, rfl⟩
  refine G.op (OpSpec.storeA rfl rfl ?c14 sz_112 ?c17 ?c15 ?c16) (by (repeat' constructor)) rfl ?nx18
  case c14 => (first | (simp [isCell]; done) | (simp [isCell, setAll, Value.cells]; done))
  case c17 => rfl
  case c15 => simp
  case c16 => exact nfz0 _ _
  rintro v L' rfl
  refine G.q (Quiet.assign rfl) rfl (G.nil ?_)
  refine G.ptCast (b := b7) (l' := [vint (sesD τ id).1, vstr (sesD τ id).2]) (by (repeat' constructor)) (by rw [hz.1]; rfl) ?_
  refine G.then_n (G.seq ?_)
  refine G.draw [] [[0, 1, 2, 3, 4, 5, 6, 7]] mixed (by kernel_rfl) ?_
  refine Phases.go [] (by (repeat' constructor)) ?_
  refine D.qw [1, 5, 6, 7] rfl (by kernel_rfl) (Quiet.fieldAddr rfl fo_112_0) ?_
  refine D.qw [5, 6, 7] rfl (by kernel_rfl) (Quiet.load rfl ag_3 (by (repeat' constructor)) (rfl)) ?_
  refine D.qw [3, 6, 7] rfl (by kernel_rfl) (Quiet.fieldAddr rfl fo_112_1) ?_
  refine D.qw [6, 7] rfl (by kernel_rfl) (Quiet.load rfl ag_9 (by (repeat' constructor)) (rfl)) ?_
  refine D.qw [7] rfl (by kernel_rfl) (Quiet.move rfl) ?_
  refine D.qw [6, 7] rfl (by kernel_rfl) (Quiet.assign rfl) ?_
  refine D.qw [7] rfl (by kernel_rfl) (Quiet.assign rfl) ?_
  refine D.qw [] rfl (by kernel_rfl) (Quiet.assign rfl) ?_
  refine D.ph (Phases.fin (G.then_n (G.ret ?_)))
  refine G.trFold (τ := τ) hI (by (repeat' constructor)) rfl rfl rfl ?_
  exact G.done (l := [.tmp 4, .tmp 5, .tmp 6]) rfl rfl ⟨by rw [decide_eq_false hz.2], rfl⟩ (by (repeat' constructor)) (by (repeat' constructor))
 ·have hz : sesD τ id = y ∧ sesT τ id := by unfold sesD sesT; rw [← hI.slook, hal]; exact ⟨rfl, rfl⟩
  refine G.q (Quiet.move rfl) rfl (G.q (Quiet.nilp rfl) rfl (G.q (Quiet.fieldAddr rfl fo_110_1) rfl ?_))
  refine G.q (Quiet.load rfl ag_108 (by (repeat' constructor)) (rfl)) rfl ?_
  refine G.q (Quiet.move rfl) rfl ?_
  refine G.q (Quiet.lookupOkY (m := s) (enc := ssV) (KeyLaw.int Tryz.underlying3) hal rfl rfl Tryz.underlying108 ze_112 (by (repeat' constructor)) rfl) rfl ?_
  refine G.q (Quiet.move rfl) rfl (G.q (Quiet.extract rfl rfl) rfl (G.q (Quiet.extract rfl rfl) rfl ?_))
  refine G.op (OpSpec.allocA ze_112) (by (repeat' constructor)) rfl ?nx31
  rintro v L' ⟨b7, rfl, rfl⟩
  refine G.op (OpSpec.storeA rfl rfl ?c33 sz_112 ?c36 ?c34 ?c35) (by (repeat' constructor)) rfl ?nx37
  case c33 => (first | (simp [isCell]; done) | (simp [isCell, setAll, Value.cells]; done))
  case c36 => rfl
  case c34 => simp
  case c35 => exact nfz0 _ _
  rintro v L' rfl
  refine G.q (Quiet.assign rfl) rfl (G.nil ?_)
  refine G.ptCast (b := b7) (l' := [vint (sesD τ id).1, vstr (sesD τ id).2]) (by (repeat' constructor)) (by rw [hz.1]; rfl) ?_
  refine G.then_n (G.seq ?_)
  refine G.draw [] [[0, 1, 2, 3, 4, 5, 6, 7]] mixed (by kernel_rfl) ?_
  refine Phases.go [] (by (repeat' constructor)) ?_
  refine D.qw [1, 5, 6, 7] rfl (by kernel_rfl) (Quiet.fieldAddr rfl fo_112_0) ?_
  refine D.qw [5, 6, 7] rfl (by kernel_rfl) (Quiet.load rfl ag_3 (by (repeat' constructor)) (rfl)) ?_
  refine D.qw [3, 6, 7] rfl (by kernel_rfl) (Quiet.fieldAddr rfl fo_112_1) ?_
  refine D.qw [6, 7] rfl (by kernel_rfl) (Quiet.load rfl ag_9 (by (repeat' constructor)) (rfl)) ?_
  refine D.qw [7] rfl (by kernel_rfl) (Quiet.move rfl) ?_
  refine D.qw [6, 7] rfl (by kernel_rfl) (Quiet.assign rfl) ?_
  refine D.qw [7] rfl (by kernel_rfl) (Quiet.assign rfl) ?_
  refine D.qw [] rfl (by kernel_rfl) (Quiet.assign rfl) ?_
  refine D.ph (Phases.fin (G.then_n (G.ret ?_)))
  refine G.trFold (τ := τ) hI (by (repeat' constructor)) rfl rfl rfl ?_
  exact G.done (l := [.tmp 4, .tmp 5, .tmp 6]) rfl rfl ⟨by rw [decide_eq_true hz.2], rfl⟩ (by (repeat' constructor)) (by (repeat' constructor))

set_option maxRecDepth 100000 in
theorem trkids_spec (t : Nat) (τ : Tr) (p : Bs) (N : Nat) (ho : τ.Ok N) (hN : N ≤ 1099511627776) : Fn Tryz.prog 50 #[vptr t, vstr p] [treeR t τ] fun v L => ∃ (u : Value) (l : List Bs), v = .tuple #[u, vint (if thereT τ p then 0 else 60)] ∧ True ∧ l = (if thereT τ p then kidsZ τ p else []) ∧ (∃ a c, u = .slice a l.length c) ∧ L = [treeR t τ, slR 9 1 u l.length (strs l)] := by
 refine Fn.intro (vs := [vptr t, vstr p]) Tryz.func50 rfl rfl ?_
 intro F W
 refine G.trOpen (τ := τ) (by (repeat' constructor)) fun rn rs m s hI => ?_
 have hlen := hI.len ho
 have hfew := ho.few
 refine G.seq (G.region (G.q (Quiet.assign rfl) rfl (G.q (Quiet.assign rfl) rfl (G.nil (G.then_n (G.seq (G.seq (G.region ?_))))))))
 rcases hal : alook m p with _ | px
 ·refine G.q (Quiet.move rfl) rfl (G.q (Quiet.nilp rfl) rfl (G.q (Quiet.fieldAddr rfl fo_110_0) rfl ?_))
  refine G.q (Quiet.load rfl ag_107 (by (repeat' constructor)) (rfl)) rfl ?_
  refine G.q (Quiet.move rfl) rfl ?_
  refine G.q (Quiet.lookupN (m := m) (enc := ndV) (KeyLaw.str Tryz.underlying9) (hal) rfl rfl Tryz.underlying107 ze_102 (by (repeat' constructor)) rfl) rfl ?_
  refine G.q (Quiet.as (v' := .bool true) (by rfl) (Quiet.ptreq rfl rfl Tryz.underlying102)) rfl ?_
  refine G.nil (G.then_n (G.condT rfl (G.seq (G.region (G.q (Quiet.assign rfl) rfl (G.q (Quiet.assign rfl) rfl (G.nil (G.then_n (G.ret (G.then_r ?_))))))))))
  refine G.trFold (τ := τ) hI (by (repeat' constructor)) rfl rfl rfl ?_
  refine G.add (slR_nil 9 1) ?_
  have hth : ¬ thereT τ p := hI.none_iff.1 hal
  exact G.done (l := [.tmp 4, .tmp 5]) rfl rfl ⟨.slice none 0 0, [], by rw [if_neg hth]; try rfl, trivial, (by rw [if_neg hth]), ⟨none, 0, rfl⟩, rfl⟩ (by (repeat' constructor)) (by (repeat' constructor))
 ·refine G.q (Quiet.move rfl) rfl (G.q (Quiet.nilp rfl) rfl (G.q (Quiet.fieldAddr rfl fo_110_0) rfl ?_))
  refine G.q (Quiet.load rfl ag_107 (by (repeat' constructor)) (rfl)) rfl ?_
  refine G.q (Quiet.move rfl) rfl ?_
  refine G.q (Quiet.lookupY (m := m) (enc := ndV) (KeyLaw.str Tryz.underlying9) (hal) rfl rfl Tryz.underlying107 ze_102 (by (repeat' constructor)) rfl) rfl ?_
  refine G.q (Quiet.as (v' := .bool false) (by rfl) (Quiet.ptreq rfl rfl Tryz.underlying102)) rfl ?_
  refine G.nil (G.then_n (G.condF rfl (G.skip (G.then_n (G.seq (G.region (G.q (Quiet.move rfl) rfl (G.q (Quiet.move rfl) rfl ?_))))))))
  refine G.op (OpSpec.call Tryz.func49 rfl rfl (vs := [_, _]) rfl (trkids0_spec t rn (.map (some rs)) (vint τ.zx) m p (hI.plen ho) (by omega))) (by (repeat' constructor)) rfl ?nx21
  rintro v L' ⟨⟨a5, c5, rfl⟩, rfl⟩
  refine G.q (Quiet.assign rfl) rfl (G.q (Quiet.assign rfl) rfl (G.nil (G.then_n (G.ret ?_))))
  refine G.trFold (τ := τ) hI (by (repeat' constructor)) rfl rfl rfl ?_
  have hth : thereT τ p := hI.some_iff hal
  have hkl : (kidsM m p).length = (kidsZ τ p).length := by rw [← hI.kids ho p, sortS_length]
  rw [hI.kids ho p, hkl]
  exact G.done (l := [.tmp 4, .tmp 5]) rfl rfl ⟨_, kidsZ τ p, by rw [if_pos hth], trivial, by rw [if_pos hth], ⟨_, _, rfl⟩, rfl⟩ (by (repeat' constructor)) (by (repeat' constructor))

end Go.Proofs.YtnnbelmpbmfdnaaGreatDoor

/- Own work: who owns what in a sound history: plain. -/
namespace Go.Proofs.YtnnbelmpbmfdnaaGreatDoor
open Go

def manyTo (τ : Tr) : Nat → Nat
  | 0 => 0
  | s + 1 => manyTo τ s + if s = 0 then 0 else (ownedZ τ s).length
def freeK (l : List (Bs × Nd)) : Nat := (l.filter fun y => decide (y.2.st.own = 0)).length
theorem Hist.ok {z0 : Int} {l : List En} {τ : Tr} (h : Hist z0 l τ) {i : Nat} (hi : i ≤ l.length) : (appL newT (l.take i)).Ok 60 := (h.take i hi).inv.ok
theorem Hist.few {z0 : Int} {l : List En} {τ : Tr} (h : Hist z0 l τ) {i : Nat} (hi : i < l.length) : l[i].subs.length ≤ 60 := (h.at i hi).1.shape.sz.few
end Go.Proofs.YtnnbelmpbmfdnaaGreatDoor

/- Own work: sessions and nodes know nothing of one another, but for a session's end: plain. -/
namespace Go.Proofs.YtnnbelmpbmfdnaaGreatDoor
open Go

def setS (τ : Tr) (s : List (Int × (Int × Bs))) : Tr := { τ with sess := s }
/-- What an entry does to the sessions alone. -/
def sesE (s : List (Int × (Int × Bs))) (e : En) : List (Int × (Int × Bs)) :=
  if e.x.kind = 5 then (if 0 < e.x.own then sset s e.x.own (e.x.num, e.x.data) else s)
  else if e.x.kind = 6 then s.filter fun y => !decide (y.1 = e.x.own) else s
theorem app_sess (τ : Tr) (e : En) : (appE τ e).sess = sesE τ.sess e := by
  unfold appE applyZ sesE
  dsimp only
  split
  · split <;> rfl
  split
  · show (dropS _ _).sess = _
    unfold dropS; dsimp only
    rw [parts_sess]; rfl
  split
  · rw [parts_sess]; rfl
  split
  · rfl
  · rw [part_sess]; rfl
/-- The sessions are as the history's, but for some of 100 to 108. -/
structure More (τ : Tr) (s : List (Int × (Int × Bs))) : Prop where
  sorted : SortedK s
  same : ∀ i, i < 100 ∨ 108 < i → alook s i = alook τ.sess i
theorem sesE_sorted {s : List (Int × (Int × Bs))} (h : SortedK s) (e : En) : SortedK (sesE s e) := by
  unfold sesE
  split
  · split
    · exact h.sset linI _ _
    · exact h
  split
  · exact h.filter _
  · exact h
theorem sesE_at (s : List (Int × (Int × Bs))) (e : En) (i : Int) : alook (sesE s e) i = if e.x.kind = 5 ∧ 0 < e.x.own ∧ i = e.x.own then some (e.x.num, e.x.data) else if e.x.kind = 6 ∧ i = e.x.own then none else alook s i := by
  unfold sesE
  by_cases h5 : e.x.kind = 5
  · have e2 : (if e.x.kind = 6 ∧ i = e.x.own then none else alook s i) = alook s i := if_neg (by rintro ⟨g, -⟩; omega)
    rw [e2, if_pos h5]
    by_cases ho : 0 < e.x.own
    · rw [if_pos ho, al_sset]
      by_cases hi : i = e.x.own
      · rw [if_pos hi, if_pos ⟨h5, ho, hi⟩]
      · rw [if_neg hi, if_neg (fun g => hi g.2.2)]
    · rw [if_neg ho, if_neg (fun g => ho g.2.1)]
  · have e1 : (if e.x.kind = 5 ∧ 0 < e.x.own ∧ i = e.x.own then some (e.x.num, e.x.data) else if e.x.kind = 6 ∧ i = e.x.own then none else alook s i) = if e.x.kind = 6 ∧ i = e.x.own then none else alook s i := if_neg (fun g => h5 g.1)
    rw [e1, if_neg h5]
    by_cases h6 : e.x.kind = 6
    · rw [if_pos h6, al_filter (fun k => !decide (k = e.x.own))]
      by_cases hi : i = e.x.own
      · simp [hi, h6]
      · simp [hi]
    · rw [if_neg h6]; simp [h6]
theorem More.one {τ : Tr} {s : List (Int × (Int × Bs))} (h : More τ s) {e : En} (ho : 100 ≤ e.x.own ∧ e.x.own ≤ 108) : More τ (sesE s e) := by
  refine ⟨sesE_sorted h.sorted e, fun i hi => ?_⟩
  rw [sesE_at, if_neg (by rintro ⟨-, -, g⟩; omega), if_neg (by rintro ⟨-, g⟩; omega)]
  exact h.same i hi
theorem More.ids {τ : Tr} {K : Int} {s : List (Int × (Int × Bs))} (hi : HInv τ K) (h : More τ s) : ∀ x ∈ s, (1 ≤ x.1 ∧ x.1 ≤ 5) ∨ (100 ≤ x.1 ∧ x.1 ≤ 108) := by
  intro x hx
  have h1 := al_of_mem (h.sorted.nodup linI) (show (x.1, x.2) ∈ s from hx)
  by_cases g : x.1 < 100 ∨ 108 < x.1
  · rw [h.same _ g] at h1
    exact .inl (hi.ids _ _ h1)
  · omega
theorem More.ok {τ : Tr} {K : Int} {s : List (Int × (Int × Bs))} (hi : HInv τ K) (h : More τ s) : (setS τ s).Ok 60 := by
  refine ⟨hi.ok.sorted, h.sorted, hi.ok.few, hi.ok.able, fun x hx => ?_, hi.ok.acls, ?_⟩
  · have := h.ids hi x hx; omega
  · have := nodup_len (l := s.map (·.1)) (m := [1, 2, 3, 4, 5, 100, 101, 102, 103, 104, 105, 106, 107, 108]) (h.sorted.nodup linI) fun i hm => by
      obtain ⟨x, hx, rfl⟩ := List.mem_map.1 hm
      have := h.ids hi x hx
      have : x.1 = 1 ∨ x.1 = 2 ∨ x.1 = 3 ∨ x.1 = 4 ∨ x.1 = 5 ∨ x.1 = 100 ∨ x.1 = 101 ∨ x.1 = 102 ∨ x.1 = 103 ∨ x.1 = 104 ∨ x.1 = 105 ∨ x.1 = 106 ∨ x.1 = 107 ∨ x.1 = 108 := by omega
      simpa using this
    have h2 : s.length ≤ 14 := by simpa using this
    show s.length ≤ 60
    omega
/-- A session opened, and one closed, by hand. -/
def opE (zx n i : Int) : En := ⟨zx, 0, 0, ⟨5, [], [], .slice none 0 0, [], n, i, 0, .slice none 0 0⟩, []⟩
def clE (zx n : Int) : En := ⟨zx, 0, 0, ⟨6, [], [], .slice none 0 0, [], n, 0, 0, .slice none 0 0⟩, []⟩
/-- All but the history's are closed in the end. -/
structure Shut (τ : Tr) (s : List (Int × (Int × Bs))) (n : Nat) : Prop where
  more : More τ s
  gone : ∀ i : Int, 100 ≤ i → i < n → alook s i = none
theorem Shut.step {τ : Tr} {s : List (Int × (Int × Bs))} {n : Nat} (h : Shut τ s n) (hn : 100 ≤ n ∧ n ≤ 108) (zx : Int) : Shut τ (sesE s (clE zx n)) (n + 1) := by
  refine ⟨h.more.one ⟨by show (100 : Int) ≤ (n : Int); omega, by show (n : Int) ≤ 108; omega⟩, fun i h1 h2 => ?_⟩
  rw [sesE_at, if_neg (by rintro ⟨g, -⟩; exact absurd g (by show ¬ (6 : Int) = 5; decide))]
  by_cases e : i = n
  · rw [if_pos ⟨rfl, e⟩]
  · rw [if_neg (fun g => e g.2)]
    exact h.gone i h1 (by omega)
theorem Shut.done {τ : Tr} {K : Int} {s : List (Int × (Int × Bs))} (hi : HInv τ K) (h : Shut τ s 109) : setS τ s = τ := by
  have : s = τ.sess := by
    refine sorted_same linI h.more.sorted hi.ok.ssorted fun i => ?_
    by_cases g : i < 100 ∨ 108 < i
    · exact h.more.same i g
    · rw [h.gone i (by omega) (by omega)]
      rcases e : alook τ.sess i with _ | r
      · rfl
      · have := hi.ids i r e; omega
  rw [this]; rfl
end Go.Proofs.YtnnbelmpbmfdnaaGreatDoor

/- Own work, by program: package tree: Acl, Sessions, Lay, LaySession: walked. -/
namespace Go.Proofs.YtnnbelmpbmfdnaaGreatDoor
open Go
set_option maxRecDepth 100000 in
theorem aclip0_spec : Fn Tryz.prog 106 #[.slice none 0 0] [slR 104 2 (.slice none 0 0) 0 []] fun u L => u = .slice none 0 0 ∧ L = [slR 104 2 u 0 []] := by
 refine Fn.intro (vs := [.slice none 0 0]) Tryz.func106 rfl rfl ?_
 intro F W
 refine G.seq (G.region (G.q (Quiet.assign rfl) rfl (G.nil (G.then_n (G.seq (G.region (G.q (Quiet.move rfl) rfl (G.q (Quiet.move rfl) rfl (G.q (Quiet.slen rfl Tryz.underlying34 rfl) rfl (G.q (Quiet.move rfl) rfl (G.q (Quiet.slen rfl Tryz.underlying34 rfl) rfl (G.q (Quiet.clip (n := 0) rfl el_34 rfl rfl (Nat.le_refl _) (.inl rfl)) rfl (G.q (Quiet.assign rfl) rfl (G.nil (G.then_n (G.ret ?_))))))))))))))))
 exact G.done (l := [.tmp 2]) rfl rfl ⟨rfl, rfl⟩ (by (repeat' constructor)) (by (repeat' constructor))

set_option maxRecDepth 100000 in
theorem aclip1_spec (b n c : Nat) (hc : n ≤ c) (xs : List Value) : Fn Tryz.prog 106 #[.slice (some ⟨b, 0, none⟩) n c] [slR 104 2 (.slice (some ⟨b, 0, none⟩) n c) n xs] fun u L => u = .slice (some ⟨b, 0, none⟩) n n ∧ L = [slR 104 2 u n xs] := by
 refine Fn.intro (vs := [.slice (some ⟨b, 0, none⟩) n c]) Tryz.func106 rfl rfl ?_
 intro F W
 refine G.seq (G.region (G.q (Quiet.assign rfl) rfl (G.nil (G.then_n (G.seq (G.region (G.q (Quiet.move rfl) rfl (G.q (Quiet.move rfl) rfl (G.q (Quiet.slen rfl Tryz.underlying34 rfl) rfl (G.q (Quiet.move rfl) rfl (G.q (Quiet.slen rfl Tryz.underlying34 rfl) rfl ?_)))))))))))
 refine G.q (Quiet.clip (n := n) rfl el_34 rfl rfl hc (.inr ⟨_, _, rfl⟩)) rfl ?_
 refine G.q (Quiet.assign rfl) rfl (G.nil (G.then_n (G.ret ?_)))
 refine G.slClip (by (repeat' constructor)) ?_
 exact G.done (l := [.tmp 2]) rfl rfl ⟨rfl, rfl⟩ (by (repeat' constructor)) (by (repeat' constructor))

theorem aclip_spec (v : Value) (n : Nat) (xs : List Value) : Fn Tryz.prog 106 #[v] [slR 104 2 v n xs] fun u L => (∃ a c, u = .slice a n c) ∧ L = [slR 104 2 u n xs] := by
  intro F w hs
  obtain ⟨g1, -, hp⟩ := sep_head hs
  rcases hp with ⟨rfl, rfl, rfl⟩ | ⟨b, cap, rest, fr, rfl, -, -, -, h4, -⟩
  · exact (aclip0_spec F w hs).mono fun e w' ⟨u, L, ⟨h1, h2⟩, h3⟩ => ⟨u, L, ⟨⟨_, _, h1⟩, h2⟩, h3⟩
  · exact (aclip1_spec b n cap h4 xs F w hs).mono fun e w' ⟨u, L, ⟨h1, h2⟩, h3⟩ => ⟨u, L, ⟨⟨_, _, h1⟩, h2⟩, h3⟩
def aclD (τ : Tr) (p : Bs) : List Ac := ((alook τ.nodes p).map (·.acl)).getD []
def idsZ (τ : Tr) : List Int := τ.sess.map (·.1)
set_option maxRecDepth 100000 in
theorem tracl_spec (t : Nat) (τ : Tr) (p : Bs) (N : Nat) (ho : τ.Ok N) : Fn Tryz.prog 63 #[vptr t, vstr p] [treeR t τ] fun v L => ∃ u : Value, v = .tuple #[u, vint (if thereT τ p then 0 else 60)] ∧ (∃ a c, u = .slice a (aclD τ p).length c) ∧ L = [treeR t τ, slR 104 2 u (aclD τ p).length ((aclD τ p).flatMap acC)] := by
 refine Fn.intro (vs := [vptr t, vstr p]) Tryz.func63 rfl rfl ?_
 intro F W
 refine G.trOpen (τ := τ) (by (repeat' constructor)) fun rn rs m s hI => ?_
 refine G.seq (G.region (G.q (Quiet.assign rfl) rfl (G.q (Quiet.assign rfl) rfl (G.nil (G.then_n (G.seq (G.region ?_)))))))
 rcases hal : alook m p with _ | px
 ·refine G.q (Quiet.move rfl) rfl (G.q (Quiet.nilp rfl) rfl (G.q (Quiet.fieldAddr rfl fo_110_0) rfl ?_))
  refine G.q (Quiet.load rfl ag_107 (by (repeat' constructor)) (rfl)) rfl ?_
  refine G.q (Quiet.move rfl) rfl ?_
  refine G.q (Quiet.lookupN (m := m) (enc := ndV) (KeyLaw.str Tryz.underlying9) (hal) rfl rfl Tryz.underlying107 ze_102 (by (repeat' constructor)) rfl) rfl ?_
  refine G.q (Quiet.assign rfl) rfl (G.nil (G.then_n (G.seq (G.seq (G.region (G.q (Quiet.move rfl) rfl ?_))))))
  refine G.q (Quiet.as (v' := .bool true) (by rfl) (Quiet.ptreq rfl rfl Tryz.underlying102)) rfl ?_
  refine G.nil (G.then_n (G.condT rfl (G.seq (G.region (G.q (Quiet.assign rfl) rfl (G.q (Quiet.assign rfl) rfl (G.nil (G.then_n (G.ret (G.then_r ?_))))))))))
  refine G.trFold (τ := τ) hI (by (repeat' constructor)) rfl rfl rfl ?_
  refine G.add (slR_nil 104 2) ?_
  have hth : ¬ thereT τ p := hI.none_iff.1 hal
  have hac : aclD τ p = [] := by unfold aclD; rw [← hI.look, hal]; rfl
  exact G.done (l := [.tmp 4, .tmp 5]) rfl rfl ⟨.slice none 0 0, by rw [if_neg hth]; try rfl, ⟨none, 0, by rw [hac]; rfl⟩, by rw [hac]; try rfl⟩ (by (repeat' constructor)) (by (repeat' constructor))
 ·refine G.q (Quiet.move rfl) rfl (G.q (Quiet.nilp rfl) rfl (G.q (Quiet.fieldAddr rfl fo_110_0) rfl ?_))
  refine G.q (Quiet.load rfl ag_107 (by (repeat' constructor)) (rfl)) rfl ?_
  refine G.q (Quiet.move rfl) rfl ?_
  refine G.q (Quiet.lookupY (m := m) (enc := ndV) (KeyLaw.str Tryz.underlying9) (hal) rfl rfl Tryz.underlying107 ze_102 (by (repeat' constructor)) rfl) rfl ?_
  refine G.q (Quiet.assign rfl) rfl (G.nil (G.then_n (G.seq (G.seq (G.region (G.q (Quiet.move rfl) rfl ?_))))))
  refine G.q (Quiet.as (v' := .bool false) (by rfl) (Quiet.ptreq rfl rfl Tryz.underlying102)) rfl ?_
  refine G.nil (G.then_n (G.condF rfl (G.skip (G.then_n (G.seq ?_)))))
  refine G.bigTake hal (by (repeat' constructor)) ?_
  refine G.ndOpen (x := (p, px)) (by (repeat' constructor)) ?_
  refine G.region (G.q (Quiet.move rfl) rfl (G.q (Quiet.nilp rfl) rfl (G.q (Quiet.fieldAddr rfl fo_106_1) rfl ?_)))
  refine G.q (Quiet.load rfl ag_34 (by (repeat' constructor)) (rfl)) rfl ?_
  refine G.op (OpSpec.call Tryz.func58 rfl rfl (vs := [_]) rfl (aclone_spec px.2.1 px.2.2.acl _ (fun h hp => hp) (hI.acl ho hal))) (by (repeat' constructor)) rfl ?nx22
  rintro v L' ⟨⟨a5, c5, rfl⟩, rfl⟩
  refine G.op (OpSpec.call Tryz.func106 rfl rfl (vs := [_]) rfl (aclip_spec _ _ _)) (by (repeat' constructor)) rfl ?nx24
  rintro v L' ⟨⟨a6, c6, rfl⟩, rfl⟩
  refine G.q (Quiet.assign rfl) rfl (G.q (Quiet.assign rfl) rfl (G.nil ?_))
  refine G.ndFold (x := (p, px)) (by (repeat' constructor)) rfl rfl rfl rfl ?_
  refine G.bigPut (f := inN) (m := m) p px rfl (by (repeat' constructor)) ?_
  rw [aset_self hal]
  refine G.then_n (G.ret ?_)
  refine G.trFold (τ := τ) hI (by (repeat' constructor)) rfl rfl rfl ?_
  have hth : thereT τ p := hI.some_iff hal
  have hac : aclD τ p = px.2.2.acl := by unfold aclD; rw [hI.at hal]; rfl
  rw [← hac]
  exact G.done (l := [.tmp 4, .tmp 5]) rfl rfl ⟨_, by rw [if_pos hth], ⟨_, _, rfl⟩, rfl⟩ (by (repeat' constructor)) (by (repeat' constructor))

theorem skeys_spec (mb : Option Nat) : Fn Tryz.prog 109 #[.map mb] [] fun v L => ∃ b, v = .func (.func 128) #[] #[vptr b] ∧ L = [ptc b [.map mb] 108] :=
  keys_fn Tryz.keysA mb
theorem ssorted_spec {b r : Nat} {T : TypeId} (s : SsM) (hnd : (s.map (·.1)).Nodup) (hbd : ∀ x ∈ s, -9223372036854775808 ≤ x.1 ∧ x.1 ≤ 9223372036854775807) (hlen : s.length ≤ 1099511627776) :
    Fn Tryz.prog 108 #[.func (.func 128) #[] #[vptr b]] [ptc b [.map (some r)] T, mapR r (ssE s)] fun v L => (∃ a c, v = .slice a s.length c) ∧ L = [slR 3 1 v s.length (ints (sortI (s.map (·.1)))), mapR r (ssE s)] :=
  sorted_fn Tryz.keysA Tryz.sortedA Tryz.sortA rfl (enters_of Tryz.func84 rfl rfl) (enters_of Tryz.func128 rfl rfl) Tryz.underlying3 (enc := ssV) (b := b) (r := r) (T := T) s hnd hbd hlen
theorem sortI_id {l : List Int} (h : l.Pairwise (· < ·)) : sortI l = l := by
  unfold sortI
  refine List.mergeSort_of_pairwise (h.imp fun hab => ?_)
  simp only [decide_eq_true_eq]; omega
theorem TrI.ids {τ : Tr} {m : NmM} {s : SsM} (h : TrI τ m s) {N : Nat} (ho : τ.Ok N) : sortI (s.map (·.1)) = idsZ τ := by
  have hp : (s.map (·.1)).Perm (idsZ τ) := (h.sperm ho).map _
  unfold sortI
  rw [mergeSort_of_perm_i hp]
  exact sortI_id ho.ssorted
set_option maxRecDepth 100000 in
theorem trsessions_spec (t : Nat) (τ : Tr) (N : Nat) (ho : τ.Ok N) (hb : ∀ x ∈ τ.sess, x.1 ≤ 9223372036854775807) (hN : N ≤ 1099511627776) : Fn Tryz.prog 68 #[vptr t] [treeR t τ] fun v L => (∃ a c, v = .slice a (idsZ τ).length c) ∧ L = [treeR t τ, slR 3 1 v (idsZ τ).length (ints (idsZ τ))] := by
 refine Fn.intro (vs := [vptr t]) Tryz.func68 rfl rfl ?_
 intro F W
 refine G.trOpen (τ := τ) (by (repeat' constructor)) fun rn rs m s hI => ?_
 have hsf := ho.sfew
 have hsp := hI.sperm ho
 have hsl := hsp.length_eq
 have hiz : (idsZ τ).length = τ.sess.length := List.length_map _
 have hbd : ∀ x ∈ s, -9223372036854775808 ≤ x.1 ∧ x.1 ≤ 9223372036854775807 := fun x hx => by have h1 := hsp.mem_iff.1 hx; have h2 := ho.ids x h1; have h3 := hb x h1; omega
 refine G.seq (G.region (G.q (Quiet.assign rfl) rfl (G.nil (G.then_n (G.seq (G.region (G.q (Quiet.move rfl) rfl (G.q (Quiet.nilp rfl) rfl (G.q (Quiet.fieldAddr rfl fo_110_1) rfl ?_)))))))))
 refine G.q (Quiet.load rfl ag_108 (by (repeat' constructor)) (rfl)) rfl ?_
 refine G.op (OpSpec.call Tryz.func109 rfl rfl (vs := [_]) rfl (skeys_spec _)) (by (repeat' constructor)) rfl ?nx6
 rintro v L' ⟨bk, rfl, rfl⟩
 refine G.op (OpSpec.call Tryz.func108 rfl rfl (vs := [_]) rfl (ssorted_spec s hI.skeys hbd (by omega))) (by (repeat' constructor)) rfl ?nx8
 rintro v L' ⟨⟨ap, cp, rfl⟩, rfl⟩; rw [hI.ids ho, show s.length = (idsZ τ).length by omega]
 refine G.q (Quiet.assign rfl) rfl (G.nil (G.then_n (G.ret ?_)))
 refine G.trFold (τ := τ) hI (by (repeat' constructor)) rfl rfl rfl ?_
 exact G.done (l := [.tmp 2]) rfl rfl ⟨⟨_, _, rfl⟩, rfl⟩ (by (repeat' constructor)) (by (repeat' constructor))

def laidN (d : Bs) (acl : List Ac) (s : Stt) : Nd := ⟨d, acl, { s with len := 0, kids := 0 }⟩
def layZ (τ : Tr) (p d : Bs) (acl : List Ac) (s : Stt) : Tr := if checkZ p = 0 then { τ with nodes := sset τ.nodes p (laidN d acl s) } else τ
theorem check_able {p : Bs} (h : checkZ p = 0) : p = [47] ∨ ableZ p := by
  by_cases e : p = [47]
  · exact .inl e
  · exact .inr ⟨e, h⟩
theorem Tr.Ok.layZ {τ : Tr} {N : Nat} (h : τ.Ok N) (p d : Bs) {acl : List Ac} (s : Stt) (ha : acl.length ≤ 1048576) : (layZ τ p d acl s).Ok (N + 1) := by
  unfold Go.Proofs.YtnnbelmpbmfdnaaGreatDoor.layZ
  split
  · rename_i e; exact h.lay (check_able e) _ ha
  · exact h.more (by omega)
set_option maxRecDepth 100000 in
theorem trlay_spec (t : Nat) (τ : Tr) (p d : Bs) (va : Value) (acl : List Ac) (s : Stt) (q : HP) (hq : ∀ h : Hp, q h → rdS 2 h va acl.length (acl.flatMap acC)) (hacl : acl.length ≤ 1048576) (hpl : p.length ≤ 1048576) : Fn Tryz.prog 73 #[vptr t, vstr p, vstr d, va, .agg (stC s).toArray] [treeR t τ, q] fun v L => v = .tuple #[] ∧ L = [treeR t (layZ τ p d acl s), q] := by
 refine Fn.intro (vs := [vptr t, vstr p, vstr d, va, .agg (stC s).toArray]) Tryz.func73 rfl rfl ?_
 intro F W
 refine G.seq (G.region ?_)
 refine G.op (OpSpec.box rfl) (by (repeat' constructor)) rfl ?nx1
 rintro v L' ⟨b9, rfl, rfl⟩
 refine G.nil ?_
 refine G.ptCast (b := b9) (l' := stC s) (by (repeat' constructor)) rfl ?_
 refine G.then_n (G.seq (G.seq (G.region (G.q (Quiet.move rfl) rfl ?_))))
 refine G.op (OpSpec.call Tryz.func110 rfl rfl (vs := [_]) rfl (check_spec p hpl)) (by (repeat' constructor)) rfl ?nx4
 rintro v L' ⟨rfl, rfl⟩
 refine G.q (Quiet.int rfl rfl rfl) rfl (G.nil (G.then_n ?_))
 refine G.condN rfl (fun h12 => ?_) (fun h12 => ?_)
 ·refine G.ret (G.then_r ?_)
  have hz : layZ τ p d acl s = τ := by unfold layZ; rw [if_neg h12]
  refine G.trCast (τ' := layZ τ p d acl s) (by (repeat' constructor)) hz ?_
  exact G.done (l := []) rfl rfl ⟨rfl, rfl⟩ (by (repeat' constructor)) (by (repeat' constructor))
 ·refine G.skip (G.then_n (G.seq (G.region (G.q (Quiet.fieldAddr rfl fo_43_7) rfl ?_))))
  refine G.op (OpSpec.store rfl rfl rfl sz_3 ?c8 ?c9) (by (repeat' constructor)) rfl ?nx10
  case c8 => simp [stC]
  case c9 => exact nfz0 _ _
  rintro v L' rfl
  refine G.q (Quiet.fieldAddr rfl fo_43_8) rfl ?_
  refine G.op (OpSpec.store rfl rfl rfl sz_3 ?c12 ?c13) (by (repeat' constructor)) rfl ?nx14
  case c12 => simp [stC]
  case c13 => exact nfz0 _ _
  rintro v L' rfl
  refine G.nil ?_
  refine G.ptCast (b := b9) (l' := stC ({ s with len := 0, kids := 0 } : Stt)) (by (repeat' constructor)) rfl ?_
  refine G.then_n ?_
  refine G.trOpen (τ := τ) (by (repeat' constructor)) fun rn rs m s0 hI => ?_
  refine G.draw [7, 10, 11] [[0, 1, 2, 3, 4, 5, 6, 8, 7, 9, 10], [11]] mixed (by kernel_rfl) ?_
  refine Phases.go [ptc b9 _ _, ptc t _ _] (by (repeat' constructor)) ?_
  rcases hal : alook m p with _ | px
  ·refine D.q rfl (by kernel_rfl) (Quiet.move rfl) ?_
   refine D.q rfl (by kernel_rfl) (Quiet.nilp rfl) ?_
   refine D.q rfl (by kernel_rfl) (Quiet.fieldAddr rfl fo_110_0) ?_
   refine D.q rfl (by kernel_rfl) (Quiet.load rfl ag_107 (by (repeat' constructor)) (rfl)) ?_
   refine D.q rfl (by kernel_rfl) (Quiet.move rfl) ?_
   refine D.q rfl (by kernel_rfl) (Quiet.move rfl) ?_
   refine D.qw [7, 9, 10] rfl (by kernel_rfl) (Quiet.move rfl) ?_
   refine D.q rfl (by kernel_rfl) (Quiet.loadAs (vs := stC ({ s with len := 0, kids := 0 } : Stt)) rfl ag_43 (by (repeat' constructor)) (by simp [stC]) rfl) ?_
   refine D.h rfl (by kernel_rfl) (OpSpec.call Tryz.func58 rfl rfl (vs := [_]) rfl (aclone_spec va acl q hq hacl)) (by (repeat' constructor)) ?nx23
   rintro v L' ⟨⟨a7, c7, rfl⟩, rfl⟩
   refine D.qw [10] rfl (by kernel_rfl) (Quiet.buildN (pl := [(0, 1), (1, 1), (2, 9)]) (us := [(0, vstr d), (1, .slice a7 acl.length c7), (2, .agg (stC ({ s with len := 0, kids := 0 } : Stt)).toArray)]) (cells := ndC (.slice a7 acl.length c7) (laidN d acl s)) Tryz.underlying106 (by kernel_rfl) ze_106 rfl (fill_node _ _ _ _ _ _ _ _ _ _ _ _ _)) ?_
   refine D.h rfl (by kernel_rfl) (OpSpec.box rfl) (by (repeat' constructor)) ?nx26
   rintro v L' ⟨tn, rfl, rfl⟩
   refine D.ph ?_
   refine Phases.go [] (by (repeat' constructor)) ?_
   refine D.h rfl (by kernel_rfl) (OpSpec.mapSet (m := m) (enc := ndV) (v := ((tn, (.slice a7 acl.length c7, laidN d acl s)) : Nm)) (k := p) (KeyLaw.str Tryz.underlying9) rfl rfl rfl Tryz.underlying107 ?he28) (by (repeat' constructor)) ?nx29
   case he28 => rfl
   rintro v L' rfl
   refine D.ph (Phases.fin ?_)
   refine G.toRd (by (repeat' constructor)) ?_
   refine G.ndFold (x := (p, ((tn, (.slice a7 acl.length c7, laidN d acl s)) : Nm))) (by (repeat' constructor)) rfl rfl rfl rfl ?_
   have hdel := adel_none hal
   refine G.bigPut (f := inN) (m := m) p ((tn, (.slice a7 acl.length c7, laidN d acl s)) : Nm) rfl (by rw [hdel]; (repeat' constructor)) ?_
   refine G.trFold (τ := ({ τ with nodes := sset τ.nodes p (laidN d acl s) } : Tr)) (hI.lay p ((tn, (.slice a7 acl.length c7, laidN d acl s)) : Nm)) (by (repeat' constructor)) rfl rfl rfl ?_
   refine G.done_n ?_
   have hz : layZ τ p d acl s = ({ τ with nodes := sset τ.nodes p (laidN d acl s) } : Tr) := by unfold layZ; rw [if_pos h12]
   refine G.trCast (τ' := layZ τ p d acl s) (by (repeat' constructor)) hz ?_
   exact G.done (l := []) rfl rfl ⟨rfl, rfl⟩ (by (repeat' constructor)) (by (repeat' constructor))
  ·refine D.q rfl (by kernel_rfl) (Quiet.move rfl) ?_
   refine D.q rfl (by kernel_rfl) (Quiet.nilp rfl) ?_
   refine D.q rfl (by kernel_rfl) (Quiet.fieldAddr rfl fo_110_0) ?_
   refine D.q rfl (by kernel_rfl) (Quiet.load rfl ag_107 (by (repeat' constructor)) (rfl)) ?_
   refine D.q rfl (by kernel_rfl) (Quiet.move rfl) ?_
   refine D.q rfl (by kernel_rfl) (Quiet.move rfl) ?_
   refine D.qw [7, 9, 10] rfl (by kernel_rfl) (Quiet.move rfl) ?_
   refine D.q rfl (by kernel_rfl) (Quiet.loadAs (vs := stC ({ s with len := 0, kids := 0 } : Stt)) rfl ag_43 (by (repeat' constructor)) (by simp [stC]) rfl) ?_
   refine D.h rfl (by kernel_rfl) (OpSpec.call Tryz.func58 rfl rfl (vs := [_]) rfl (aclone_spec va acl q hq hacl)) (by (repeat' constructor)) ?nx38
   rintro v L' ⟨⟨a7, c7, rfl⟩, rfl⟩
   refine D.qw [10] rfl (by kernel_rfl) (Quiet.buildN (pl := [(0, 1), (1, 1), (2, 9)]) (us := [(0, vstr d), (1, .slice a7 acl.length c7), (2, .agg (stC ({ s with len := 0, kids := 0 } : Stt)).toArray)]) (cells := ndC (.slice a7 acl.length c7) (laidN d acl s)) Tryz.underlying106 (by kernel_rfl) ze_106 rfl (fill_node _ _ _ _ _ _ _ _ _ _ _ _ _)) ?_
   refine D.h rfl (by kernel_rfl) (OpSpec.box rfl) (by (repeat' constructor)) ?nx41
   rintro v L' ⟨tn, rfl, rfl⟩
   refine D.ph ?_
   refine Phases.go [] (by (repeat' constructor)) ?_
   refine D.h rfl (by kernel_rfl) (OpSpec.mapSet (m := m) (enc := ndV) (v := ((tn, (.slice a7 acl.length c7, laidN d acl s)) : Nm)) (k := p) (KeyLaw.str Tryz.underlying9) rfl rfl rfl Tryz.underlying107 ?he43) (by (repeat' constructor)) ?nx44
   case he43 => rfl
   rintro v L' rfl
   refine D.ph (Phases.fin ?_)
   refine G.toRd (by (repeat' constructor)) ?_
   refine G.ndFold (x := (p, ((tn, (.slice a7 acl.length c7, laidN d acl s)) : Nm))) (by (repeat' constructor)) rfl rfl rfl rfl ?_
   refine G.bigTake hal (by (repeat' constructor)) ?_
   refine G.bigPut (f := inN) (m := m) p ((tn, (.slice a7 acl.length c7, laidN d acl s)) : Nm) rfl (by (repeat' constructor)) ?_
   refine G.trFold (τ := ({ τ with nodes := sset τ.nodes p (laidN d acl s) } : Tr)) (hI.lay p ((tn, (.slice a7 acl.length c7, laidN d acl s)) : Nm)) (by (repeat' constructor)) rfl rfl rfl ?_
   refine G.done_n ?_
   have hz : layZ τ p d acl s = ({ τ with nodes := sset τ.nodes p (laidN d acl s) } : Tr) := by unfold layZ; rw [if_pos h12]
   refine G.trCast (τ' := layZ τ p d acl s) (by (repeat' constructor)) hz ?_
   exact G.done (l := []) rfl rfl ⟨rfl, rfl⟩ (by (repeat' constructor)) (by (repeat' constructor))

def layS (τ : Tr) (id n : Int) (s : Bs) : Tr := if 0 < id then openS τ id n s else τ
set_option maxRecDepth 100000 in
theorem trlayses_spec (t : Nat) (τ : Tr) (id n : Int) (s : Bs) : Fn Tryz.prog 75 #[vptr t, vint id, vint n, vstr s] [treeR t τ] fun v L => v = .tuple #[] ∧ L = [treeR t (layS τ id n s)] := by
 refine Fn.intro (vs := [vptr t, vint id, vint n, vstr s]) Tryz.func75 rfl rfl ?_
 intro F W
 refine G.seq (G.region (G.q (Quiet.move rfl) rfl (G.q (Quiet.int rfl rfl rfl) rfl (G.nil (G.then_n ?_)))))
 refine G.condD rfl (fun h9 => ?_) (fun h9 => ?_)
 ·refine G.trOpen (τ := τ) (by (repeat' constructor)) fun rn rs m s0 hI => ?_
  refine G.region (G.q (Quiet.move rfl) rfl (G.q (Quiet.nilp rfl) rfl (G.q (Quiet.fieldAddr rfl fo_110_1) rfl ?_)))
  refine G.q (Quiet.load rfl ag_108 (by (repeat' constructor)) (rfl)) rfl ?_
  refine G.q (Quiet.move rfl) rfl (G.q (Quiet.move rfl) rfl (G.q (Quiet.move rfl) rfl ?_))
  refine G.q (Quiet.build (us := [(0, _), (1, _)]) fl_112 ze_112 rfl rfl (by simp [isCell])) rfl ?_
  refine G.op (OpSpec.mapSet (m := s0) (enc := ssV) (v := (n, s)) (k := id) (KeyLaw.int Tryz.underlying3) rfl rfl rfl Tryz.underlying108 ?he11) (by (repeat' constructor)) rfl ?nx12
  case he11 => rfl
  rintro v L' rfl
  refine G.nil ?_
  refine G.trFold (τ := (openS τ id n s)) (hI.open id n s) (by (repeat' constructor)) rfl rfl rfl ?_
  refine G.done_n ?_
  refine G.trCast (τ' := layS τ id n s) (by (repeat' constructor)) (by unfold layS; rw [if_pos h9]) ?_
  exact G.done (l := []) rfl rfl ⟨rfl, rfl⟩ (by (repeat' constructor)) (by (repeat' constructor))
 ·refine G.skip (G.done_n ?_)
  refine G.trCast (τ' := layS τ id n s) (by (repeat' constructor)) (by unfold layS; rw [if_neg h9]) ?_
  exact G.done (l := []) rfl rfl ⟨rfl, rfl⟩ (by (repeat' constructor)) (by (repeat' constructor))

end Go.Proofs.YtnnbelmpbmfdnaaGreatDoor

/- Own work: any entries, as arguments: what they may be, and how great a tree they make: plain. -/
namespace Go.Proofs.YtnnbelmpbmfdnaaGreatDoor
open Go

def wtL (l : List En) : Nat := (l.map fun e => 1 + e.subs.length).sum
theorem wt_take {l : List En} (i : Nat) : wtL (l.take i) ≤ wtL l := by
  unfold wtL
  induction l generalizing i with
  | nil => simp
  | cons e l ih =>
    cases i with
    | zero => simp
    | succ i =>
      rw [List.take_succ_cons, List.map_cons, List.sum_cons, List.map_cons, List.sum_cons]
      have := ih i
      omega
def SesB (τ : Tr) : Prop := ∀ y ∈ τ.sess, y.1 ≤ 9223372036854775807
structure EntsA (p : HP) (v : Value) (es : List En) : Prop where
  cells : ∀ h : Hp, p h → rdS 11 h v es.length (es.flatMap enC)
  len : es.length ≤ 1048576
  tx : ∀ e ∈ es, TxA p e.x e.subs
  own : ∀ e ∈ es, e.x.own ≤ 9223372036854775807
  total : wtL es ≤ 2097152
theorem apply_ok {τ : Tr} {N : Nat} (h : τ.Ok N) {p : HP} {e : En} (ht : TxA p e.x e.subs) : (appE τ e).Ok (N + (1 + e.subs.length)) :=
  (h.apply e.zx e.x e.subs ht.own.few (fun y hy => (ht.each y hy).few)).more (by omega)
theorem ents_ok {p : HP} : ∀ {l : List En} {τ : Tr} {N : Nat}, τ.Ok N → (∀ e ∈ l, TxA p e.x e.subs) → (appL τ l).Ok (N + wtL l)
  | [], _, _, h, _ => h
  | e :: l, τ, N, h, hl => (ents_ok (apply_ok h (hl e List.mem_cons_self)) (fun x hx => hl x (List.mem_cons_of_mem _ hx))).more (by unfold wtL; rw [List.map_cons, List.sum_cons]; omega)
theorem EntsA.ok {p : HP} {v : Value} {es : List En} (h : EntsA p v es) {τ : Tr} {N : Nat} (ho : τ.Ok N) (i : Nat) : (appL τ (es.take i)).Ok (N + 2097152) :=
  (ents_ok ho fun e he => h.tx e (List.mem_of_mem_take he)).more (by have := wt_take (l := es) i; have := h.total; omega)
theorem app_sesB {τ : Tr} (h : SesB τ) {e : En} (ho : e.x.own ≤ 9223372036854775807) : SesB (appE τ e) := by
  intro y hy
  rw [app_sess] at hy
  unfold sesE at hy
  split at hy
  · split at hy
    · rcases sset_mem hy with rfl | hy
      · exact ho
      · exact h y hy
    · exact h y hy
  · split at hy
    · exact h y (List.mem_filter.1 hy).1
    · exact h y hy
theorem EntsA.few {p : HP} {v : Value} {es : List En} (h : EntsA p v es) {i : Nat} (hi : i < es.length) : es[i].subs.length ≤ 1048576 := (h.tx _ (List.getElem_mem hi)).few
end Go.Proofs.YtnnbelmpbmfdnaaGreatDoor

/- Own work: entries that are lent with one more behind each list: plain. -/

namespace Go.Proofs.YtnnbelmpbmfdnaaGreatDoor
open Go

def over77 : Ac := (77, [])
def pt77 : Pt := ⟨77, [], [], .slice none 0 0, [], 0, 0, 0, .slice none 0 0⟩
def growV : Value → Value
  | .slice a n c => .slice a (n + 1) c
  | v => v
/-- A part, but for where its lists lie. -/
def clr (y : Pt) : Pt := { y with aclV := .slice none 0 0 }
def clr2 (y : Pt) : Pt := { y with aclV := .slice none 0 0, subsV := .slice none 0 0 }
def wA (y : Pt) (v : Value) : Pt := ⟨y.kind, y.path, y.data, v, y.acl, y.own, y.num, y.err, y.subsV⟩
def wS (y : Pt) (v : Value) : Pt := ⟨y.kind, y.path, y.data, y.aclV, y.acl, y.own, y.num, y.err, v⟩
theorem wA_cells {y : Pt} {v : Value} (h1 : isCell v = true) (h2 : isCell y.subsV = true) : ∀ u ∈ ptC (wA y v), isCell u = true := by
  intro u hu
  simp only [ptC, wA, List.mem_cons, List.not_mem_nil, or_false] at hu
  rcases hu with rfl | rfl | rfl | rfl | rfl | rfl | rfl | rfl
  case inr.inr.inr.inl => exact h1
  case inr.inr.inr.inr.inr.inr.inr => exact h2
  all_goals rfl
/-- A list that owns one more behind its end. -/
def lentL (T : TypeId) (sz : Nat) (v : Value) (n : Nat) (xs : List Value) : HP := fun h => (∃ b c, n + 1 ≤ c ∧ v = .slice (some ⟨b, 0, none⟩) n c) ∧ slR T sz (growV v) (n + 1) xs h
def lentA (y : Pt) : HP := lentL 104 2 y.aclV y.acl.length ((y.acl ++ [over77]).flatMap acC)
def lentS (e : En) : HP := lentL 37 8 e.x.subsV e.subs.length ((e.subs ++ [pt77]).flatMap ptC)
def lentE (e : En) : HP := sep [lentA e.x, lentS e, bigR lentA e.subs]
structure LentOf (e e0 : En) : Prop where
  zx : e.zx = e0.zx
  own : clr2 e.x = clr2 e0.x
  subs : e.subs.map clr = e0.subs.map clr
  cellA : isCell e.x.aclV = true
  cellS : isCell e.x.subsV = true
  each : ∀ y ∈ e.subs, isCell y.aclV = true
theorem lent_rd {T : TypeId} {sz n : Nat} {v : Value} {xs ys : List Value} {h : Hp} (hl : xs.length = n * sz) (hs : lentL T sz v n (xs ++ ys) h) : rdS sz h v n xs := by
  obtain ⟨⟨b, c, hc, rfl⟩, hs⟩ := hs
  have q := slR_rd_to (k := n) (n := n + 1) (by omega) hs
  rwa [← hl, List.take_left] at q
theorem lentA_rd {y : Pt} {h : Hp} (hs : lentA y h) : rdS 2 h y.aclV y.acl.length (y.acl.flatMap acC) := by
  unfold lentA at hs; rw [List.flatMap_append] at hs
  exact lent_rd (flatMap_len (fun _ _ => rfl)) hs
theorem lentS_rd {e : En} {h : Hp} (hs : lentS e h) : rdS 8 h e.x.subsV e.subs.length (e.subs.flatMap ptC) := by
  unfold lentS at hs; rw [List.flatMap_append] at hs
  exact lent_rd (flatMap_len (fun _ _ => rfl)) hs
theorem big_memA {f : Pt → HP} {l : List Pt} {y : Pt} (hy : y ∈ l) {h : Hp} (hs : bigR f l h) : ∃ h1, f y h1 ∧ ∀ b o, h1 b = some o → h b = some o := by
  induction l generalizing h with
  | nil => cases hy
  | cons x l ih =>
    have q := big_cons hs
    rcases List.mem_cons.1 hy with rfl | hy
    · obtain ⟨h1, a1, p1⟩ := sep_head q; exact ⟨h1, p1, a1⟩
    · obtain ⟨h1, h2, -, a1, a2, p1, hq⟩ := q
      obtain ⟨h3, a3, p2⟩ := sep_head hq
      obtain ⟨h4, p4, a4⟩ := ih hy p2
      exact ⟨h4, p4, fun b o g => a2 _ _ (a3 _ _ (a4 _ _ g))⟩
theorem lent_mem {e e0 : En} (hl : LentOf e e0) {y : Pt} (hy : y ∈ e.subs) : ∃ z ∈ e0.subs, clr y = clr z := by
  have : clr y ∈ e0.subs.map clr := hl.subs ▸ List.mem_map_of_mem hy
  obtain ⟨z, hz, h⟩ := List.mem_map.1 this
  exact ⟨z, hz, h.symm⟩
theorem LentOf.len {e e0 : En} (hl : LentOf e e0) : e.subs.length = e0.subs.length := by have := congrArg List.length hl.subs; simpa using this
theorem lent_tx {p : HP} {e e0 : En} (hl : LentOf e e0) (h : TxA p e0.x e0.subs) : TxA (lentE e) e.x e.subs := by
  have a1 : e.x.acl = e0.x.acl := by have g : (clr2 e.x).acl = (clr2 e0.x).acl := congrArg Pt.acl hl.own; exact g
  have a2 : e.x.path = e0.x.path := by have g : (clr2 e.x).path = (clr2 e0.x).path := congrArg Pt.path hl.own; exact g
  refine ⟨⟨fun w hw => ?_, by rw [a1]; exact h.own.few, by rw [a2]; exact h.own.plen, hl.cellS, hl.cellA⟩, fun w hw => ?_, by rw [hl.len]; exact h.few, fun y hy => ?_⟩
  · obtain ⟨h1, g1, p1⟩ := sep_head hw; exact rdS_mono (lentA_rd p1) g1
  · obtain ⟨h1, h2, -, g1, g2, p1, hq⟩ := hw
    obtain ⟨h3, g3, p2⟩ := sep_head hq
    exact rdS_mono (lentS_rd p2) fun b o g => g2 _ _ (g3 _ _ g)
  · obtain ⟨z, hz, hyz⟩ := lent_mem hl hy
    have b1 : y.acl = z.acl := by have g : (clr y).acl = (clr z).acl := congrArg Pt.acl hyz; exact g
    have b2 : y.path = z.path := by have g : (clr y).path = (clr z).path := congrArg Pt.path hyz; exact g
    have b3 : y.subsV = z.subsV := by have g : (clr y).subsV = (clr z).subsV := congrArg Pt.subsV hyz; exact g
    have hp := h.each z hz
    refine ⟨fun w hw => ?_, by rw [b1]; exact hp.few, by rw [b2]; exact hp.plen, by rw [b3]; exact hp.subs, hl.each y hy⟩
    obtain ⟨h1, h2, -, g1, g2, p1, hq⟩ := hw
    obtain ⟨h3, h4, -, g3, g4, p2, hq2⟩ := hq
    obtain ⟨h5, g5, p3⟩ := sep_head hq2
    obtain ⟨h6, p6, g6⟩ := big_memA hy p3
    exact rdS_mono (lentA_rd p6) fun b o g => g2 _ _ (g4 _ _ (g5 _ _ (g6 _ _ g)))
theorem parts_clr (τ : Tr) (zx : Int) (l : List Pt) : partsZ τ zx (l.map clr) = partsZ τ zx l := by
  unfold partsZ
  rw [List.foldl_map]
  rfl
theorem apply_clr (τ : Tr) (zx : Int) (x : Pt) (l : List Pt) : applyZ τ zx (clr2 x) (l.map clr) = applyZ τ zx x l := by
  unfold applyZ
  rw [show (l.map clr).filter isDel = (l.filter isDel).map clr by rw [List.filter_map]; rfl]
  dsimp only
  rw [parts_clr, parts_clr]
  rfl
theorem LentOf.apply {e e0 : En} (hl : LentOf e e0) (τ : Tr) : applyZ τ e.zx e.x e.subs = applyZ τ e0.zx e0.x e0.subs := by
  rw [← apply_clr, ← apply_clr τ e0.zx e0.x, hl.zx, hl.own, hl.subs]
theorem OpSpec.shapedS {P : Program} {E : Env} {o : Oper} {pre R : List HP} {e : TypeId} {sz k : Nat} {ys : List Value} (hk : 0 < k) (h : OpSpec P o E pre fun v L' => (∃ a c, v = .slice a k c) ∧ L' = slR e sz v k ys :: R) :
    OpSpec P o E pre fun v L' => ∃ b c, k ≤ c ∧ v = .slice (some ⟨b, 0, none⟩) k c ∧ L' = slR e sz v k ys :: R := by
  intro ρ w F ha hs
  refine (h ρ w F ha hs).mono ?_
  rintro v w' ⟨L', ⟨-, rfl⟩, hs', hk'⟩
  obtain ⟨h1, -, hp⟩ := sep_head hs'
  rcases hp with ⟨-, h2, -⟩ | ⟨b, cap, rest, fr, hv, -, -, -, h4, -⟩
  · omega
  · exact ⟨_, ⟨b, cap, h4, hv, rfl⟩, hs', hk'⟩
theorem slR_up {T : TypeId} {sz n : Nat} {v : Value} {xs : List Value} {h h' : Hp} (hs : slR T sz v n xs h) (hle : ∀ b o, h b = some o → h' b = some o) : slR T sz v n xs h' := by
  rcases hs with hs | ⟨b, cap, rest, fr, hv, hb, h1⟩
  · exact .inl hs
  · exact .inr ⟨b, cap, rest, fr, hv, hle _ _ hb, h1⟩
section
variable {W : World} {n : Nat} {ds : List Deferred} {E : Env} {L R : List HP} {X : Act → World → Prop}
theorem G.lentFold (y : Pt) {b c : Nat} {xs : List Value} (hL : Pick (slR 104 2 (.slice (some ⟨b, 0, none⟩) (y.acl.length + 1) c) (y.acl.length + 1) xs) L R) (hc : y.acl.length + 1 ≤ c) (hv : y.aclV = .slice (some ⟨b, 0, none⟩) y.acl.length c)
    (hx : xs = y.acl.flatMap acC ++ acC over77) (h : G W n ds E (lentA y :: R) X) : G W n ds E L X := by
  refine G.fold (p := lentA y) (.cons hL .nil) (fun w hw => ?_) h
  obtain ⟨h1, a1, p1⟩ := sep_head hw
  have p2 := slR_up p1 a1
  refine ⟨⟨b, c, hc, hv⟩, ?_⟩
  rw [hv, List.flatMap_append]
  subst hx
  simpa [growV] using p2
theorem G.lentFoldS (e : En) {b c : Nat} {xs : List Value} (hL : Pick (slR 37 8 (.slice (some ⟨b, 0, none⟩) (e.subs.length + 1) c) (e.subs.length + 1) xs) L R) (hc : e.subs.length + 1 ≤ c) (hv : e.x.subsV = .slice (some ⟨b, 0, none⟩) e.subs.length c)
    (hx : xs = e.subs.flatMap ptC ++ ptC pt77) (h : G W n ds E (lentS e :: R) X) : G W n ds E L X := by
  refine G.fold (p := lentS e) (.cons hL .nil) (fun w hw => ?_) h
  obtain ⟨h1, a1, p1⟩ := sep_head hw
  have p2 := slR_up p1 a1
  refine ⟨⟨b, c, hc, hv⟩, ?_⟩
  rw [hv, List.flatMap_append]
  subst hx
  simpa [growV] using p2
theorem big_snocF {α : Type} {f : α → HP} {l : List α} {y : α} {h : Hp} (hs : sep [f y, bigR f l] h) : bigR f (l ++ [y]) h :=
  big_perm (List.perm_append_comm (l₁ := [y])) (big_of_cons hs)
theorem G.bigSnocF {α : Type} {f : α → HP} {l : List α} (y : α) {p : HP} (hp : p = f y) (hL : Picks [p, bigR f l] L R) (h : G W n ds E (bigR f (l ++ [y]) :: R) X) : G W n ds E L X := by
  subst hp
  exact G.fold hL (fun w hw => big_snocF hw) h
theorem G.lentOpen {T : TypeId} {sz m : Nat} {v : Value} {xs : List Value} (hL : Pick (lentL T sz v m xs) L R) (h : ∀ b c, m + 1 ≤ c → v = .slice (some ⟨b, 0, none⟩) m c → G W n ds E (slR T sz (.slice (some ⟨b, 0, none⟩) (m + 1) c) (m + 1) xs :: R) X) : G W n ds E L X := by
  intro a w he hk hs
  obtain ⟨h1, -, hp⟩ := sep_head (hs.pick hL)
  obtain ⟨⟨b, c, hc, hv⟩, -⟩ := hp
  refine h b c hc hv a w he hk (sep_imp (fun w' hw => ?_) (hs.pick hL))
  obtain ⟨⟨b', c', hc', hv'⟩, hq⟩ := hw
  rw [hv] at hq
  exact hq
theorem G.lentOpenE {e : En} (hL : Pick (lentE e) L R) (h : G W n ds E (lentA e.x :: lentS e :: bigR lentA e.subs :: R) X) : G W n ds E L X :=
  G.perm hL.perm (G.unfold (q := [lentA e.x, lentS e, bigR lentA e.subs]) (fun _ hp => hp) h)
theorem G.bigUncons {α : Type} {f : α → HP} {x : α} {l m : List α} (hm : m = x :: l) (hL : Pick (bigR f m) L R) (h : G W n ds E (f x :: bigR f l :: R) X) : G W n ds E L X :=
  G.perm hL.perm (G.unfold (q := [f x, bigR f l]) (fun _ hp => by rw [hm] at hp; exact big_cons hp) h)
end
theorem over_at (l : List Ac) {n : Nat} (hn : n = l.length) : ((l ++ [over77]).flatMap acC)[n * 2 + 0]? = some (vint 77) := by
  subst hn
  rw [flatMap_cell (f := acC) (sz := 2) (fun _ _ => rfl) (by simp) (by decide)]
  simp [over77, acC]
theorem overS_at (l : List Pt) {n : Nat} (hn : n = l.length) : ((l ++ [pt77]).flatMap ptC)[n * 8 + 0]? = some (vint 77) := by
  subst hn
  rw [flatMap_cell (f := ptC) (sz := 8) (fun _ _ => rfl) (by simp) (by decide)]
  simp [pt77, ptC]
theorem lent_rdX {T : TypeId} {b c k : Nat} {l : List Ac} (hk : k = l.length) : ∀ h : Hp, slR T 2 (.slice (some ⟨b, 0, none⟩) (k + 1) c) (k + 1) ((l ++ [over77]).flatMap acC) h → rdS 2 h (.slice (some ⟨b, 0, none⟩) k c) l.length (l.flatMap acC) := by
  intro h hs
  subst hk
  rw [List.flatMap_append] at hs
  have q := slR_rd_to (k := l.length) (n := l.length + 1) (by omega) hs
  rwa [← show (l.flatMap acC).length = l.length * 2 from flatMap_len (fun _ _ => rfl), List.take_left] at q
end Go.Proofs.YtnnbelmpbmfdnaaGreatDoor

