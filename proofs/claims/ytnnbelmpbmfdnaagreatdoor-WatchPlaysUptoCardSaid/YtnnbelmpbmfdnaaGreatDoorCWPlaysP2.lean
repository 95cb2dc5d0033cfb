/- Own work, some of it printed by program, texts that were built one by one and are laid one behind the other here: package tree: erase, part, Apply and what is told of a tree: walked. | package tree: Stat, Get, Same: walked. | package tree: Apply, Stat, Get: walked. | entries as plain data; what is done below one node does not touch what is below another one: plain. | sound histories as plain data, and what is so in all of them. | package tree: Owned, Session, Kids: walked. | who owns what in a sound history: plain. | sessions and nodes know nothing of one another, but for a session's end: plain. | the end of a sound history, done again, changes nothing: plain. | slices.Compact at []int, out of the shelf's contract, for a slice that is owned. | a table of watches as plain data, and what stands for it in memory. | what firing and dropping do, in plain words. | WatchOnce, WatchApart, WatchGone in plain words. | package watch: walked. | package watch: gone, Drop, Fire: walked. -/
import Derived.Test.YtnnbelmpbmfdnaaGreatDoorCWPlaysP1
import Derived.Test.YtnnbelmpbmfdnaaGreatDoorCWPlaysP0
import Derived.Shelf.Slices.CompactI
import Derived.Shelf.Slices.Cells
set_option linter.unusedSimpArgs false
set_option linter.unusedVariables false
/- Own work, by program: package tree: erase, part, Apply and what is told of a tree: walked. -/

namespace Go.Proofs.YtnnbelmpbmfdnaaGreatDoor
open Go
theorem trkeys_spec (mb : Option Nat) : Fn Tryz.prog 48 #[.map mb] [] fun v L => ∃ b, v = .func (.func 98) #[] #[vptr b] ∧ L = [ptc b [.map mb] 107] :=
  keysS_fn Tryz.keysS mb
theorem trsorted_spec {b r : Nat} {T : TypeId} (m : NmM) (hnd : (m.map (·.1)).Nodup) (hbd : ∀ x ∈ m, x.1.length ≤ 60) (hlen : m.length ≤ 1099511627776) :
    Fn Tryz.prog 47 #[.func (.func 98) #[] #[vptr b]] [ptc b [.map (some r)] T, mapR r (ndE m)] fun v L => (∃ a c, v = .slice a m.length c) ∧ L = [slR 9 1 v m.length (strs (sortS (m.map (·.1)))), mapR r (ndE m)] :=
  sortedS_fn Tryz.keysS Tryz.sortedS Tryz.sortS rfl (enters_of Tryz.func97 rfl rfl) (enters_of Tryz.func98 rfl rfl) Tryz.underlying9 (enc := ndV) (b := b) (r := r) (T := T) m hnd (fun x hx => Nat.le_trans (hbd x hx) (by decide)) hlen
theorem sortstr_spec (v : Value) (n : Nat) (xs : List Bs) (hn : n < 4611686018427387904) : Fn Tryz.prog 97 #[v] [slR 9 1 v n (strs xs)] fun u L => u = .tuple #[] ∧ L = [slR 9 1 v n (strs (sortS xs))] :=
  sortS_fn Tryz.sortS 9 v n xs hn
set_option maxRecDepth 100000 in
theorem trkids0_spec (t rn : Nat) (vs vz : Value) (m : NmM) (p : Bs) (hlen : ∀ x ∈ m, x.1.length ≤ 60) (hm0 : m.length ≤ 1099511627776) : Fn Tryz.prog 49 #[vptr t, vstr p] [ptc t [.map (some rn), vs, vz] 110, mapR rn (ndE m)] fun v L => (∃ a c, v = .slice a (kidsM m p).length c) ∧ L = [ptc t [.map (some rn), vs, vz] 110, mapR rn (ndE m), slR 9 1 v (kidsM m p).length (strs (sortS (kidsM m p)))] := by
 refine Fn.intro (vs := [vptr t, vstr p]) Tryz.func49 rfl rfl ?_
 intro F W
 refine G.seq (G.region (G.q (Quiet.assign rfl) rfl (G.nil (G.then_n (G.seq (G.add (slR_nil 9 1) (G.region (G.q (Quiet.assign rfl) rfl (G.nil (G.then_n (G.seq (G.seq (G.region (G.q (Quiet.move rfl) rfl (G.q (Quiet.nilp rfl) rfl (G.q (Quiet.fieldAddr rfl fo_110_0) rfl ?_))))))))))))))))
 refine G.q (Quiet.load rfl ag_107 (by (repeat' constructor)) (rfl)) rfl ?_
 refine G.op (OpSpec.range (f := fun x : Bs × Nm => (vstr x.1, ndV x.2)) (m := m) rfl Tryz.underlying107 ?he7) (by (repeat' constructor)) rfl ?nx8
 case he7 => rfl
 rintro v L' ⟨it, rfl, rfl⟩
 refine G.nil (G.then_n (G.block ?_))
 refine G.loopK (ι := NmM × Value × (List Bs)) (fun q E => (5, q.2.1) :: E) (fun q => [rangeR (fun x : Bs × Nm => (vstr x.1, ndV x.2)) it rn m q.1, slR 9 1 q.2.1 q.2.2.length (strs q.2.2)]) (fun q => q.2.2 = kidsM q.1 p ∧ (∃ rest, m.Perm (q.1 ++ rest)) ∧ ∃ a c, q.2.1 = .slice a q.2.2.length c) (fun q => m.length - q.1.length) ([], .slice none 0 0, []) (ts := [1, 4, 11]) (.cons rfl (.cons rfl (.cons rfl (.nil)))) (⟨rfl, ⟨m, .refl _⟩, none, 0, rfl⟩) ⟨rfl, rfl, rfl, rfl, trivial⟩ (by (repeat' constructor)) ?_
 rintro ⟨ss, u, acc⟩ ⟨hacc, ⟨rest, hm⟩, au, cu, hu⟩
 dsimp only
 dsimp only at hacc hm hu
 subst hu
 have hml := hm.length_eq
 rw [List.length_append] at hml
 have hkl := kidsM_len ss p
 rw [← hacc] at hkl
 refine G.seq (G.region ?_)
 refine G.op (OpSpec.next rfl) (by (repeat' constructor)) rfl ?nx10
 rintro v L' (⟨rfl, hp3, rfl⟩ | ⟨x, rest3, rfl, hp3, rfl⟩)
 ·refine G.rangeDone (by (repeat' constructor)) ?_
  have hperm : acc.Perm (kidsM m p) := by rw [hacc]; unfold kidsM; exact ((hp3.symm.filter _).map _)
  have hpl := hperm.length_eq
  have hsp := sortS_of_perm hperm
  have hkm := kidsM_len m p
  refine G.q (Quiet.extract rfl rfl) rfl (G.nil (G.then_n (G.seq (G.condF rfl (G.exit (G.then_e (G.then_e (G.blk_e (G.then_n (G.seq (G.region (G.q (Quiet.move rfl) rfl ?_))))))))))))
  refine G.op (OpSpec.call Tryz.func97 rfl rfl (vs := [_]) rfl (sortstr_spec _ acc.length acc (by omega))) (by (repeat' constructor)) rfl ?nx14
  rintro v L' ⟨rfl, rfl⟩; rw [hsp, hpl]
  refine G.nil (G.then_n (G.seq (G.region (G.q (Quiet.move rfl) rfl (G.q (Quiet.assign rfl) rfl (G.nil (G.then_n (G.ret ?_))))))))
  exact G.done (l := [.tmp 4]) rfl rfl ⟨⟨_, _, rfl⟩, rfl⟩ (by (repeat' constructor)) (by (repeat' constructor))
 ·refine G.q (Quiet.extract rfl rfl) rfl (G.nil (G.then_n (G.seq (G.condT rfl (G.skip (G.then_n (G.block (G.seq (G.region ?_)))))))))
  refine G.q (Quiet.entryE (v := .tuple #[vstr x.1, ndV x.2]) rfl (by (repeat' constructor)) rfl) rfl ?_
  refine G.q (Quiet.extract rfl rfl) rfl (G.q (Quiet.assign rfl) rfl (G.nil ?_))
  have hxm : x ∈ m := hp3.mem_iff.2 (by simp)
  have hxl := hlen x hxm
  refine G.then_n (G.seq (G.region (G.q (Quiet.move rfl) rfl (G.q (Quiet.strne rfl rfl) rfl (G.q (Quiet.move rfl) rfl ?_)))))
  refine G.ndec (t := 18) rfl (fun h5_18 => ?_) (fun h5_18 => ?_)
  ·refine G.kNT (t := 17) rfl h5_18 (G.grun (t := 18) rfl rfl rfl (G.q (Quiet.move rfl) rfl (G.grun (t := 18) rfl rfl rfl ?_)))
   refine G.op (OpSpec.call Tryz.func99 rfl rfl (vs := [_]) rfl (parent_spec x.1 (by omega))) (by (repeat' constructor)) rfl ?nx22
   rintro v L' ⟨rfl, rfl⟩
   refine G.grun (t := 18) rfl rfl rfl (G.q (Quiet.move rfl) rfl (G.grun (t := 18) rfl rfl rfl (G.q (Quiet.streq rfl rfl) rfl (G.q (Quiet.pickT rfl rfl) rfl (G.nil (G.then_n ?_))))))
   refine G.condD rfl (fun h23 => ?_) (fun h23 => ?_)
   ·refine G.region (G.q (Quiet.move rfl) rfl (G.q (Quiet.move rfl) rfl ?_))
    refine G.op (OpSpec.call Tryz.func100 rfl rfl (vs := [_]) rfl (base_spec x.1 (by omega))) (by (repeat' constructor)) rfl ?nx27
    rintro v L' ⟨rfl, rfl⟩
    refine G.op (OpSpec.buildSlice1 (vs := [_]) el_40 ze_9 rfl rfl rfl rfl rfl (by decide)) (by (repeat' constructor)) rfl ?nx29
    rintro v L' ⟨b6_3, rfl, rfl⟩
    refine G.op (OpSpec.append1 rfl rfl rfl el_40 ze_9 rfl rfl ?c31 ?c32 (Nat.le_refl _) ?c33 (by decide)) (by (repeat' constructor)) rfl ?nx34
    case c31 => (first | (simp [isCell]; done) | (simp [isCell, setAll, Value.cells]; done))
    case c32 => rfl
    case c33 => omega
    rintro v L' ⟨⟨a6_4, c6_4, rfl⟩, rfl⟩
    refine G.q (Quiet.assign rfl) rfl (G.nil (G.blk_n (G.then_n ?_)))
    have hl := hp3.length_eq
    simp at hl
    have hsel : ¬ x.1 = [47] ∧ parentZ x.1 = p := ⟨h5_18, h23⟩
    rw [show strs acc ++ [vstr (baseZ x.1)] = strs (acc ++ [baseZ x.1]) by simp [strs], show acc.length + 1 = (acc ++ [baseZ x.1]).length by simp]
    exact G.roundK ((ss ++ [x], .slice a6_4 (acc ++ [baseZ x.1]).length c6_4, acc ++ [baseZ x.1])) (⟨by dsimp only; rw [hacc]; unfold kidsM; rw [List.filter_append, List.map_append]; simp [hsel], ⟨_, by simpa using hp3⟩, _, _, rfl⟩) (by dsimp only; simp; omega) ⟨rfl, rfl, rfl, rfl, trivial⟩ (by (repeat' constructor)) (by ((repeat (apply Have.cons; (repeat (first | exact Pick.here | apply Pick.there)))); apply Have.base; repeat' constructor))
   ·refine G.skip (G.blk_n (G.then_n ?_))
    have hl := hp3.length_eq
    simp at hl
    have hsel : ¬ x.1 = [47] → ¬ parentZ x.1 = p := fun g1 g2 => h23 g2
    exact G.roundK ((ss ++ [x], .slice au acc.length cu, acc)) (⟨by dsimp only; rw [hacc]; unfold kidsM; rw [List.filter_append, List.map_append]; simp; exact hsel, ⟨_, by simpa using hp3⟩, _, _, rfl⟩) (by dsimp only; simp; omega) ⟨rfl, rfl, rfl, rfl, trivial⟩ (by (repeat' constructor)) (by ((repeat (apply Have.cons; (repeat (first | exact Pick.here | apply Pick.there)))); apply Have.base; repeat' constructor))
  ·refine G.kNF (t := 17) rfl h5_18 (G.gskip (t := 18) rfl rfl rfl rfl (G.gskip (t := 18) rfl rfl rfl rfl (G.gskip (t := 18) rfl rfl rfl rfl (G.gskip (t := 18) rfl rfl rfl rfl (G.q (Quiet.pickF rfl rfl) rfl (G.nil (G.then_n (G.condF rfl (G.skip (G.blk_n (G.then_n ?_)))))))))))
   have hl := hp3.length_eq
   simp at hl
   have hsel : ¬ x.1 = [47] → ¬ parentZ x.1 = p := fun g1 g2 => g1 h5_18
   exact G.roundK ((ss ++ [x], .slice au acc.length cu, acc)) (⟨by dsimp only; rw [hacc]; unfold kidsM; rw [List.filter_append, List.map_append]; simp; exact hsel, ⟨_, by simpa using hp3⟩, _, _, rfl⟩) (by dsimp only; simp; omega) ⟨rfl, rfl, rfl, rfl, trivial⟩ (by (repeat' constructor)) (by ((repeat (apply Have.cons; (repeat (first | exact Pick.here | apply Pick.there)))); apply Have.base; repeat' constructor))

set_option maxRecDepth 100000 in
theorem trpaths_spec (t : Nat) (τ : Tr) (N : Nat) (ho : τ.Ok N) (hN : N ≤ 1099511627776) : Fn Tryz.prog 15 #[vptr t] [treeR t τ] fun v L => (∃ a c, v = .slice a (pathsZ τ).length c) ∧ L = [treeR t τ, slR 9 1 v (pathsZ τ).length (strs (pathsZ τ))] := by
 refine Fn.intro (vs := [vptr t]) Tryz.func15 rfl rfl ?_
 intro F W
 refine G.trOpen (τ := τ) (by (repeat' constructor)) fun rn rs m s hI => ?_
 have hlen := hI.len ho
 have hfew := ho.few
 have hpz : (pathsZ τ).length = τ.nodes.length := List.length_map _
 refine G.seq (G.region (G.q (Quiet.assign rfl) rfl (G.nil (G.then_n (G.seq (G.region (G.q (Quiet.move rfl) rfl (G.q (Quiet.nilp rfl) rfl (G.q (Quiet.fieldAddr rfl fo_110_0) rfl ?_)))))))))
 refine G.q (Quiet.load rfl ag_107 (by (repeat' constructor)) (rfl)) rfl ?_
 refine G.op (OpSpec.call Tryz.func48 rfl rfl (vs := [_]) rfl (trkeys_spec _)) (by (repeat' constructor)) rfl ?nx6
 rintro v L' ⟨bk, rfl, rfl⟩
 refine G.op (OpSpec.call Tryz.func47 rfl rfl (vs := [_]) rfl (trsorted_spec m hI.keys (hI.plen ho) (by omega))) (by (repeat' constructor)) rfl ?nx8
 rintro v L' ⟨⟨ap, cp, rfl⟩, rfl⟩; rw [hI.paths ho, show m.length = (pathsZ τ).length by omega]
 refine G.q (Quiet.assign rfl) rfl (G.nil (G.then_n (G.ret ?_)))
 refine G.trFold (τ := τ) hI (by (repeat' constructor)) rfl rfl rfl ?_
 exact G.done (l := [.tmp 2]) rfl rfl ⟨⟨_, _, rfl⟩, rfl⟩ (by (repeat' constructor)) (by (repeat' constructor))

set_option maxRecDepth 100000 in
theorem trzxid_spec (t : Nat) (τ : Tr) : Fn Tryz.prog 22 #[vptr t] [treeR t τ] fun v L => v = vint τ.zx ∧ L = [treeR t τ] := by
 refine Fn.intro (vs := [vptr t]) Tryz.func22 rfl rfl ?_
 intro F W
 refine G.trOpen (τ := τ) (by (repeat' constructor)) fun rn rs m s hI => ?_
 refine G.seq (G.region (G.q (Quiet.assign rfl) rfl (G.nil (G.then_n (G.seq (G.region (G.q (Quiet.move rfl) rfl (G.q (Quiet.nilp rfl) rfl (G.q (Quiet.fieldAddr rfl fo_110_2) rfl ?_)))))))))
 refine G.q (Quiet.load rfl ag_3 (by (repeat' constructor)) (rfl)) rfl ?_
 refine G.q (Quiet.assign rfl) rfl (G.nil (G.then_n (G.ret ?_)))
 refine G.trFold (τ := τ) hI (by (repeat' constructor)) rfl rfl rfl ?_
 exact G.done (l := [.tmp 2]) rfl rfl ⟨rfl, rfl⟩ (by (repeat' constructor)) (by (repeat' constructor))

set_option maxRecDepth 100000 in
theorem trerase_spec (t : Nat) (τ : Tr) (x : Pt) (zx : Int) (p : HP) (hx : PtA p x) (N : Nat) (ho : τ.Ok N) (hN : N ≤ 1099511627776) : Fn Tryz.prog 95 #[vptr t, .agg (ptC x).toArray, vint zx] [treeR t τ] fun v L => ∃ a c, v = .slice a (eraseZ τ x zx).2.length c ∧ L = [treeR t (eraseZ τ x zx).1, slR 75 3 v (eraseZ τ x zx).2.length ((eraseZ τ x zx).2.flatMap evC)] := by
 refine Fn.intro (vs := [vptr t, .agg (ptC x).toArray, vint zx]) Tryz.func95 rfl rfl ?_
 intro F W
 have hfew := hx.few
 have hpl := hx.plen
 have hpar := parent_len x.path
 have hpz : (pathsZ τ).length = τ.nodes.length := List.length_map _
 have hofew := ho.few
 refine G.seq (G.region ?_)
 refine G.op (OpSpec.box rfl) (by (repeat' constructor)) rfl ?nx1
 rintro v L' ⟨bx, rfl, rfl⟩
 refine G.q (Quiet.assign rfl) rfl (G.nil ?_)
 refine G.ptCast (b := bx) (l' := ptC x) (by (repeat' constructor)) rfl ?_
 refine G.then_n (G.seq (G.seq (G.region (G.q (Quiet.fieldAddr rfl fo_37_1) rfl ?_))))
 refine G.q (Quiet.load rfl ag_9 (by (repeat' constructor)) (rfl)) rfl ?_
 refine G.op (OpSpec.call Tryz.func119 rfl rfl (vs := [_]) rfl (able_spec x.path hpl)) (by (repeat' constructor)) rfl ?nx6
 rintro v L' ⟨rfl, rfl⟩
 refine G.q (Quiet.not rfl) rfl (G.nil (G.then_n ?_))
 refine G.condN rfl (fun h16 => ?_) (fun h16 => ?_)
 ·refine G.seq (G.region (G.q (Quiet.assign rfl) rfl (G.nil (G.then_n (G.ret (G.then_r (G.add (slR_nil 75 3) ?_)))))))
  have hc : eraseZ τ x zx = (τ, []) := by unfold eraseZ; rw [if_neg h16]
  refine G.trCast (τ' := (eraseZ τ x zx).1) (by (repeat' constructor)) (by rw [hc]) ?_
  refine G.slCast (T := 75) (sz := 3) (m' := (eraseZ τ x zx).2.length) (xs' := (eraseZ τ x zx).2.flatMap evC) (by (repeat' constructor)) (by (rw [hc]; try rfl)) (by (rw [hc]; try rfl)) ?_
  exact G.done (l := [.tmp 6]) rfl rfl ⟨_, _, by (rw [hc]; try rfl), rfl⟩ (by (repeat' constructor)) (by (repeat' constructor))
 ·refine G.skip (G.then_n (G.seq (G.region (G.q (Quiet.fieldAddr rfl fo_37_1) rfl ?_))))
  refine G.q (Quiet.load rfl ag_9 (by (repeat' constructor)) (rfl)) rfl ?_
  refine G.op (OpSpec.call Tryz.func99 rfl rfl (vs := [_]) rfl (parent_spec x.path (by omega))) (by (repeat' constructor)) rfl ?nx12
  rintro v L' ⟨rfl, rfl⟩
  refine G.q (Quiet.assign rfl) rfl (G.nil (G.then_n (G.seq ?_)))
  refine G.trOpen (τ := τ) (by (repeat' constructor)) fun rn rs m s hI => ?_
  refine G.draw [] [[0, 1, 2, 3, 4, 5, 6, 7, 8, 9, 10, 11]] mixed (by kernel_rfl) ?_
  refine Phases.go [] (by (repeat' constructor)) ?_
  rcases hal : alook m x.path with _ | px
  ·have hth : ¬ thereT τ x.path := hI.none_iff.1 hal
   refine D.qw [1, 2, 3, 6, 7, 8, 9, 10, 11] rfl (by kernel_rfl) (Quiet.move rfl) ?_
   refine D.qw [2, 3, 6, 7, 8, 9, 10, 11] rfl (by kernel_rfl) (Quiet.nilp rfl) ?_
   refine D.qw [3, 6, 7, 8, 9, 10, 11] rfl (by kernel_rfl) (Quiet.fieldAddr rfl fo_110_0) ?_
   refine D.qw [6, 7, 8, 9, 10, 11] rfl (by kernel_rfl) (Quiet.load rfl ag_107 (by (repeat' constructor)) (rfl)) ?_
   refine D.qw [5, 6, 7, 8, 9, 10, 11] rfl (by kernel_rfl) (Quiet.fieldAddr rfl fo_37_1) ?_
   refine D.qw [6, 7, 8, 9, 10, 11] rfl (by kernel_rfl) (Quiet.load rfl ag_9 (by (repeat' constructor)) (rfl)) ?_
   refine D.qw [7, 8, 9, 10, 11] rfl (by kernel_rfl) (Quiet.lookupOkN (m := m) (enc := ndV) (KeyLaw.str Tryz.underlying9) hal rfl rfl Tryz.underlying107 ze_102 (by (repeat' constructor)) rfl) ?_
   refine D.qw [8, 9, 10, 11] rfl (by kernel_rfl) (Quiet.move rfl) ?_
   refine D.qw [10, 11] rfl (by kernel_rfl) (Quiet.extract rfl rfl) ?_
   refine D.qw [11] rfl (by kernel_rfl) (Quiet.extract rfl rfl) ?_
   refine D.qw [11] rfl (by kernel_rfl) (Quiet.assign rfl) ?_
   refine D.qw [] rfl (by kernel_rfl) (Quiet.assign rfl) ?_
   refine D.ph (Phases.fin ?_)
   refine G.trFold (τ := τ) hI (by (repeat' constructor)) rfl rfl rfl ?_
   refine G.then_n (G.seq (G.seq (G.region (G.q (Quiet.move rfl) rfl ?_))))
   refine G.op (OpSpec.call Tryz.func15 rfl rfl (vs := [_]) rfl (trpaths_spec t τ N ho hN)) (by (repeat' constructor)) rfl ?nx24
   rintro v L' ⟨⟨ap, cp, rfl⟩, rfl⟩
   refine G.q (Quiet.slen rfl Tryz.underlying40 rfl) rfl (G.q (Quiet.move rfl) rfl (G.nil (G.then_n (G.block ?_))))
   refine G.trCast (τ' := cutL τ x.path ((pathsZ τ).take 0)) (by (repeat' constructor)) (by rw [List.take_zero, cutL_nil]) ?_
   refine G.loopK (ι := Nat) (fun q E => (33, vint q) :: E) (fun q => [treeR t (cutL τ x.path ((pathsZ τ).take q))]) (fun q => q ≤ (pathsZ τ).length) (fun q => (pathsZ τ).length - q) (0) (ts := [0, 2, 4, 6, 7, 9, 31, 32]) (.cons rfl (.cons rfl (.cons rfl (.cons rfl (.cons rfl (.cons rfl (.cons rfl (.cons rfl (.nil))))))))) (Nat.zero_le _) ⟨rfl, rfl, rfl, rfl, rfl, rfl, rfl, rfl, rfl, trivial⟩ (by (repeat' constructor)) ?_
   rintro i hi
   refine G.seq (G.region (G.q (Quiet.int rfl rfl rfl) rfl (G.nil (G.then_n (G.seq ?_)))))
   refine G.condD rfl (fun h34 => ?_) (fun h34 => ?_)
   ·have hi2 : i < (pathsZ τ).length := by omega
    refine G.slShape (v := .slice ap _ cp) (by (repeat' constructor)) (by omega) fun bp cp' e0 mp _ => ?_
    simp only [Value.slice.injEq, true_and] at e0
    obtain ⟨rfl, rfl⟩ := e0
    refine G.skip (G.then_n (G.seq (G.block (G.seq (G.region ?_)))))
    refine G.q (Quiet.indexAddr rfl rfl el_40 (by omega)) rfl ?_
    refine G.q (Quiet.loadSl (v := vstr (pathsZ τ)[i]) (i := i * 1) rfl ag_9 (by (repeat' constructor)) (by simp [hi2])) rfl ?_
    refine G.q (Quiet.assign rfl) rfl (G.nil (G.then_n (G.seq (G.region (G.q (Quiet.move rfl) rfl (G.q (Quiet.fieldAddr rfl fo_37_1) rfl ?_))))))
    refine G.q (Quiet.load rfl ag_9 (by (repeat' constructor)) (rfl)) rfl ?_
    refine G.q (Quiet.streq rfl rfl) rfl (G.q (Quiet.move rfl) rfl ?_)
    refine G.dec (t := 41) rfl (fun h8_41 => ?_) (fun h8_41 => ?_)
    ·refine G.kDT (t := 40) rfl h8_41 (G.gskip (t := 41) rfl rfl rfl rfl (G.gskip (t := 41) rfl rfl rfl rfl (G.gskip (t := 41) rfl rfl rfl rfl (G.gskip (t := 41) rfl rfl rfl rfl (G.q (Quiet.pickT rfl rfl) rfl (G.nil (G.then_n (G.condT rfl ?_))))))))
     have hhit : hitT (pathsZ τ)[i] x.path = true := by unfold hitT; rw [decide_eq_true h8_41]; rfl
     refine G.trOpen (τ := (cutL τ x.path ((pathsZ τ).take i))) (by (repeat' constructor)) fun rn rs m s hI => ?_
     refine G.region (G.q (Quiet.move rfl) rfl (G.q (Quiet.nilp rfl) rfl (G.q (Quiet.fieldAddr rfl fo_110_0) rfl ?_)))
     refine G.q (Quiet.load rfl ag_107 (by (repeat' constructor)) (rfl)) rfl ?_
     refine G.q (Quiet.move rfl) rfl ?_
     refine G.op (OpSpec.mapDel (m := m) (enc := ndV) (k := (pathsZ τ)[i]) (KeyLaw.str Tryz.underlying9) rfl rfl rfl Tryz.underlying107 ?he39) (by (repeat' constructor)) rfl ?nx40
     case he39 => rfl
     rintro v L' rfl
     refine G.nil ?_
     refine G.bigDel (f := inN) (pathsZ τ)[i] (by (repeat' constructor)) ?_
     refine G.trFold (τ := ({ (cutL τ x.path ((pathsZ τ).take i)) with nodes := (cutL τ x.path ((pathsZ τ).take i)).nodes.filter fun y => !decide (y.1 = (pathsZ τ)[i]) } : Tr)) (hI.del (pathsZ τ)[i]) (by (repeat' constructor)) rfl rfl rfl ?_
     refine G.blk_n (G.then_n (G.region ?_))
     refine G.q (Quiet.add rfl rfl (by omega)) rfl ?_
     refine G.q (Quiet.move rfl) rfl (G.nil (G.then_n ?_))
     refine G.trCast (τ' := cutL τ x.path ((pathsZ τ).take (i + 1))) (by (repeat' constructor)) (by rw [List.take_succ_eq_append_getElem hi2, cutL_hit τ _ hhit]) ?_
     exact G.roundK (i + 1) (by omega) (by omega) ⟨rfl, rfl, rfl, rfl, rfl, rfl, rfl, rfl, rfl, trivial⟩ (by (repeat' constructor)) (by ((repeat (apply Have.cons; (repeat (first | exact Pick.here | apply Pick.there)))); apply Have.base; repeat' constructor))
    ·refine G.kDF (t := 40) rfl h8_41 (G.grun (t := 41) rfl rfl rfl (G.q (Quiet.move rfl) rfl (G.grun (t := 41) rfl rfl rfl (G.q (Quiet.fieldAddr rfl fo_37_1) rfl (G.grun (t := 41) rfl rfl rfl ?_)))))
     refine G.q (Quiet.load rfl ag_9 (by (repeat' constructor)) (rfl)) rfl ?_
     refine G.grun (t := 41) rfl rfl rfl ?_
     refine G.op (OpSpec.call Tryz.func121 rfl rfl (vs := [_, _]) rfl (under_spec (pathsZ τ)[i] x.path (by omega))) (by (repeat' constructor)) rfl ?nx44
     rintro v L' ⟨rfl, rfl⟩
     refine G.q (Quiet.pickF rfl rfl) rfl (G.nil (G.then_n ?_))
     refine G.condD rfl (fun h46 => ?_) (fun h46 => ?_)
     ·have hhit : hitT (pathsZ τ)[i] x.path = true := by unfold hitT; rw [decide_eq_true h46, Bool.or_true]
      refine G.trOpen (τ := (cutL τ x.path ((pathsZ τ).take i))) (by (repeat' constructor)) fun rn rs m s hI => ?_
      refine G.region (G.q (Quiet.move rfl) rfl (G.q (Quiet.nilp rfl) rfl (G.q (Quiet.fieldAddr rfl fo_110_0) rfl ?_)))
      refine G.q (Quiet.load rfl ag_107 (by (repeat' constructor)) (rfl)) rfl ?_
      refine G.q (Quiet.move rfl) rfl ?_
      refine G.op (OpSpec.mapDel (m := m) (enc := ndV) (k := (pathsZ τ)[i]) (KeyLaw.str Tryz.underlying9) rfl rfl rfl Tryz.underlying107 ?he50) (by (repeat' constructor)) rfl ?nx51
      case he50 => rfl
      rintro v L' rfl
      refine G.nil ?_
      refine G.bigDel (f := inN) (pathsZ τ)[i] (by (repeat' constructor)) ?_
      refine G.trFold (τ := ({ (cutL τ x.path ((pathsZ τ).take i)) with nodes := (cutL τ x.path ((pathsZ τ).take i)).nodes.filter fun y => !decide (y.1 = (pathsZ τ)[i]) } : Tr)) (hI.del (pathsZ τ)[i]) (by (repeat' constructor)) rfl rfl rfl ?_
      refine G.blk_n (G.then_n (G.region ?_))
      refine G.q (Quiet.add rfl rfl (by omega)) rfl ?_
      refine G.q (Quiet.move rfl) rfl (G.nil (G.then_n ?_))
      refine G.trCast (τ' := cutL τ x.path ((pathsZ τ).take (i + 1))) (by (repeat' constructor)) (by rw [List.take_succ_eq_append_getElem hi2, cutL_hit τ _ hhit]) ?_
      exact G.roundK (i + 1) (by omega) (by omega) ⟨rfl, rfl, rfl, rfl, rfl, rfl, rfl, rfl, rfl, trivial⟩ (by (repeat' constructor)) (by ((repeat (apply Have.cons; (repeat (first | exact Pick.here | apply Pick.there)))); apply Have.base; repeat' constructor))
     ·have hhit : hitT (pathsZ τ)[i] x.path = false := by unfold hitT; rw [decide_eq_false h8_41, decide_eq_false h46]; rfl
      refine G.skip (G.blk_n (G.then_n (G.region ?_)))
      refine G.q (Quiet.add rfl rfl (by omega)) rfl ?_
      refine G.q (Quiet.move rfl) rfl (G.nil (G.then_n ?_))
      refine G.trCast (τ' := cutL τ x.path ((pathsZ τ).take (i + 1))) (by (repeat' constructor)) (by rw [List.take_succ_eq_append_getElem hi2, cutL_skip τ _ hhit]) ?_
      exact G.roundK (i + 1) (by omega) (by omega) ⟨rfl, rfl, rfl, rfl, rfl, rfl, rfl, rfl, rfl, trivial⟩ (by (repeat' constructor)) (by ((repeat (apply Have.cons; (repeat (first | exact Pick.here | apply Pick.there)))); apply Have.base; repeat' constructor))
   ·have hii : i = (pathsZ τ).length := by omega
    rw [hii, List.take_length, cutL_all]
    refine G.exit (G.then_e (G.then_e (G.blk_e (G.then_n (G.seq (G.region (G.q (Quiet.move rfl) rfl (G.q (Quiet.move rfl) rfl (G.q (Quiet.fieldAddr rfl fo_37_5) rfl ?_)))))))))
    refine G.q (Quiet.load rfl ag_3 (by (repeat' constructor)) (rfl)) rfl ?_
    refine G.q (Quiet.move rfl) rfl ?_
    refine G.op (OpSpec.call Tryz.func120 rfl rfl (vs := [_, _, _, _]) rfl (trkid_spec t (cutT τ x.path) (parentZ x.path) x.num zx)) (by (repeat' constructor)) rfl ?nx59
    rintro v L' ⟨rfl, rfl⟩
    refine G.nil (G.then_n (G.seq (G.seq (G.region (G.q (Quiet.move rfl) rfl (G.q (Quiet.not rfl) rfl (G.nil (G.then_n (G.condT rfl (G.seq (G.region (G.q (Quiet.assign rfl) rfl (G.nil (G.then_n (G.ret (G.then_r (G.add (slR_nil 75 3) ?_)))))))))))))))))
    have hc : eraseZ τ x zx = ((kidT (cutT τ x.path) (parentZ x.path) x.num zx), []) := by unfold eraseZ; rw [if_pos h16, if_neg hth]
    refine G.trCast (τ' := (eraseZ τ x zx).1) (by (repeat' constructor)) (by rw [hc]) ?_
    refine G.slCast (T := 75) (sz := 3) (m' := (eraseZ τ x zx).2.length) (xs' := (eraseZ τ x zx).2.flatMap evC) (by (repeat' constructor)) (by (rw [hc]; try rfl)) (by (rw [hc]; try rfl)) ?_
    exact G.done (l := [.tmp 6]) rfl rfl ⟨_, _, by (rw [hc]; try rfl), rfl⟩ (by (repeat' constructor)) (by (repeat' constructor))
  ·have hth : thereT τ x.path := hI.some_iff hal
   refine D.qw [1, 2, 3, 6, 7, 8, 9, 10, 11] rfl (by kernel_rfl) (Quiet.move rfl) ?_
   refine D.qw [2, 3, 6, 7, 8, 9, 10, 11] rfl (by kernel_rfl) (Quiet.nilp rfl) ?_
   refine D.qw [3, 6, 7, 8, 9, 10, 11] rfl (by kernel_rfl) (Quiet.fieldAddr rfl fo_110_0) ?_
   refine D.qw [6, 7, 8, 9, 10, 11] rfl (by kernel_rfl) (Quiet.load rfl ag_107 (by (repeat' constructor)) (rfl)) ?_
   refine D.qw [5, 6, 7, 8, 9, 10, 11] rfl (by kernel_rfl) (Quiet.fieldAddr rfl fo_37_1) ?_
   refine D.qw [6, 7, 8, 9, 10, 11] rfl (by kernel_rfl) (Quiet.load rfl ag_9 (by (repeat' constructor)) (rfl)) ?_
   refine D.qw [7, 8, 9, 10, 11] rfl (by kernel_rfl) (Quiet.lookupOkY (m := m) (enc := ndV) (KeyLaw.str Tryz.underlying9) hal rfl rfl Tryz.underlying107 ze_102 (by (repeat' constructor)) rfl) ?_
   refine D.qw [8, 9, 10, 11] rfl (by kernel_rfl) (Quiet.move rfl) ?_
   refine D.qw [10, 11] rfl (by kernel_rfl) (Quiet.extract rfl rfl) ?_
   refine D.qw [11] rfl (by kernel_rfl) (Quiet.extract rfl rfl) ?_
   refine D.qw [11] rfl (by kernel_rfl) (Quiet.assign rfl) ?_
   refine D.qw [] rfl (by kernel_rfl) (Quiet.assign rfl) ?_
   refine D.ph (Phases.fin ?_)
   refine G.trFold (τ := τ) hI (by (repeat' constructor)) rfl rfl rfl ?_
   refine G.then_n (G.seq (G.seq (G.region (G.q (Quiet.move rfl) rfl ?_))))
   refine G.op (OpSpec.call Tryz.func15 rfl rfl (vs := [_]) rfl (trpaths_spec t τ N ho hN)) (by (repeat' constructor)) rfl ?nx74
   rintro v L' ⟨⟨ap, cp, rfl⟩, rfl⟩
   refine G.q (Quiet.slen rfl Tryz.underlying40 rfl) rfl (G.q (Quiet.move rfl) rfl (G.nil (G.then_n (G.block ?_))))
   refine G.trCast (τ' := cutL τ x.path ((pathsZ τ).take 0)) (by (repeat' constructor)) (by rw [List.take_zero, cutL_nil]) ?_
   refine G.loopK (ι := Nat) (fun q E => (33, vint q) :: E) (fun q => [treeR t (cutL τ x.path ((pathsZ τ).take q))]) (fun q => q ≤ (pathsZ τ).length) (fun q => (pathsZ τ).length - q) (0) (ts := [0, 2, 4, 6, 7, 9, 31, 32]) (.cons rfl (.cons rfl (.cons rfl (.cons rfl (.cons rfl (.cons rfl (.cons rfl (.cons rfl (.nil))))))))) (Nat.zero_le _) ⟨rfl, rfl, rfl, rfl, rfl, rfl, rfl, rfl, rfl, trivial⟩ (by (repeat' constructor)) ?_
   rintro i hi
   refine G.seq (G.region (G.q (Quiet.int rfl rfl rfl) rfl (G.nil (G.then_n (G.seq ?_)))))
   refine G.condD rfl (fun h34 => ?_) (fun h34 => ?_)
   ·have hi2 : i < (pathsZ τ).length := by omega
    refine G.slShape (v := .slice ap _ cp) (by (repeat' constructor)) (by omega) fun bp cp' e0 mp _ => ?_
    simp only [Value.slice.injEq, true_and] at e0
    obtain ⟨rfl, rfl⟩ := e0
    refine G.skip (G.then_n (G.seq (G.block (G.seq (G.region ?_)))))
    refine G.q (Quiet.indexAddr rfl rfl el_40 (by omega)) rfl ?_
    refine G.q (Quiet.loadSl (v := vstr (pathsZ τ)[i]) (i := i * 1) rfl ag_9 (by (repeat' constructor)) (by simp [hi2])) rfl ?_
    refine G.q (Quiet.assign rfl) rfl (G.nil (G.then_n (G.seq (G.region (G.q (Quiet.move rfl) rfl (G.q (Quiet.fieldAddr rfl fo_37_1) rfl ?_))))))
    refine G.q (Quiet.load rfl ag_9 (by (repeat' constructor)) (rfl)) rfl ?_
    refine G.q (Quiet.streq rfl rfl) rfl (G.q (Quiet.move rfl) rfl ?_)
    refine G.dec (t := 41) rfl (fun h8_41 => ?_) (fun h8_41 => ?_)
    ·refine G.kDT (t := 40) rfl h8_41 (G.gskip (t := 41) rfl rfl rfl rfl (G.gskip (t := 41) rfl rfl rfl rfl (G.gskip (t := 41) rfl rfl rfl rfl (G.gskip (t := 41) rfl rfl rfl rfl (G.q (Quiet.pickT rfl rfl) rfl (G.nil (G.then_n (G.condT rfl ?_))))))))
     have hhit : hitT (pathsZ τ)[i] x.path = true := by unfold hitT; rw [decide_eq_true h8_41]; rfl
     refine G.trOpen (τ := (cutL τ x.path ((pathsZ τ).take i))) (by (repeat' constructor)) fun rn rs m s hI => ?_
     refine G.region (G.q (Quiet.move rfl) rfl (G.q (Quiet.nilp rfl) rfl (G.q (Quiet.fieldAddr rfl fo_110_0) rfl ?_)))
     refine G.q (Quiet.load rfl ag_107 (by (repeat' constructor)) (rfl)) rfl ?_
     refine G.q (Quiet.move rfl) rfl ?_
     refine G.op (OpSpec.mapDel (m := m) (enc := ndV) (k := (pathsZ τ)[i]) (KeyLaw.str Tryz.underlying9) rfl rfl rfl Tryz.underlying107 ?he89) (by (repeat' constructor)) rfl ?nx90
     case he89 => rfl
     rintro v L' rfl
     refine G.nil ?_
     refine G.bigDel (f := inN) (pathsZ τ)[i] (by (repeat' constructor)) ?_
     refine G.trFold (τ := ({ (cutL τ x.path ((pathsZ τ).take i)) with nodes := (cutL τ x.path ((pathsZ τ).take i)).nodes.filter fun y => !decide (y.1 = (pathsZ τ)[i]) } : Tr)) (hI.del (pathsZ τ)[i]) (by (repeat' constructor)) rfl rfl rfl ?_
     refine G.blk_n (G.then_n (G.region ?_))
     refine G.q (Quiet.add rfl rfl (by omega)) rfl ?_
     refine G.q (Quiet.move rfl) rfl (G.nil (G.then_n ?_))
     refine G.trCast (τ' := cutL τ x.path ((pathsZ τ).take (i + 1))) (by (repeat' constructor)) (by rw [List.take_succ_eq_append_getElem hi2, cutL_hit τ _ hhit]) ?_
     exact G.roundK (i + 1) (by omega) (by omega) ⟨rfl, rfl, rfl, rfl, rfl, rfl, rfl, rfl, rfl, trivial⟩ (by (repeat' constructor)) (by ((repeat (apply Have.cons; (repeat (first | exact Pick.here | apply Pick.there)))); apply Have.base; repeat' constructor))
    ·refine G.kDF (t := 40) rfl h8_41 (G.grun (t := 41) rfl rfl rfl (G.q (Quiet.move rfl) rfl (G.grun (t := 41) rfl rfl rfl (G.q (Quiet.fieldAddr rfl fo_37_1) rfl (G.grun (t := 41) rfl rfl rfl ?_)))))
     refine G.q (Quiet.load rfl ag_9 (by (repeat' constructor)) (rfl)) rfl ?_
     refine G.grun (t := 41) rfl rfl rfl ?_
     refine G.op (OpSpec.call Tryz.func121 rfl rfl (vs := [_, _]) rfl (under_spec (pathsZ τ)[i] x.path (by omega))) (by (repeat' constructor)) rfl ?nx94
     rintro v L' ⟨rfl, rfl⟩
     refine G.q (Quiet.pickF rfl rfl) rfl (G.nil (G.then_n ?_))
     refine G.condD rfl (fun h46 => ?_) (fun h46 => ?_)
     ·have hhit : hitT (pathsZ τ)[i] x.path = true := by unfold hitT; rw [decide_eq_true h46, Bool.or_true]
      refine G.trOpen (τ := (cutL τ x.path ((pathsZ τ).take i))) (by (repeat' constructor)) fun rn rs m s hI => ?_
      refine G.region (G.q (Quiet.move rfl) rfl (G.q (Quiet.nilp rfl) rfl (G.q (Quiet.fieldAddr rfl fo_110_0) rfl ?_)))
      refine G.q (Quiet.load rfl ag_107 (by (repeat' constructor)) (rfl)) rfl ?_
      refine G.q (Quiet.move rfl) rfl ?_
      refine G.op (OpSpec.mapDel (m := m) (enc := ndV) (k := (pathsZ τ)[i]) (KeyLaw.str Tryz.underlying9) rfl rfl rfl Tryz.underlying107 ?he100) (by (repeat' constructor)) rfl ?nx101
      case he100 => rfl
      rintro v L' rfl
      refine G.nil ?_
      refine G.bigDel (f := inN) (pathsZ τ)[i] (by (repeat' constructor)) ?_
      refine G.trFold (τ := ({ (cutL τ x.path ((pathsZ τ).take i)) with nodes := (cutL τ x.path ((pathsZ τ).take i)).nodes.filter fun y => !decide (y.1 = (pathsZ τ)[i]) } : Tr)) (hI.del (pathsZ τ)[i]) (by (repeat' constructor)) rfl rfl rfl ?_
      refine G.blk_n (G.then_n (G.region ?_))
      refine G.q (Quiet.add rfl rfl (by omega)) rfl ?_
      refine G.q (Quiet.move rfl) rfl (G.nil (G.then_n ?_))
      refine G.trCast (τ' := cutL τ x.path ((pathsZ τ).take (i + 1))) (by (repeat' constructor)) (by rw [List.take_succ_eq_append_getElem hi2, cutL_hit τ _ hhit]) ?_
      exact G.roundK (i + 1) (by omega) (by omega) ⟨rfl, rfl, rfl, rfl, rfl, rfl, rfl, rfl, rfl, trivial⟩ (by (repeat' constructor)) (by ((repeat (apply Have.cons; (repeat (first | exact Pick.here | apply Pick.there)))); apply Have.base; repeat' constructor))
     ·have hhit : hitT (pathsZ τ)[i] x.path = false := by unfold hitT; rw [decide_eq_false h8_41, decide_eq_false h46]; rfl
      refine G.skip (G.blk_n (G.then_n (G.region ?_)))
      refine G.q (Quiet.add rfl rfl (by omega)) rfl ?_
      refine G.q (Quiet.move rfl) rfl (G.nil (G.then_n ?_))
      refine G.trCast (τ' := cutL τ x.path ((pathsZ τ).take (i + 1))) (by (repeat' constructor)) (by rw [List.take_succ_eq_append_getElem hi2, cutL_skip τ _ hhit]) ?_
      exact G.roundK (i + 1) (by omega) (by omega) ⟨rfl, rfl, rfl, rfl, rfl, rfl, rfl, rfl, rfl, trivial⟩ (by (repeat' constructor)) (by ((repeat (apply Have.cons; (repeat (first | exact Pick.here | apply Pick.there)))); apply Have.base; repeat' constructor))
   ·have hii : i = (pathsZ τ).length := by omega
    rw [hii, List.take_length, cutL_all]
    refine G.exit (G.then_e (G.then_e (G.blk_e (G.then_n (G.seq (G.region (G.q (Quiet.move rfl) rfl (G.q (Quiet.move rfl) rfl (G.q (Quiet.fieldAddr rfl fo_37_5) rfl ?_)))))))))
    refine G.q (Quiet.load rfl ag_3 (by (repeat' constructor)) (rfl)) rfl ?_
    refine G.q (Quiet.move rfl) rfl ?_
    refine G.op (OpSpec.call Tryz.func120 rfl rfl (vs := [_, _, _, _]) rfl (trkid_spec t (cutT τ x.path) (parentZ x.path) x.num zx)) (by (repeat' constructor)) rfl ?nx109
    rintro v L' ⟨rfl, rfl⟩
    refine G.nil (G.then_n (G.seq (G.seq (G.region (G.q (Quiet.move rfl) rfl (G.q (Quiet.not rfl) rfl (G.nil (G.then_n (G.condF rfl (G.skip (G.then_n (G.seq (G.region (G.q (Quiet.fieldAddr rfl fo_37_1) rfl ?_))))))))))))))
    refine G.q (Quiet.load rfl ag_9 (by (repeat' constructor)) (rfl)) rfl ?_
    refine G.q (Quiet.move rfl) rfl ?_
    refine G.q (Quiet.build (us := [(0, _), (1, _), (2, _)]) fl_75 ze_75 rfl rfl (by simp [isCell])) rfl ?_
    refine G.op (OpSpec.buildSlice (vs := [_]) el_30 ze_75 rfl rfl rfl rfl (by first | (simp [Value.cells]; done) | (intro v hv; simp only [List.mem_cons, List.not_mem_nil, or_false] at hv; (repeat (first | (subst hv; rfl) | (rcases hv with hv | hv; (subst hv; rfl)))))) (by decide)) (by (repeat' constructor)) rfl ?nx117
    rintro v L' ⟨bo, rfl, rfl⟩
    refine G.q (Quiet.assign rfl) rfl (G.nil ?_)
    refine G.slMakeN 3 1 (b := bo) (xs := ([(2, (x.path, zx))] : List Ev).flatMap evC) (by (repeat' constructor)) rfl rfl ?_
    refine G.then_n (G.seq (G.seq ?_))
    refine G.trOpen (τ := (kidT (cutT τ x.path) (parentZ x.path) x.num zx)) (by (repeat' constructor)) fun rn rs m s hI => ?_
    refine G.region ?_
    rcases hup : alook m (parentZ x.path) with _ | pu
    ·refine G.q (Quiet.move rfl) rfl (G.q (Quiet.nilp rfl) rfl (G.q (Quiet.fieldAddr rfl fo_110_0) rfl ?_))
     refine G.q (Quiet.load rfl ag_107 (by (repeat' constructor)) (rfl)) rfl ?_
     refine G.q (Quiet.move rfl) rfl ?_
     refine G.q (Quiet.lookupN (m := m) (enc := ndV) (KeyLaw.str Tryz.underlying9) (hup) rfl rfl Tryz.underlying107 ze_102 (by (repeat' constructor)) rfl) rfl ?_
     refine G.q (Quiet.as (v' := .bool false) (by rfl) (Quiet.ptrne rfl rfl Tryz.underlying102)) rfl ?_
     refine G.nil (G.then_n (G.condF rfl (G.skip (G.then_n (G.seq (G.region (G.q (Quiet.move rfl) rfl (G.q (Quiet.assign rfl) rfl (G.nil (G.then_n (G.ret ?_)))))))))))
     have hc : eraseZ τ x zx = ((kidT (cutT τ x.path) (parentZ x.path) x.num zx), [(2, (x.path, zx))]) := by unfold eraseZ; rw [if_pos h16, if_pos hth, if_neg (fun g => hI.none_iff.1 hup (kid_there.2 g))]
     refine G.trFold (τ := (kidT (cutT τ x.path) (parentZ x.path) x.num zx)) hI (by (repeat' constructor)) rfl rfl rfl ?_
     refine G.trCast (τ' := (eraseZ τ x zx).1) (by (repeat' constructor)) (by rw [hc]) ?_
     refine G.slCast (T := 75) (sz := 3) (m' := (eraseZ τ x zx).2.length) (xs' := (eraseZ τ x zx).2.flatMap evC) (by (repeat' constructor)) (by (rw [hc]; try rfl)) (by (rw [hc]; try rfl)) ?_
     exact G.done (l := [.tmp 6]) rfl rfl ⟨_, _, by (rw [hc]; try rfl), rfl⟩ (by (repeat' constructor)) (by (repeat' constructor))
    ·refine G.q (Quiet.move rfl) rfl (G.q (Quiet.nilp rfl) rfl (G.q (Quiet.fieldAddr rfl fo_110_0) rfl ?_))
     refine G.q (Quiet.load rfl ag_107 (by (repeat' constructor)) (rfl)) rfl ?_
     refine G.q (Quiet.move rfl) rfl ?_
     refine G.q (Quiet.lookupY (m := m) (enc := ndV) (KeyLaw.str Tryz.underlying9) (hup) rfl rfl Tryz.underlying107 ze_102 (by (repeat' constructor)) rfl) rfl ?_
     refine G.q (Quiet.as (v' := .bool true) (by rfl) (Quiet.ptrne rfl rfl Tryz.underlying102)) rfl ?_
     refine G.nil (G.then_n (G.condT rfl (G.region (G.q (Quiet.move rfl) rfl (G.q (Quiet.move rfl) rfl (G.q (Quiet.move rfl) rfl ?_))))))
     refine G.q (Quiet.build (us := [(0, _), (1, _), (2, _)]) fl_75 ze_75 rfl rfl (by simp [isCell])) rfl ?_
     refine G.op (OpSpec.buildSlice (vs := [_]) el_30 ze_75 rfl rfl rfl rfl (by first | (simp [Value.cells]; done) | (intro v hv; simp only [List.mem_cons, List.not_mem_nil, or_false] at hv; (repeat (first | (subst hv; rfl) | (rcases hv with hv | hv; (subst hv; rfl)))))) (by decide)) (by (repeat' constructor)) rfl ?nx136
     rintro v L' ⟨b16_4, rfl, rfl⟩
     refine G.op (OpSpec.append1 rfl rfl rfl el_30 ze_75 rfl rfl ?c138 ?c139 (Nat.le_refl _) ?c140 (by decide)) (by (repeat' constructor)) rfl ?nx141
     case c138 => (first | (simp [isCell]; done) | (simp [isCell, setAll, Value.cells]; done))
     case c139 => rfl
     case c140 => omega
     rintro v L' ⟨⟨a16_5, c16_5, rfl⟩, rfl⟩
     refine G.q (Quiet.assign rfl) rfl (G.nil (G.then_n (G.seq (G.region (G.q (Quiet.move rfl) rfl (G.q (Quiet.assign rfl) rfl (G.nil (G.then_n (G.ret ?_)))))))))
     have hc : eraseZ τ x zx = ((kidT (cutT τ x.path) (parentZ x.path) x.num zx), [(2, (x.path, zx)), (4, (parentZ x.path, zx))]) := by unfold eraseZ; rw [if_pos h16, if_pos hth, if_pos (kid_there.1 (hI.some_iff hup))]
     refine G.trFold (τ := (kidT (cutT τ x.path) (parentZ x.path) x.num zx)) hI (by (repeat' constructor)) rfl rfl rfl ?_
     refine G.trCast (τ' := (eraseZ τ x zx).1) (by (repeat' constructor)) (by rw [hc]) ?_
     refine G.slCast (T := 75) (sz := 3) (m' := (eraseZ τ x zx).2.length) (xs' := (eraseZ τ x zx).2.flatMap evC) (by (repeat' constructor)) (by (rw [hc]; try rfl)) (by (rw [hc]; try rfl)) ?_
     exact G.done (l := [.tmp 6]) rfl rfl ⟨_, _, by (rw [hc]; try rfl), rfl⟩ (by (repeat' constructor)) (by (repeat' constructor))

set_option maxRecDepth 100000 in
theorem trpart_spec (t : Nat) (τ : Tr) (x : Pt) (zx : Int) (p : HP) (hx : PtA p x) (N : Nat) (ho : τ.Ok N) (hN : N ≤ 1099511627776) : Fn Tryz.prog 46 #[vptr t, .agg (ptC x).toArray, vint zx] [treeR t τ, p] fun v L => ∃ a c, v = .slice a (partZ τ x zx).2.length c ∧ L = [treeR t (partZ τ x zx).1, p, slR 75 3 v (partZ τ x zx).2.length ((partZ τ x zx).2.flatMap evC)] := by
 refine Fn.intro (vs := [vptr t, .agg (ptC x).toArray, vint zx]) Tryz.func46 rfl rfl ?_
 intro F W
 have hfew := hx.few
 have hpl := hx.plen
 refine G.seq (G.region ?_)
 refine G.op (OpSpec.box rfl) (by (repeat' constructor)) rfl ?nx1
 rintro v L' ⟨bx, rfl, rfl⟩
 refine G.q (Quiet.assign rfl) rfl (G.nil ?_)
 refine G.ptCast (b := bx) (l' := ptC x) (by (repeat' constructor)) rfl ?_
 refine G.then_n (G.seq ?_)
 refine G.trOpen (τ := τ) (by (repeat' constructor)) fun rn rs m s hI => ?_
 refine G.draw [] [[0, 1, 2, 3, 4, 5, 6, 7]] mixed (by kernel_rfl) ?_
 refine Phases.go [] (by (repeat' constructor)) ?_
 rcases hal : alook m x.path with _ | px
 ·refine D.qw [1, 2, 3, 6, 7] rfl (by kernel_rfl) (Quiet.move rfl) ?_
  refine D.qw [2, 3, 6, 7] rfl (by kernel_rfl) (Quiet.nilp rfl) ?_
  refine D.qw [3, 6, 7] rfl (by kernel_rfl) (Quiet.fieldAddr rfl fo_110_0) ?_
  refine D.qw [6, 7] rfl (by kernel_rfl) (Quiet.load rfl ag_107 (by (repeat' constructor)) (rfl)) ?_
  refine D.qw [5, 6, 7] rfl (by kernel_rfl) (Quiet.fieldAddr rfl fo_37_1) ?_
  refine D.qw [6, 7] rfl (by kernel_rfl) (Quiet.load rfl ag_9 (by (repeat' constructor)) (rfl)) ?_
  refine D.qw [7] rfl (by kernel_rfl) (Quiet.lookupN (m := m) (enc := ndV) (KeyLaw.str Tryz.underlying9) (hal) rfl rfl Tryz.underlying107 ze_102 (by (repeat' constructor)) rfl) ?_
  refine D.qw [] rfl (by kernel_rfl) (Quiet.assign rfl) ?_
  refine D.ph (Phases.fin (G.then_n (G.seq (G.block (G.seq (G.region (G.q (Quiet.fieldAddr rfl fo_37_0) rfl ?_)))))))
  refine G.q (Quiet.load rfl ag_3 (by (repeat' constructor)) (rfl)) rfl ?_
  refine G.q (Quiet.int rfl rfl rfl) rfl (G.q (Quiet.assign rfl) rfl (G.nil (G.then_n ?_)))
  refine G.condD rfl (fun h15 => ?_) (fun h15 => ?_)
  ·refine G.trFold (τ := τ) hI (by (repeat' constructor)) rfl rfl rfl ?_
   refine G.seq (G.region (G.q (Quiet.move rfl) rfl ?_))
   refine G.q (Quiet.loadAs (vs := ptC x) rfl ag_37 (by (repeat' constructor)) (by simp [ptC]) rfl) rfl ?_
   refine G.q (Quiet.move rfl) rfl ?_
   refine G.op (OpSpec.call Tryz.func94 rfl rfl (vs := [_, _, _]) rfl (trcreate_spec t τ x zx p hx)) (by (repeat' constructor)) rfl ?nx17
   rintro v L' ⟨a3, c3, rfl, rfl⟩
   refine G.q (Quiet.assign rfl) rfl (G.nil (G.then_n (G.ret (G.blk_r (G.then_r ?_)))))
   have hc : partZ τ x zx = createZ τ x zx := by unfold partZ; rw [if_pos h15]
   refine G.trCast (τ' := (partZ τ x zx).1) (by (repeat' constructor)) (by rw [hc]) ?_
   refine G.slCast (T := 75) (sz := 3) (m' := (partZ τ x zx).2.length) (xs' := (partZ τ x zx).2.flatMap evC) (by (repeat' constructor)) (by (rw [hc]; try rfl)) (by (rw [hc]; try rfl)) ?_
   exact G.done (l := [.tmp 6]) rfl rfl ⟨_, _, by (rw [hc]; try rfl), rfl⟩ (by (repeat' constructor)) (by (repeat' constructor))
  ·refine G.seq (G.region (G.q (Quiet.fieldAddr rfl fo_37_0) rfl ?_))
   refine G.q (Quiet.load rfl ag_3 (by (repeat' constructor)) (rfl)) rfl ?_
   refine G.q (Quiet.int rfl rfl rfl) rfl (G.q (Quiet.assign rfl) rfl (G.nil (G.then_n ?_)))
   refine G.condD rfl (fun h23 => ?_) (fun h23 => ?_)
   ·refine G.trFold (τ := τ) hI (by (repeat' constructor)) rfl rfl rfl ?_
    refine G.seq (G.region (G.q (Quiet.move rfl) rfl ?_))
    refine G.q (Quiet.loadAs (vs := ptC x) rfl ag_37 (by (repeat' constructor)) (by simp [ptC]) rfl) rfl ?_
    refine G.q (Quiet.move rfl) rfl ?_
    refine G.op (OpSpec.call Tryz.func95 rfl rfl (vs := [_, _, _]) rfl (trerase_spec t τ x zx p hx N ho hN)) (by (repeat' constructor)) rfl ?nx25
    rintro v L' ⟨a5, c5, rfl, rfl⟩
    refine G.q (Quiet.assign rfl) rfl (G.nil (G.then_n (G.ret (G.blk_r (G.then_r ?_)))))
    have hc : partZ τ x zx = eraseZ τ x zx := by unfold partZ; rw [if_neg h15, if_pos h23]
    refine G.trCast (τ' := (partZ τ x zx).1) (by (repeat' constructor)) (by rw [hc]) ?_
    refine G.slCast (T := 75) (sz := 3) (m' := (partZ τ x zx).2.length) (xs' := (partZ τ x zx).2.flatMap evC) (by (repeat' constructor)) (by (rw [hc]; try rfl)) (by (rw [hc]; try rfl)) ?_
    exact G.done (l := [.tmp 6]) rfl rfl ⟨_, _, by (rw [hc]; try rfl), rfl⟩ (by (repeat' constructor)) (by (repeat' constructor))
   ·refine G.seq (G.region (G.q (Quiet.fieldAddr rfl fo_37_0) rfl ?_))
    refine G.q (Quiet.load rfl ag_3 (by (repeat' constructor)) (rfl)) rfl ?_
    refine G.q (Quiet.int rfl rfl rfl) rfl (G.q (Quiet.move rfl) rfl ?_)
    refine G.dec (t := 35) rfl (fun h6_35 => ?_) (fun h6_35 => ?_)
    ·refine G.kDT (t := 34) rfl h6_35 (G.grun (t := 35) rfl rfl rfl (G.q (Quiet.move rfl) rfl (G.grun (t := 35) rfl rfl rfl ?_)))
     refine G.q (Quiet.as (v' := .bool false) (by rfl) (Quiet.ptrne rfl rfl Tryz.underlying102)) rfl ?_
     refine G.q (Quiet.pickT rfl rfl) rfl (G.q (Quiet.assign rfl) rfl (G.nil (G.then_n (G.condF rfl (G.seq (G.region (G.q (Quiet.fieldAddr rfl fo_37_0) rfl ?_)))))))
     refine G.q (Quiet.load rfl ag_3 (by (repeat' constructor)) (rfl)) rfl ?_
     refine G.q (Quiet.int rfl rfl rfl) rfl (G.q (Quiet.move rfl) rfl ?_)
     refine G.dec (t := 64) rfl (fun h9_64 => ?_) (fun h9_64 => ?_)
     ·refine G.kDT (t := 63) rfl h9_64 (G.grun (t := 64) rfl rfl rfl (G.q (Quiet.move rfl) rfl (G.grun (t := 64) rfl rfl rfl ?_)))
      refine G.q (Quiet.as (v' := .bool false) (by rfl) (Quiet.ptrne rfl rfl Tryz.underlying102)) rfl ?_
      refine G.q (Quiet.pickT rfl rfl) rfl (G.q (Quiet.assign rfl) rfl (G.nil (G.then_n (G.condF rfl (G.skip (G.blk_n (G.then_n (G.seq (G.region (G.q (Quiet.assign rfl) rfl (G.nil (G.then_n (G.ret ?_)))))))))))))
      refine G.trFold (τ := τ) hI (by (repeat' constructor)) rfl rfl rfl ?_
      refine G.add (slR_nil 75 3) ?_
      have hc : partZ τ x zx = (τ, []) := by unfold partZ; rw [if_neg h15, if_neg h23, if_neg (fun g => hI.none_iff.1 hal g.2), if_neg (fun g => hI.none_iff.1 hal g.2)]
      refine G.trCast (τ' := (partZ τ x zx).1) (by (repeat' constructor)) (by rw [hc]) ?_
      refine G.slCast (T := 75) (sz := 3) (m' := (partZ τ x zx).2.length) (xs' := (partZ τ x zx).2.flatMap evC) (by (repeat' constructor)) (by (rw [hc]; try rfl)) (by (rw [hc]; try rfl)) ?_
      exact G.done (l := [.tmp 6]) rfl rfl ⟨_, _, by (rw [hc]; try rfl), rfl⟩ (by (repeat' constructor)) (by (repeat' constructor))
     ·refine G.kDF (t := 63) rfl h9_64 (G.gskip (t := 64) rfl rfl rfl rfl (G.gskip (t := 64) rfl rfl rfl rfl (G.q (Quiet.pickF rfl rfl) rfl (G.q (Quiet.assign rfl) rfl (G.nil (G.then_n (G.condF rfl (G.skip (G.blk_n (G.then_n (G.seq (G.region (G.q (Quiet.assign rfl) rfl (G.nil (G.then_n (G.ret ?_))))))))))))))))
      refine G.trFold (τ := τ) hI (by (repeat' constructor)) rfl rfl rfl ?_
      refine G.add (slR_nil 75 3) ?_
      have hc : partZ τ x zx = (τ, []) := by unfold partZ; rw [if_neg h15, if_neg h23, if_neg (fun g => hI.none_iff.1 hal g.2), if_neg (fun g => h9_64 g.1)]
      refine G.trCast (τ' := (partZ τ x zx).1) (by (repeat' constructor)) (by rw [hc]) ?_
      refine G.slCast (T := 75) (sz := 3) (m' := (partZ τ x zx).2.length) (xs' := (partZ τ x zx).2.flatMap evC) (by (repeat' constructor)) (by (rw [hc]; try rfl)) (by (rw [hc]; try rfl)) ?_
      exact G.done (l := [.tmp 6]) rfl rfl ⟨_, _, by (rw [hc]; try rfl), rfl⟩ (by (repeat' constructor)) (by (repeat' constructor))
    ·refine G.kDF (t := 34) rfl h6_35 (G.gskip (t := 35) rfl rfl rfl rfl (G.gskip (t := 35) rfl rfl rfl rfl (G.q (Quiet.pickF rfl rfl) rfl (G.q (Quiet.assign rfl) rfl (G.nil (G.then_n (G.condF rfl (G.seq (G.region (G.q (Quiet.fieldAddr rfl fo_37_0) rfl ?_))))))))))
     refine G.q (Quiet.load rfl ag_3 (by (repeat' constructor)) (rfl)) rfl ?_
     refine G.q (Quiet.int rfl rfl rfl) rfl (G.q (Quiet.move rfl) rfl ?_)
     refine G.dec (t := 64) rfl (fun h9_64 => ?_) (fun h9_64 => ?_)
     ·refine G.kDT (t := 63) rfl h9_64 (G.grun (t := 64) rfl rfl rfl (G.q (Quiet.move rfl) rfl (G.grun (t := 64) rfl rfl rfl ?_)))
      refine G.q (Quiet.as (v' := .bool false) (by rfl) (Quiet.ptrne rfl rfl Tryz.underlying102)) rfl ?_
      refine G.q (Quiet.pickT rfl rfl) rfl (G.q (Quiet.assign rfl) rfl (G.nil (G.then_n (G.condF rfl (G.skip (G.blk_n (G.then_n (G.seq (G.region (G.q (Quiet.assign rfl) rfl (G.nil (G.then_n (G.ret ?_)))))))))))))
      refine G.trFold (τ := τ) hI (by (repeat' constructor)) rfl rfl rfl ?_
      refine G.add (slR_nil 75 3) ?_
      have hc : partZ τ x zx = (τ, []) := by unfold partZ; rw [if_neg h15, if_neg h23, if_neg (fun g => h6_35 g.1), if_neg (fun g => hI.none_iff.1 hal g.2)]
      refine G.trCast (τ' := (partZ τ x zx).1) (by (repeat' constructor)) (by rw [hc]) ?_
      refine G.slCast (T := 75) (sz := 3) (m' := (partZ τ x zx).2.length) (xs' := (partZ τ x zx).2.flatMap evC) (by (repeat' constructor)) (by (rw [hc]; try rfl)) (by (rw [hc]; try rfl)) ?_
      exact G.done (l := [.tmp 6]) rfl rfl ⟨_, _, by (rw [hc]; try rfl), rfl⟩ (by (repeat' constructor)) (by (repeat' constructor))
     ·refine G.kDF (t := 63) rfl h9_64 (G.gskip (t := 64) rfl rfl rfl rfl (G.gskip (t := 64) rfl rfl rfl rfl (G.q (Quiet.pickF rfl rfl) rfl (G.q (Quiet.assign rfl) rfl (G.nil (G.then_n (G.condF rfl (G.skip (G.blk_n (G.then_n (G.seq (G.region (G.q (Quiet.assign rfl) rfl (G.nil (G.then_n (G.ret ?_))))))))))))))))
      refine G.trFold (τ := τ) hI (by (repeat' constructor)) rfl rfl rfl ?_
      refine G.add (slR_nil 75 3) ?_
      have hc : partZ τ x zx = (τ, []) := by unfold partZ; rw [if_neg h15, if_neg h23, if_neg (fun g => h6_35 g.1), if_neg (fun g => h9_64 g.1)]
      refine G.trCast (τ' := (partZ τ x zx).1) (by (repeat' constructor)) (by rw [hc]) ?_
      refine G.slCast (T := 75) (sz := 3) (m' := (partZ τ x zx).2.length) (xs' := (partZ τ x zx).2.flatMap evC) (by (repeat' constructor)) (by (rw [hc]; try rfl)) (by (rw [hc]; try rfl)) ?_
      exact G.done (l := [.tmp 6]) rfl rfl ⟨_, _, by (rw [hc]; try rfl), rfl⟩ (by (repeat' constructor)) (by (repeat' constructor))
 ·refine D.qw [1, 2, 3, 6, 7] rfl (by kernel_rfl) (Quiet.move rfl) ?_
  refine D.qw [2, 3, 6, 7] rfl (by kernel_rfl) (Quiet.nilp rfl) ?_
  refine D.qw [3, 6, 7] rfl (by kernel_rfl) (Quiet.fieldAddr rfl fo_110_0) ?_
  refine D.qw [6, 7] rfl (by kernel_rfl) (Quiet.load rfl ag_107 (by (repeat' constructor)) (rfl)) ?_
  refine D.qw [5, 6, 7] rfl (by kernel_rfl) (Quiet.fieldAddr rfl fo_37_1) ?_
  refine D.qw [6, 7] rfl (by kernel_rfl) (Quiet.load rfl ag_9 (by (repeat' constructor)) (rfl)) ?_
  refine D.qw [7] rfl (by kernel_rfl) (Quiet.lookupY (m := m) (enc := ndV) (KeyLaw.str Tryz.underlying9) (hal) rfl rfl Tryz.underlying107 ze_102 (by (repeat' constructor)) rfl) ?_
  refine D.qw [] rfl (by kernel_rfl) (Quiet.assign rfl) ?_
  refine D.ph (Phases.fin (G.then_n (G.seq (G.block (G.seq (G.region (G.q (Quiet.fieldAddr rfl fo_37_0) rfl ?_)))))))
  refine G.q (Quiet.load rfl ag_3 (by (repeat' constructor)) (rfl)) rfl ?_
  refine G.q (Quiet.int rfl rfl rfl) rfl (G.q (Quiet.assign rfl) rfl (G.nil (G.then_n ?_)))
  refine G.condD rfl (fun h15 => ?_) (fun h15 => ?_)
  ·refine G.trFold (τ := τ) hI (by (repeat' constructor)) rfl rfl rfl ?_
   refine G.seq (G.region (G.q (Quiet.move rfl) rfl ?_))
   refine G.q (Quiet.loadAs (vs := ptC x) rfl ag_37 (by (repeat' constructor)) (by simp [ptC]) rfl) rfl ?_
   refine G.q (Quiet.move rfl) rfl ?_
   refine G.op (OpSpec.call Tryz.func94 rfl rfl (vs := [_, _, _]) rfl (trcreate_spec t τ x zx p hx)) (by (repeat' constructor)) rfl ?nx59
   rintro v L' ⟨a3, c3, rfl, rfl⟩
   refine G.q (Quiet.assign rfl) rfl (G.nil (G.then_n (G.ret (G.blk_r (G.then_r ?_)))))
   have hc : partZ τ x zx = createZ τ x zx := by unfold partZ; rw [if_pos h15]
   refine G.trCast (τ' := (partZ τ x zx).1) (by (repeat' constructor)) (by rw [hc]) ?_
   refine G.slCast (T := 75) (sz := 3) (m' := (partZ τ x zx).2.length) (xs' := (partZ τ x zx).2.flatMap evC) (by (repeat' constructor)) (by (rw [hc]; try rfl)) (by (rw [hc]; try rfl)) ?_
   exact G.done (l := [.tmp 6]) rfl rfl ⟨_, _, by (rw [hc]; try rfl), rfl⟩ (by (repeat' constructor)) (by (repeat' constructor))
  ·refine G.seq (G.region (G.q (Quiet.fieldAddr rfl fo_37_0) rfl ?_))
   refine G.q (Quiet.load rfl ag_3 (by (repeat' constructor)) (rfl)) rfl ?_
   refine G.q (Quiet.int rfl rfl rfl) rfl (G.q (Quiet.assign rfl) rfl (G.nil (G.then_n ?_)))
   refine G.condD rfl (fun h23 => ?_) (fun h23 => ?_)
   ·refine G.trFold (τ := τ) hI (by (repeat' constructor)) rfl rfl rfl ?_
    refine G.seq (G.region (G.q (Quiet.move rfl) rfl ?_))
    refine G.q (Quiet.loadAs (vs := ptC x) rfl ag_37 (by (repeat' constructor)) (by simp [ptC]) rfl) rfl ?_
    refine G.q (Quiet.move rfl) rfl ?_
    refine G.op (OpSpec.call Tryz.func95 rfl rfl (vs := [_, _, _]) rfl (trerase_spec t τ x zx p hx N ho hN)) (by (repeat' constructor)) rfl ?nx67
    rintro v L' ⟨a5, c5, rfl, rfl⟩
    refine G.q (Quiet.assign rfl) rfl (G.nil (G.then_n (G.ret (G.blk_r (G.then_r ?_)))))
    have hc : partZ τ x zx = eraseZ τ x zx := by unfold partZ; rw [if_neg h15, if_pos h23]
    refine G.trCast (τ' := (partZ τ x zx).1) (by (repeat' constructor)) (by rw [hc]) ?_
    refine G.slCast (T := 75) (sz := 3) (m' := (partZ τ x zx).2.length) (xs' := (partZ τ x zx).2.flatMap evC) (by (repeat' constructor)) (by (rw [hc]; try rfl)) (by (rw [hc]; try rfl)) ?_
    exact G.done (l := [.tmp 6]) rfl rfl ⟨_, _, by (rw [hc]; try rfl), rfl⟩ (by (repeat' constructor)) (by (repeat' constructor))
   ·refine G.seq (G.region (G.q (Quiet.fieldAddr rfl fo_37_0) rfl ?_))
    refine G.q (Quiet.load rfl ag_3 (by (repeat' constructor)) (rfl)) rfl ?_
    refine G.q (Quiet.int rfl rfl rfl) rfl (G.q (Quiet.move rfl) rfl ?_)
    refine G.dec (t := 35) rfl (fun h6_35 => ?_) (fun h6_35 => ?_)
    ·refine G.kDT (t := 34) rfl h6_35 (G.grun (t := 35) rfl rfl rfl (G.q (Quiet.move rfl) rfl (G.grun (t := 35) rfl rfl rfl ?_)))
     refine G.q (Quiet.as (v' := .bool true) (by rfl) (Quiet.ptrne rfl rfl Tryz.underlying102)) rfl ?_
     refine G.q (Quiet.pickT rfl rfl) rfl (G.q (Quiet.assign rfl) rfl (G.nil (G.then_n (G.condT rfl (G.seq ?_)))))
     refine G.bigTake hal (by (repeat' constructor)) ?_
     refine G.ndOpen (x := (x.path, px)) (by (repeat' constructor)) ?_
     refine G.draw [10, 14, 18] [[0, 1, 2, 3, 4, 5, 6, 7, 8, 9, 10, 11, 12, 13, 14], [15, 16, 17, 18]] mixed (by kernel_rfl) ?_
     refine Phases.go [ptc bx _ _] (by (repeat' constructor)) ?_
     refine D.qw [8, 9, 10, 11, 12, 13, 14] rfl (by kernel_rfl) (Quiet.move rfl) ?_
     refine D.q rfl (by kernel_rfl) (Quiet.move rfl) ?_
     refine D.q rfl (by kernel_rfl) (Quiet.move rfl) ?_
     refine D.qw [4, 8, 9, 10, 11, 12, 13, 14] rfl (by kernel_rfl) (Quiet.fieldAddr rfl fo_37_2) ?_
     refine D.qw [8, 9, 10, 11, 12, 13, 14] rfl (by kernel_rfl) (Quiet.load rfl ag_9 (by (repeat' constructor)) (rfl)) ?_
     refine D.q rfl (by kernel_rfl) (Quiet.fieldAddr rfl fo_37_5) ?_
     refine D.q rfl (by kernel_rfl) (Quiet.load rfl ag_3 (by (repeat' constructor)) (rfl)) ?_
     refine D.q rfl (by kernel_rfl) (Quiet.move rfl) ?_
     refine D.qw [9, 10, 11, 12, 13, 14] rfl (by kernel_rfl) (Quiet.nilp rfl) ?_
     refine D.qw [10, 11, 12, 13, 14] rfl (by kernel_rfl) (Quiet.fieldAddr rfl fo_106_0) ?_
     refine D.h rfl (by kernel_rfl) (OpSpec.store rfl rfl rfl sz_9 ?c80 ?c81) (by (repeat' constructor)) ?nx82
     case c80 => simp [ndC]
     case c81 => exact nfz0 _ _
     rintro v L' rfl
     refine D.qw [12, 13, 14] rfl (by kernel_rfl) (Quiet.nilp rfl) ?_
     refine D.qw [13, 14] rfl (by kernel_rfl) (Quiet.fieldAddr rfl fo_106_2) ?_
     refine D.qw [14] rfl (by kernel_rfl) (Quiet.fieldAddr rfl fo_43_3) ?_
     refine D.h rfl (by kernel_rfl) (OpSpec.store rfl rfl rfl sz_3 ?c86 ?c87) (by (repeat' constructor)) ?nx88
     case c86 => simp [ndC]
     case c87 => exact nfz0 _ _
     rintro v L' rfl
     refine D.ph ?_
     refine Phases.go [] (by (repeat' constructor)) ?_
     refine D.qw [16, 17, 18] rfl (by kernel_rfl) (Quiet.nilp rfl) ?_
     refine D.qw [17, 18] rfl (by kernel_rfl) (Quiet.fieldAddr rfl fo_106_2) ?_
     refine D.qw [18] rfl (by kernel_rfl) (Quiet.fieldAddr rfl fo_43_1) ?_
     refine D.h rfl (by kernel_rfl) (OpSpec.store rfl rfl rfl sz_3 ?c92 ?c93) (by (repeat' constructor)) ?nx94
     case c92 => simp [ndC]
     case c93 => exact nfz0 _ _
     rintro v L' rfl
     refine D.ph (Phases.fin ?_)
     refine G.ndFold (x := (x.path, (px.1, (px.2.1, setN x.data x.num zx px.2.2)))) (by (repeat' constructor)) rfl rfl rfl rfl ?_
     refine G.bigPut (f := inN) (m := m) x.path ((x.path, (px.1, (px.2.1, setN x.data x.num zx px.2.2)))).2 rfl (by (repeat' constructor)) ?_
     refine G.trFold (τ := ({ τ with nodes := amod τ.nodes x.path (setN x.data x.num zx) } : Tr)) (hI.mod hal (setN x.data x.num zx) (y := ((x.path, (px.1, (px.2.1, setN x.data x.num zx px.2.2)))).2) rfl) (by (repeat' constructor)) rfl (ndE_set (y := ((x.path, (px.1, (px.2.1, setN x.data x.num zx px.2.2)))).2) hal rfl).symm rfl ?_
     refine G.then_n (G.seq (G.region (G.q (Quiet.fieldAddr rfl fo_37_1) rfl ?_)))
     refine G.q (Quiet.load rfl ag_9 (by (repeat' constructor)) (rfl)) rfl ?_
     refine G.q (Quiet.move rfl) rfl ?_
     refine G.q (Quiet.build (us := [(0, _), (1, _), (2, _)]) fl_75 ze_75 rfl rfl (by simp [isCell])) rfl ?_
     refine G.op (OpSpec.buildSlice (vs := [_]) el_30 ze_75 rfl rfl rfl rfl (by first | (simp [Value.cells]; done) | (intro v hv; simp only [List.mem_cons, List.not_mem_nil, or_false] at hv; (repeat (first | (subst hv; rfl) | (rcases hv with hv | hv; (subst hv; rfl)))))) (by decide)) (by (repeat' constructor)) rfl ?nx99
     rintro v L' ⟨bo, rfl, rfl⟩
     refine G.q (Quiet.assign rfl) rfl (G.nil ?_)
     refine G.slMakeN 3 1 (b := bo) (xs := ([(3, (x.path, zx))] : List Ev).flatMap evC) (by (repeat' constructor)) rfl rfl ?_
     refine G.then_n (G.ret (G.blk_r (G.then_r ?_)))
     have hc : partZ τ x zx = (({ τ with nodes := amod τ.nodes x.path (setN x.data x.num zx) } : Tr), [(3, (x.path, zx))]) := by unfold partZ; rw [if_neg h15, if_neg h23, if_pos ⟨h6_35, hI.some_iff hal⟩]
     refine G.trCast (τ' := (partZ τ x zx).1) (by (repeat' constructor)) (by rw [hc]) ?_
     refine G.slCast (T := 75) (sz := 3) (m' := (partZ τ x zx).2.length) (xs' := (partZ τ x zx).2.flatMap evC) (by (repeat' constructor)) (by (rw [hc]; try rfl)) (by (rw [hc]; try rfl)) ?_
     exact G.done (l := [.tmp 6]) rfl rfl ⟨_, _, by (rw [hc]; try rfl), rfl⟩ (by (repeat' constructor)) (by (repeat' constructor))
    ·refine G.kDF (t := 34) rfl h6_35 (G.gskip (t := 35) rfl rfl rfl rfl (G.gskip (t := 35) rfl rfl rfl rfl (G.q (Quiet.pickF rfl rfl) rfl (G.q (Quiet.assign rfl) rfl (G.nil (G.then_n (G.condF rfl (G.seq (G.region (G.q (Quiet.fieldAddr rfl fo_37_0) rfl ?_))))))))))
     refine G.q (Quiet.load rfl ag_3 (by (repeat' constructor)) (rfl)) rfl ?_
     refine G.q (Quiet.int rfl rfl rfl) rfl (G.q (Quiet.move rfl) rfl ?_)
     refine G.dec (t := 64) rfl (fun h9_64 => ?_) (fun h9_64 => ?_)
     ·refine G.kDT (t := 63) rfl h9_64 (G.grun (t := 64) rfl rfl rfl (G.q (Quiet.move rfl) rfl (G.grun (t := 64) rfl rfl rfl ?_)))
      refine G.q (Quiet.as (v' := .bool true) (by rfl) (Quiet.ptrne rfl rfl Tryz.underlying102)) rfl ?_
      refine G.q (Quiet.pickT rfl rfl) rfl (G.q (Quiet.assign rfl) rfl (G.nil (G.then_n (G.condT rfl ?_))))
      refine G.bigTake hal (by (repeat' constructor)) ?_
      refine G.ndOpen (x := (x.path, px)) (by (repeat' constructor)) ?_
      refine G.draw [4, 9, 13] [[0, 1, 2, 3, 5, 6, 4, 7, 8, 9], [10, 11, 12, 13]] mixed (by kernel_rfl) ?_
      refine Phases.go [ptc bx _ _] (by (repeat' constructor)) ?_
      refine D.q rfl (by kernel_rfl) (Quiet.move rfl) ?_
      refine D.q rfl (by kernel_rfl) (Quiet.move rfl) ?_
      refine D.qw [3, 4, 7, 8, 9] rfl (by kernel_rfl) (Quiet.fieldAddr rfl fo_37_3) ?_
      refine D.qw [4, 7, 8, 9] rfl (by kernel_rfl) (Quiet.load rfl ag_34 (by (repeat' constructor)) (rfl)) ?_
      refine D.q rfl (by kernel_rfl) (Quiet.fieldAddr rfl fo_37_5) ?_
      refine D.q rfl (by kernel_rfl) (Quiet.load rfl ag_3 (by (repeat' constructor)) (rfl)) ?_
      refine D.h rfl (by kernel_rfl) (OpSpec.call Tryz.func58 rfl rfl (vs := [_]) rfl (aclone_spec x.aclV x.acl p hx.acl hfew)) (by (repeat' constructor)) ?nx110
      rintro v L' ⟨⟨a10, c10, rfl⟩, rfl⟩
      refine D.qw [8, 9] rfl (by kernel_rfl) (Quiet.nilp rfl) ?_
      refine D.qw [9] rfl (by kernel_rfl) (Quiet.fieldAddr rfl fo_106_1) ?_
      refine D.h rfl (by kernel_rfl) (OpSpec.store rfl rfl rfl sz_34 ?c114 ?c115) (by (repeat' constructor)) ?nx116
      case c114 => simp [ndC]
      case c115 => exact nfz0 _ _
      rintro v L' rfl
      refine D.ph ?_
      refine Phases.go [] (by (repeat' constructor)) ?_
      refine D.qw [11, 12, 13] rfl (by kernel_rfl) (Quiet.nilp rfl) ?_
      refine D.qw [12, 13] rfl (by kernel_rfl) (Quiet.fieldAddr rfl fo_106_2) ?_
      refine D.qw [13] rfl (by kernel_rfl) (Quiet.fieldAddr rfl fo_43_5) ?_
      refine D.h rfl (by kernel_rfl) (OpSpec.store rfl rfl rfl sz_3 ?c120 ?c121) (by (repeat' constructor)) ?nx122
      case c120 => simp [ndC]
      case c121 => exact nfz0 _ _
      rintro v L' rfl
      refine D.ph (Phases.fin ?_)
      refine G.toRd (v := .slice a10 x.acl.length c10) (by (repeat' constructor)) ?_
      refine G.ndFold (x := (x.path, (px.1, (.slice a10 x.acl.length c10, aclN x.acl x.num px.2.2)))) (v := .slice a10 x.acl.length c10) (by (repeat' constructor)) rfl rfl rfl rfl ?_
      refine G.bigPut (f := inN) (m := m) x.path ((x.path, (px.1, (.slice a10 x.acl.length c10, aclN x.acl x.num px.2.2)))).2 rfl (by (repeat' constructor)) ?_
      refine G.trFold (τ := ({ τ with nodes := amod τ.nodes x.path (aclN x.acl x.num) } : Tr)) (hI.mod hal (aclN x.acl x.num) (y := ((x.path, (px.1, (.slice a10 x.acl.length c10, aclN x.acl x.num px.2.2)))).2) rfl) (by (repeat' constructor)) rfl (ndE_set (y := ((x.path, (px.1, (.slice a10 x.acl.length c10, aclN x.acl x.num px.2.2)))).2) hal rfl).symm rfl ?_
      refine G.blk_n (G.then_n (G.seq (G.region (G.q (Quiet.assign rfl) rfl (G.nil (G.then_n (G.ret (G.add (slR_nil 75 3) ?_))))))))
      have hc : partZ τ x zx = (({ τ with nodes := amod τ.nodes x.path (aclN x.acl x.num) } : Tr), []) := by unfold partZ; rw [if_neg h15, if_neg h23, if_neg (fun g => h6_35 g.1), if_pos ⟨h9_64, hI.some_iff hal⟩]
      refine G.trCast (τ' := (partZ τ x zx).1) (by (repeat' constructor)) (by rw [hc]) ?_
      refine G.slCast (T := 75) (sz := 3) (m' := (partZ τ x zx).2.length) (xs' := (partZ τ x zx).2.flatMap evC) (by (repeat' constructor)) (by (rw [hc]; try rfl)) (by (rw [hc]; try rfl)) ?_
      exact G.done (l := [.tmp 6]) rfl rfl ⟨_, _, by (rw [hc]; try rfl), rfl⟩ (by (repeat' constructor)) (by (repeat' constructor))
     ·refine G.kDF (t := 63) rfl h9_64 (G.gskip (t := 64) rfl rfl rfl rfl (G.gskip (t := 64) rfl rfl rfl rfl (G.q (Quiet.pickF rfl rfl) rfl (G.q (Quiet.assign rfl) rfl (G.nil (G.then_n (G.condF rfl (G.skip (G.blk_n (G.then_n (G.seq (G.region (G.q (Quiet.assign rfl) rfl (G.nil (G.then_n (G.ret ?_))))))))))))))))
      refine G.trFold (τ := τ) hI (by (repeat' constructor)) rfl rfl rfl ?_
      refine G.add (slR_nil 75 3) ?_
      have hc : partZ τ x zx = (τ, []) := by unfold partZ; rw [if_neg h15, if_neg h23, if_neg (fun g => h6_35 g.1), if_neg (fun g => h9_64 g.1)]
      refine G.trCast (τ' := (partZ τ x zx).1) (by (repeat' constructor)) (by rw [hc]) ?_
      refine G.slCast (T := 75) (sz := 3) (m' := (partZ τ x zx).2.length) (xs' := (partZ τ x zx).2.flatMap evC) (by (repeat' constructor)) (by (rw [hc]; try rfl)) (by (rw [hc]; try rfl)) ?_
      exact G.done (l := [.tmp 6]) rfl rfl ⟨_, _, by (rw [hc]; try rfl), rfl⟩ (by (repeat' constructor)) (by (repeat' constructor))

end Go.Proofs.YtnnbelmpbmfdnaaGreatDoor

/- Own work, by program: package tree: Stat, Get, Same: walked. -/

namespace Go.Proofs.YtnnbelmpbmfdnaaGreatDoor
open Go
set_option maxRecDepth 100000 in
theorem trstat_spec (t : Nat) (τ : Tr) (p : Bs) (N : Nat) (ho : τ.Ok N) (hN : N ≤ 1099511627776) : Fn Tryz.prog 16 #[vptr t, vstr p] [treeR t τ] fun v L => v = .tuple #[.agg (stC (statD τ p)).toArray, .bool (decide (thereT τ p))] ∧ L = [treeR t τ] := by
 refine Fn.intro (vs := [vptr t, vstr p]) Tryz.func16 rfl rfl ?_
 intro F W
 refine G.trOpen (τ := τ) (by (repeat' constructor)) fun rn rs m s hI => ?_
 have hlen := hI.len ho
 have hfew := ho.few
 refine G.seq (G.region ?_)
 refine G.op (OpSpec.allocA ze_43) (by (repeat' constructor)) rfl ?nx1
 rintro v L' ⟨b4, rfl, rfl⟩
 refine G.q (Quiet.assign rfl) rfl (G.nil (G.then_n (G.seq (G.region ?_))))
 rcases hal : alook m p with _ | px
 ·refine G.q (Quiet.move rfl) rfl (G.q (Quiet.nilp rfl) rfl (G.q (Quiet.fieldAddr rfl fo_110_0) rfl ?_))
  refine G.q (Quiet.load rfl ag_107 (by (repeat' constructor)) (rfl)) rfl ?_
  refine G.q (Quiet.move rfl) rfl ?_
  refine G.q (Quiet.lookupN (m := m) (enc := ndV) (KeyLaw.str Tryz.underlying9) (hal) rfl rfl Tryz.underlying107 ze_102 (by (repeat' constructor)) rfl) rfl ?_
  refine G.q (Quiet.assign rfl) rfl (G.nil (G.then_n (G.seq (G.seq (G.region (G.q (Quiet.move rfl) rfl ?_))))))
  refine G.q (Quiet.as (v' := .bool true) (by rfl) (Quiet.ptreq rfl rfl Tryz.underlying102)) rfl ?_
  refine G.nil (G.then_n (G.condT rfl (G.seq (G.region ?_))))
  refine G.q (Quiet.build (us := []) fl_43 ze_43 rfl rfl (by simp [isCell])) rfl ?_
  refine G.op (OpSpec.storeA rfl rfl ?c12 sz_43 ?c15 ?c13 ?c14) (by (repeat' constructor)) rfl ?nx16
  case c12 => (first | (simp [isCell]; done) | (simp [isCell, setAll, Value.cells]; done))
  case c15 => (first | (simp; done) | (simp [setAll, spl, Value.cells]; done))
  case c13 => (first | (simp; done) | (simp [setAll, spl, Value.cells]; done))
  case c14 => exact nfz0 _ _
  rintro v L' rfl
  refine G.q (Quiet.assign rfl) rfl (G.nil (G.then_n (G.ret (G.then_r ?_))))
  refine G.ptCast (b := b4) (l' := stC (statD τ p)) (by (repeat' constructor)) (by rw [hI.stat0 hal]; rfl) ?_
  refine G.trFold (τ := τ) hI (by (repeat' constructor)) rfl rfl rfl ?_
  exact G.done2 rfl (.cellA rfl ag_43 (by (repeat' constructor)) (by simp [stC]) rfl) (.tmp rfl) ⟨by rw [decide_eq_false (hI.none_iff.1 hal)]; rfl, rfl⟩ (by (repeat' constructor)) (by (repeat' constructor))
 ·refine G.q (Quiet.move rfl) rfl (G.q (Quiet.nilp rfl) rfl (G.q (Quiet.fieldAddr rfl fo_110_0) rfl ?_))
  refine G.q (Quiet.load rfl ag_107 (by (repeat' constructor)) (rfl)) rfl ?_
  refine G.q (Quiet.move rfl) rfl ?_
  refine G.q (Quiet.lookupY (m := m) (enc := ndV) (KeyLaw.str Tryz.underlying9) (hal) rfl rfl Tryz.underlying107 ze_102 (by (repeat' constructor)) rfl) rfl ?_
  refine G.q (Quiet.assign rfl) rfl (G.nil (G.then_n (G.seq (G.seq (G.region (G.q (Quiet.move rfl) rfl ?_))))))
  refine G.q (Quiet.as (v' := .bool false) (by rfl) (Quiet.ptreq rfl rfl Tryz.underlying102)) rfl ?_
  refine G.nil (G.then_n (G.condF rfl (G.skip (G.then_n (G.seq ?_)))))
  refine G.bigTake hal (by (repeat' constructor)) ?_
  refine G.ndOpen (x := (p, px)) (by (repeat' constructor)) ?_
  refine G.region (G.q (Quiet.move rfl) rfl (G.q (Quiet.nilp rfl) rfl (G.q (Quiet.fieldAddr rfl fo_106_2) rfl ?_)))
  refine G.q (Quiet.loadAs (vs := stC px.2.2.st) rfl ag_43 (by (repeat' constructor)) (by simp [ndC]) rfl) rfl ?_
  refine G.op (OpSpec.allocA ze_43) (by (repeat' constructor)) rfl ?nx28
  rintro v L' ⟨b7, rfl, rfl⟩
  refine G.op (OpSpec.storeA rfl rfl ?c30 sz_43 ?c33 ?c31 ?c32) (by (repeat' constructor)) rfl ?nx34
  case c30 => intro v hv; simp only [stC, List.mem_cons, List.not_mem_nil, or_false] at hv; rcases hv with rfl | rfl | rfl | rfl | rfl | rfl | rfl | rfl | rfl <;> rfl
  case c33 => rfl
  case c31 => simp [stC]
  case c32 => exact nfz0 _ _
  rintro v L' rfl
  refine G.nil ?_
  refine G.ptCast (b := b7) (l' := stC px.2.2.st) (by (repeat' constructor)) rfl ?_
  refine G.then_n (G.seq ?_)
  refine G.draw [7, 10, 12] [[0, 1, 2, 3, 4, 5, 6, 9, 7, 8, 10], [11, 12]] mixed (by kernel_rfl) ?_
  refine Phases.go [ptc px.1 _ _] (by (repeat' constructor)) ?_
  refine D.q rfl (by kernel_rfl) (Quiet.move rfl) ?_
  refine D.q rfl (by kernel_rfl) (Quiet.nilp rfl) ?_
  refine D.q rfl (by kernel_rfl) (Quiet.fieldAddr rfl fo_106_0) ?_
  refine D.q rfl (by kernel_rfl) (Quiet.load rfl ag_9 (by (repeat' constructor)) (rfl)) ?_
  refine D.q rfl (by kernel_rfl) (Quiet.strlen rfl Tryz.underlying9 rfl) ?_
  refine D.qw [7, 8, 10] rfl (by kernel_rfl) (Quiet.move rfl) ?_
  refine D.qw [7, 8, 10] rfl (by kernel_rfl) (Quiet.move rfl) ?_
  refine D.q rfl (by kernel_rfl) (Quiet.fieldAddr rfl fo_43_7) ?_
  refine D.h rfl (by kernel_rfl) (OpSpec.call Tryz.func49 rfl rfl (vs := [_, _]) rfl (trkids0_spec t rn (.map (some rs)) (vint τ.zx) m p (hI.plen ho) (by omega))) (by (repeat' constructor)) ?nx42
  rintro v L' ⟨⟨a5, c5, rfl⟩, rfl⟩
  refine D.q rfl (by kernel_rfl) (Quiet.slen rfl Tryz.underlying40 rfl) ?_
  refine D.h rfl (by kernel_rfl) (OpSpec.store rfl rfl rfl sz_3 ?c45 ?c46) (by (repeat' constructor)) ?nx47
  case c45 => simp [stC]
  case c46 => exact nfz0 _ _
  rintro v L' rfl
  refine D.ph ?_
  refine Phases.go [] (by (repeat' constructor)) ?_
  refine D.qw [12] rfl (by kernel_rfl) (Quiet.fieldAddr rfl fo_43_8) ?_
  refine D.h rfl (by kernel_rfl) (OpSpec.store rfl rfl rfl sz_3 ?c49 ?c50) (by (repeat' constructor)) ?nx51
  case c49 => simp [stC]
  case c50 => exact nfz0 _ _
  rintro v L' rfl
  refine D.ph (Phases.fin ?_)
  refine G.ptCast (b := b7) (l' := stC (statD τ p)) (by (repeat' constructor)) (by rw [hI.stat hal, ← hI.kids ho p, sortS_length]; rfl) ?_
  refine G.then_n (G.seq (G.region ?_))
  refine G.q (Quiet.loadAs (vs := stC (statD τ p)) rfl ag_43 (by (repeat' constructor)) (by simp [stC]) rfl) rfl ?_
  refine G.op (OpSpec.storeA rfl rfl ?c53 sz_43 ?c56 ?c54 ?c55) (by (repeat' constructor)) rfl ?nx57
  case c53 => intro v hv; simp only [stC, List.mem_cons, List.not_mem_nil, or_false] at hv; rcases hv with rfl | rfl | rfl | rfl | rfl | rfl | rfl | rfl | rfl <;> rfl
  case c56 => rfl
  case c54 => simp [stC]
  case c55 => exact nfz0 _ _
  rintro v L' rfl
  refine G.q (Quiet.assign rfl) rfl (G.nil (G.then_n (G.ret ?_)))
  refine G.ptCast (b := b4) (l' := stC (statD τ p)) (by (repeat' constructor)) rfl ?_
  refine G.ndFold (x := (p, px)) (by (repeat' constructor)) rfl rfl rfl rfl ?_
  refine G.bigPut (f := inN) (m := m) p px rfl (by (repeat' constructor)) ?_
  rw [aset_self hal]
  refine G.trFold (τ := τ) hI (by (repeat' constructor)) rfl rfl rfl ?_
  exact G.done2 rfl (.cellA rfl ag_43 (by (repeat' constructor)) (by simp [stC]) rfl) (.tmp rfl) ⟨by rw [decide_eq_true (hI.some_iff hal)]; rfl, rfl⟩ (by (repeat' constructor)) (by (repeat' constructor))

end Go.Proofs.YtnnbelmpbmfdnaaGreatDoor

/- Own work, by program: package tree: Apply, Stat, Get: walked. -/

namespace Go.Proofs.YtnnbelmpbmfdnaaGreatDoor
open Go
set_option maxRecDepth 100000 in
theorem trapply_spec (t : Nat) (τ : Tr) (zx ses xid : Int) (x : Pt) (subs : List Pt) (p : HP) (hx : TxA p x subs) (N : Nat) (ho : τ.Ok N) (hN : N + subs.length ≤ 1099511627776) : Fn Tryz.prog 14 #[vptr t, .agg ([vint zx, vint ses, vint xid] ++ ptC x).toArray] [treeR t τ, p] fun v L => ∃ u e, v = .tuple #[u, vint e] ∧ e = (applyZ τ zx x subs).2.2 ∧ (∃ a c, u = .slice a (applyZ τ zx x subs).2.1.length c) ∧ L = [treeR t (applyZ τ zx x subs).1, p, slR 75 3 u (applyZ τ zx x subs).2.1.length ((applyZ τ zx x subs).2.1.flatMap evC)] := by
 refine Fn.intro (vs := [vptr t, .agg ([vint zx, vint ses, vint xid] ++ ptC x).toArray]) Tryz.func14 rfl rfl ?_
 intro F W
 refine G.rdAny (p := p) hx.rd (by (repeat' constructor)) fun asb csb esub _ => ?_
 have hrd := hx.rd
 rw [esub] at hrd
 have hfs := hx.few
 refine G.seq (G.region ?_)
 refine G.op (OpSpec.box rfl) (by (repeat' constructor)) rfl ?nx1
 rintro v L' ⟨be, rfl, rfl⟩
 refine G.q (Quiet.assign rfl) rfl (G.q (Quiet.assign rfl) rfl (G.nil ?_))
 refine G.ptCast (b := be) (l' := ([vint zx, vint ses, vint xid] ++ ptC x)) (by (repeat' constructor)) rfl ?_
 refine G.then_n (G.seq (G.region (G.q (Quiet.assign rfl) rfl (G.nil (G.then_n (G.seq (G.region (G.q (Quiet.fieldAddr rfl fo_39_3) rfl ?_))))))))
 refine G.q (Quiet.loadAs (vs := ptC x) rfl ag_37 (by (repeat' constructor)) (by simp [ptC]) rfl) rfl ?_
 refine G.op (OpSpec.allocA ze_37) (by (repeat' constructor)) rfl ?nx8
 rintro v L' ⟨bx, rfl, rfl⟩
 refine G.op (OpSpec.storeA rfl rfl ?c10 sz_37 ?c13 ?c11 ?c12) (by (repeat' constructor)) rfl ?nx14
 case c10 => exact hx.own.all
 case c13 => rfl
 case c11 => simp [ptC]
 case c12 => exact nfz0 _ _
 rintro v L' rfl
 refine G.nil ?_
 refine G.ptCast (b := bx) (l' := ptC x) (by (repeat' constructor)) rfl ?_
 refine G.then_n (G.seq ?_)
 refine G.trOpen (τ := τ) (by (repeat' constructor)) fun rn rs m s hI => ?_
 refine G.region (G.q (Quiet.move rfl) rfl (G.q (Quiet.fieldAddr rfl fo_39_0) rfl ?_))
 refine G.q (Quiet.load rfl ag_3 (by (repeat' constructor)) (rfl)) rfl ?_
 refine G.q (Quiet.nilp rfl) rfl (G.q (Quiet.fieldAddr rfl fo_110_2) rfl ?_)
 refine G.op (OpSpec.store rfl rfl rfl sz_3 ?c20 ?c21) (by (repeat' constructor)) rfl ?nx22
 case c20 => first | decide | (simp; omega) | simp
 case c21 => exact nfz0 _ _
 rintro v L' rfl
 refine G.nil ?_
 refine G.trFold (τ := (zxT τ zx)) (hI.zx zx) (by (repeat' constructor)) rfl rfl rfl ?_
 refine G.then_n (G.seq (G.seq (G.region (G.q (Quiet.fieldAddr rfl fo_37_0) rfl ?_))))
 refine G.q (Quiet.load rfl ag_3 (by (repeat' constructor)) (rfl)) rfl ?_
 refine G.nil (G.then_n (G.block (G.seq (G.region (G.q (Quiet.int rfl rfl rfl) rfl (G.q (Quiet.assign rfl) rfl (G.nil (G.then_n ?_))))))))
 refine G.condD rfl (fun h26 => ?_) (fun h26 => ?_)
 ·refine G.seq (G.region (G.q (Quiet.fieldAddr rfl fo_37_4) rfl ?_))
  refine G.q (Quiet.load rfl ag_3 (by (repeat' constructor)) (rfl)) rfl ?_
  refine G.q (Quiet.int rfl rfl rfl) rfl (G.nil (G.then_n ?_))
  refine G.condD rfl (fun h30 => ?_) (fun h30 => ?_)
  ·refine G.trOpen (τ := (zxT τ zx)) (by (repeat' constructor)) fun rn rs m s hI => ?_
   refine G.draw [11] [[0, 1, 2, 3, 4, 5, 6, 7, 8, 9, 10, 11]] mixed (by kernel_rfl) ?_
   refine Phases.go [] (by (repeat' constructor)) ?_
   refine D.qw [1, 2, 3, 11] rfl (by kernel_rfl) (Quiet.move rfl) ?_
   refine D.qw [2, 3, 11] rfl (by kernel_rfl) (Quiet.nilp rfl) ?_
   refine D.qw [3, 11] rfl (by kernel_rfl) (Quiet.fieldAddr rfl fo_110_1) ?_
   refine D.qw [11] rfl (by kernel_rfl) (Quiet.load rfl ag_108 (by (repeat' constructor)) (rfl)) ?_
   refine D.qw [5, 11] rfl (by kernel_rfl) (Quiet.fieldAddr rfl fo_37_4) ?_
   refine D.qw [11] rfl (by kernel_rfl) (Quiet.load rfl ag_3 (by (repeat' constructor)) (rfl)) ?_
   refine D.qw [7, 10, 11] rfl (by kernel_rfl) (Quiet.fieldAddr rfl fo_37_5) ?_
   refine D.qw [10, 11] rfl (by kernel_rfl) (Quiet.load rfl ag_3 (by (repeat' constructor)) (rfl)) ?_
   refine D.qw [9, 10, 11] rfl (by kernel_rfl) (Quiet.fieldAddr rfl fo_37_2) ?_
   refine D.qw [10, 11] rfl (by kernel_rfl) (Quiet.load rfl ag_9 (by (repeat' constructor)) (rfl)) ?_
   refine D.qw [11] rfl (by kernel_rfl) (Quiet.build (us := [(0, _), (1, _)]) fl_112 ze_112 rfl rfl (by simp [isCell])) ?_
   refine D.h rfl (by kernel_rfl) (OpSpec.mapSet (m := s) (enc := ssV) (v := (x.num, x.data)) (k := x.own) (KeyLaw.int Tryz.underlying3) rfl rfl rfl Tryz.underlying108 ?he40) (by (repeat' constructor)) ?nx41
   case he40 => rfl
   rintro v L' rfl
   refine D.ph (Phases.fin ?_)
   refine G.trFold (τ := (openS (zxT τ zx) x.own x.num x.data)) (hI.open x.own x.num x.data) (by (repeat' constructor)) rfl rfl rfl ?_
   refine G.blk_n (G.then_n (G.seq (G.region (G.q (Quiet.move rfl) rfl (G.q (Quiet.assign rfl) rfl (G.q (Quiet.assign rfl) rfl (G.nil (G.then_n (G.ret (G.add (slR_nil 75 3) ?_))))))))))
   have hc : applyZ τ zx x subs = (openS (zxT τ zx) x.own x.num x.data, ([], 0)) := by unfold applyZ; dsimp only; rw [if_pos h26, if_pos (by omega)]
   refine G.trCast (τ' := (applyZ τ zx x subs).1) (by (repeat' constructor)) (by rw [hc]) ?_
   refine G.slCast (T := 75) (sz := 3) (m' := (applyZ τ zx x subs).2.1.length) (xs' := (applyZ τ zx x subs).2.1.flatMap evC) (by (repeat' constructor)) (by (rw [hc]; try rfl)) (by (rw [hc]; try rfl)) ?_
   exact G.done (l := [.tmp 4, .tmp 5]) rfl rfl ⟨_, _, rfl, by rw [hc], ⟨_, _, by (rw [hc]; try rfl)⟩, rfl⟩ (by (repeat' constructor)) (by (repeat' constructor))
  ·refine G.skip (G.blk_n (G.then_n (G.seq (G.region (G.q (Quiet.move rfl) rfl (G.q (Quiet.assign rfl) rfl (G.q (Quiet.assign rfl) rfl (G.nil (G.then_n (G.ret (G.add (slR_nil 75 3) ?_)))))))))))
   have hc : applyZ τ zx x subs = ((zxT τ zx), ([], 0)) := by unfold applyZ; dsimp only; rw [if_pos h26, if_neg (by omega)]
   refine G.trCast (τ' := (applyZ τ zx x subs).1) (by (repeat' constructor)) (by rw [hc]) ?_
   refine G.slCast (T := 75) (sz := 3) (m' := (applyZ τ zx x subs).2.1.length) (xs' := (applyZ τ zx x subs).2.1.flatMap evC) (by (repeat' constructor)) (by (rw [hc]; try rfl)) (by (rw [hc]; try rfl)) ?_
   exact G.done (l := [.tmp 4, .tmp 5]) rfl rfl ⟨_, _, rfl, by rw [hc], ⟨_, _, by (rw [hc]; try rfl)⟩, rfl⟩ (by (repeat' constructor)) (by (repeat' constructor))
 ·refine G.seq (G.region (G.q (Quiet.int rfl rfl rfl) rfl (G.q (Quiet.assign rfl) rfl (G.nil (G.then_n ?_)))))
  refine G.condD rfl (fun h42 => ?_) (fun h42 => ?_)
  ·refine G.seq (G.seq (G.region (G.q (Quiet.fieldAddr rfl fo_37_7) rfl ?_)))
   refine G.q (Quiet.as (v' := .slice asb subs.length csb) (by exact esub) (Quiet.load rfl ag_35 (by (repeat' constructor)) (rfl))) rfl ?_
   refine G.q (Quiet.slen rfl Tryz.underlying35 rfl) rfl (G.q (Quiet.move rfl) rfl (G.nil (G.then_n (G.block (G.add (slR_nil 75 3) ?_)))))
   refine G.trCast (τ' := (partsZ (zxT τ zx) zx ((subs.take 0).filter isDel)).1) (by (repeat' constructor)) (by rw [List.take_zero]; rfl) ?_
   refine G.slCast (T := 75) (sz := 3) (m' := (partsZ (zxT τ zx) zx ((subs.take 0).filter isDel)).2.length) (xs' := (partsZ (zxT τ zx) zx ((subs.take 0).filter isDel)).2.flatMap evC) (by (repeat' constructor)) (by rw [List.take_zero]; rfl) (by rw [List.take_zero]; rfl) ?_
   refine G.loopK (ι := Nat × Value) (fun q E => (47, vint q.1) :: (6, q.2) :: E) (fun q => [treeR t (partsZ (zxT τ zx) zx ((subs.take q.1).filter isDel)).1, slR 75 3 q.2 (partsZ (zxT τ zx) zx ((subs.take q.1).filter isDel)).2.length ((partsZ (zxT τ zx) zx ((subs.take q.1).filter isDel)).2.flatMap evC)]) (fun q => q.1 ≤ subs.length ∧ ∃ a c, q.2 = .slice a (partsZ (zxT τ zx) zx ((subs.take q.1).filter isDel)).2.length c) (fun q => subs.length - q.1) (0, .slice none 0 0) (ts := [0, 3, 4, 5, 7, 45, 46]) (.cons rfl (.cons rfl (.cons rfl (.cons rfl (.cons rfl (.cons rfl (.cons rfl (.nil)))))))) (⟨Nat.zero_le _, none, 0, by rw [List.take_zero]; rfl⟩) ⟨rfl, rfl, rfl, rfl, rfl, rfl, rfl, rfl, rfl, trivial⟩ (by (repeat' constructor)) ?_
   rintro ⟨i, u⟩ ⟨hi, au, cu, hu⟩
   dsimp only
   dsimp only at hi hu
   subst hu
   have hev := parts_ev (zxT τ zx) zx ((subs.take i).filter isDel)
   have hfl := List.length_filter_le isDel (subs.take i)
   rw [List.length_take] at hfl
   have hok : (partsZ (zxT τ zx) zx ((subs.take i).filter isDel)).1.Ok (N + subs.length) := ((ho.zx zx).parts zx _ (fun y hy => (hx.each y (List.mem_of_mem_take (List.mem_filter.1 hy).1)).few)).more (by omega)
   refine G.seq (G.region (G.q (Quiet.int rfl rfl rfl) rfl (G.nil (G.then_n (G.seq ?_)))))
   refine G.condD rfl (fun h48 => ?_) (fun h48 => ?_)
   ·have hi2 : i < subs.length := by omega
    refine G.rdShape (p := p) hrd (by (repeat' constructor)) (by omega) fun bs os e1 => ?_
    subst e1
    have hys := hx.each _ (List.getElem_mem hi2)
    refine G.skip (G.then_n (G.seq (G.block (G.seq (G.region ?_)))))
    refine G.q (Quiet.indexAddr rfl rfl el_35 (by omega)) rfl ?_
    refine G.q (Quiet.loadRdA (sz := 8) (j := i * 8) (k := 8) (p := p) (vs := ptC subs[i]) rfl ag_37 (by (repeat' constructor)) hrd (by simp) (by omega) (by omega) (flatMap_at (f := ptC) (sz := 8) (fun _ _ => rfl) (by omega))) rfl ?_
    refine G.op (OpSpec.allocA ze_37) (by (repeat' constructor)) rfl ?nx52
    rintro v L' ⟨by1, rfl, rfl⟩
    refine G.op (OpSpec.storeA rfl rfl ?c54 sz_37 ?c57 ?c55 ?c56) (by (repeat' constructor)) rfl ?nx58
    case c54 => exact hys.all
    case c57 => rfl
    case c55 => simp [ptC]
    case c56 => exact nfz0 _ _
    rintro v L' rfl
    refine G.nil ?_
    refine G.ptCast (b := by1) (l' := ptC subs[i]) (by (repeat' constructor)) rfl ?_
    refine G.then_n (G.seq (G.region (G.q (Quiet.fieldAddr rfl fo_37_0) rfl ?_)))
    refine G.q (Quiet.load rfl ag_3 (by (repeat' constructor)) (rfl)) rfl ?_
    refine G.q (Quiet.int rfl rfl rfl) rfl (G.nil (G.then_n ?_))
    refine G.condD rfl (fun h53 => ?_) (fun h53 => ?_)
    ·refine G.region (G.q (Quiet.move rfl) rfl (G.q (Quiet.move rfl) rfl ?_))
     refine G.q (Quiet.loadAs (vs := ptC subs[i]) rfl ag_37 (by (repeat' constructor)) (by simp [ptC]) rfl) rfl ?_
     refine G.q (Quiet.fieldAddr rfl fo_39_0) rfl ?_
     refine G.q (Quiet.load rfl ag_3 (by (repeat' constructor)) (rfl)) rfl ?_
     refine G.op (OpSpec.call Tryz.func46 rfl rfl (vs := [_, _, _]) rfl (trpart_spec t (partsZ (zxT τ zx) zx ((subs.take i).filter isDel)).1 subs[i] zx p hys (N + subs.length) hok (by omega))) (by (repeat' constructor)) rfl ?nx67
     rintro v L' ⟨a14, c14, rfl, rfl⟩
     refine G.op (OpSpec.append (n := (partsZ (zxT τ zx) zx ((subs.take i).filter isDel)).2.length) (m := (partZ (partsZ (zxT τ zx) zx ((subs.take i).filter isDel)).1 subs[i] zx).2.length) (ys := (partZ (partsZ (zxT τ zx) zx ((subs.take i).filter isDel)).1 subs[i] zx).2.flatMap evC) (p := slR 75 3 (.slice a14 (partZ (partsZ (zxT τ zx) zx ((subs.take i).filter isDel)).1 subs[i] zx).2.length c14) (partZ (partsZ (zxT τ zx) zx ((subs.take i).filter isDel)).1 subs[i] zx).2.length ((partZ (partsZ (zxT τ zx) zx ((subs.take i).filter isDel)).1 subs[i] zx).2.flatMap evC)) rfl rfl rfl el_30 (.inl ⟨_, Tryz.underlying30⟩) ze_75 rfl rfl ?hc69 ?hr70 ?hb71 (by decide)) (by (repeat' constructor)) rfl ?nx72
     case hc69 => exact evC_cells _
     case hr70 => exact fun h hp => slR_rd hp
     case hb71 => have := part_ev (partsZ (zxT τ zx) zx ((subs.take i).filter isDel)).1 subs[i] zx; omega
     rintro v L' ⟨⟨a14_6, c14_6, rfl⟩, rfl⟩
     refine G.q (Quiet.assign rfl) rfl (G.nil (G.blk_n (G.then_n (G.region ?_))))
     refine G.q (Quiet.add rfl rfl (by omega)) rfl ?_
     refine G.q (Quiet.move rfl) rfl (G.nil (G.then_n ?_))
     have hst := filter_take_yes (f := isDel) hi2 (by unfold isDel; rw [decide_eq_true h53])
     refine G.trCast (τ' := (partsZ (zxT τ zx) zx ((subs.take (i + 1)).filter isDel)).1) (by (repeat' constructor)) (by rw [hst, parts_snoc]) ?_
     refine G.slCast (T := 75) (sz := 3) (m' := (partsZ (zxT τ zx) zx ((subs.take (i + 1)).filter isDel)).2.length) (xs' := (partsZ (zxT τ zx) zx ((subs.take (i + 1)).filter isDel)).2.flatMap evC) (by (repeat' constructor)) (by rw [hst, parts_snoc]; simp) (by rw [hst, parts_snoc]; simp) ?_
     exact G.roundK ((i + 1, .slice a14_6 ((partsZ (zxT τ zx) zx ((subs.take i).filter isDel)).2.length + (partZ (partsZ (zxT τ zx) zx ((subs.take i).filter isDel)).1 subs[i] zx).2.length) c14_6)) (⟨by dsimp only; omega, _, _, by rw [hst, parts_snoc, List.length_append]⟩) (by dsimp only; omega) ⟨rfl, rfl, rfl, rfl, rfl, rfl, rfl, rfl, rfl, trivial⟩ (by (repeat' constructor)) (by ((repeat (apply Have.cons; (repeat (first | exact Pick.here | apply Pick.there)))); apply Have.base; repeat' constructor))
    ·refine G.skip (G.blk_n (G.then_n (G.region ?_)))
     refine G.q (Quiet.add rfl rfl (by omega)) rfl ?_
     refine G.q (Quiet.move rfl) rfl (G.nil (G.then_n ?_))
     have hst := filter_take_no (f := isDel) hi2 (by unfold isDel; rw [decide_eq_false h53])
     refine G.trCast (τ' := (partsZ (zxT τ zx) zx ((subs.take (i + 1)).filter isDel)).1) (by (repeat' constructor)) (by rw [hst]) ?_
     refine G.slCast (T := 75) (sz := 3) (m' := (partsZ (zxT τ zx) zx ((subs.take (i + 1)).filter isDel)).2.length) (xs' := (partsZ (zxT τ zx) zx ((subs.take (i + 1)).filter isDel)).2.flatMap evC) (by (repeat' constructor)) (by rw [hst]) (by rw [hst]) ?_
     exact G.roundK ((i + 1, .slice au (partsZ (zxT τ zx) zx ((subs.take i).filter isDel)).2.length cu)) (⟨by dsimp only; omega, _, _, by rw [hst]⟩) (by dsimp only; omega) ⟨rfl, rfl, rfl, rfl, rfl, rfl, rfl, rfl, rfl, trivial⟩ (by (repeat' constructor)) (by ((repeat (apply Have.cons; (repeat (first | exact Pick.here | apply Pick.there)))); apply Have.base; repeat' constructor))
   ·have hii : i = subs.length := by omega
    rw [hii, List.take_length]
    refine G.exit (G.then_e (G.then_e (G.blk_e (G.then_n ?_))))
    refine G.trOpen (τ := (partsZ (zxT τ zx) zx (subs.filter isDel)).1) (by (repeat' constructor)) fun rn rs m s hI => ?_
    refine G.draw [6] [[0, 1, 2, 3, 4, 5, 6]] mixed (by kernel_rfl) ?_
    refine Phases.go [] (by (repeat' constructor)) ?_
    refine D.qw [1, 2, 3, 6] rfl (by kernel_rfl) (Quiet.move rfl) ?_
    refine D.qw [2, 3, 6] rfl (by kernel_rfl) (Quiet.nilp rfl) ?_
    refine D.qw [3, 6] rfl (by kernel_rfl) (Quiet.fieldAddr rfl fo_110_1) ?_
    refine D.qw [6] rfl (by kernel_rfl) (Quiet.load rfl ag_108 (by (repeat' constructor)) (rfl)) ?_
    refine D.qw [5, 6] rfl (by kernel_rfl) (Quiet.fieldAddr rfl fo_37_4) ?_
    refine D.qw [6] rfl (by kernel_rfl) (Quiet.load rfl ag_3 (by (repeat' constructor)) (rfl)) ?_
    refine D.h rfl (by kernel_rfl) (OpSpec.mapDel (m := s) (enc := ssV) (k := x.own) (KeyLaw.int Tryz.underlying3) rfl rfl rfl Tryz.underlying108 ?he82) (by (repeat' constructor)) ?nx83
    case he82 => rfl
    rintro v L' rfl
    refine D.ph (Phases.fin ?_)
    refine G.trFold (τ := (dropS (partsZ (zxT τ zx) zx (subs.filter isDel)).1 x.own)) (hI.drop x.own) (by (repeat' constructor)) rfl rfl rfl ?_
    refine G.blk_n (G.then_n (G.seq (G.region (G.q (Quiet.move rfl) rfl (G.q (Quiet.assign rfl) rfl (G.q (Quiet.assign rfl) rfl (G.nil (G.then_n (G.ret ?_)))))))))
    have hc : applyZ τ zx x subs = (dropS (partsZ (zxT τ zx) zx (subs.filter isDel)).1 x.own, ((partsZ (zxT τ zx) zx (subs.filter isDel)).2, 0)) := by unfold applyZ; dsimp only; rw [if_neg h26, if_pos h42]
    refine G.trCast (τ' := (applyZ τ zx x subs).1) (by (repeat' constructor)) (by rw [hc]) ?_
    refine G.slCast (T := 75) (sz := 3) (m' := (applyZ τ zx x subs).2.1.length) (xs' := (applyZ τ zx x subs).2.1.flatMap evC) (by (repeat' constructor)) (by (rw [hc]; try rfl)) (by (rw [hc]; try rfl)) ?_
    exact G.done (l := [.tmp 4, .tmp 5]) rfl rfl ⟨_, _, rfl, by rw [hc], ⟨_, _, by (rw [hc]; try rfl)⟩, rfl⟩ (by (repeat' constructor)) (by (repeat' constructor))
  ·refine G.seq (G.region (G.q (Quiet.int rfl rfl rfl) rfl (G.q (Quiet.assign rfl) rfl (G.nil (G.then_n ?_)))))
   refine G.condD rfl (fun h68 => ?_) (fun h68 => ?_)
   ·refine G.seq (G.region (G.q (Quiet.fieldAddr rfl fo_37_7) rfl ?_))
    refine G.q (Quiet.as (v' := .slice asb subs.length csb) (by exact esub) (Quiet.load rfl ag_35 (by (repeat' constructor)) (rfl))) rfl ?_
    refine G.q (Quiet.slen rfl Tryz.underlying35 rfl) rfl (G.q (Quiet.move rfl) rfl (G.nil (G.then_n (G.block (G.add (slR_nil 75 3) ?_)))))
    refine G.trCast (τ' := (partsZ (zxT τ zx) zx (subs.take 0)).1) (by (repeat' constructor)) (by rw [List.take_zero]; rfl) ?_
    refine G.slCast (T := 75) (sz := 3) (m' := (partsZ (zxT τ zx) zx (subs.take 0)).2.length) (xs' := (partsZ (zxT τ zx) zx (subs.take 0)).2.flatMap evC) (by (repeat' constructor)) (by rw [List.take_zero]; rfl) (by rw [List.take_zero]; rfl) ?_
    refine G.loopK (ι := Nat × Value) (fun q E => (73, vint q.1) :: (6, q.2) :: E) (fun q => [treeR t (partsZ (zxT τ zx) zx (subs.take q.1)).1, slR 75 3 q.2 (partsZ (zxT τ zx) zx (subs.take q.1)).2.length ((partsZ (zxT τ zx) zx (subs.take q.1)).2.flatMap evC)]) (fun q => q.1 ≤ subs.length ∧ ∃ a c, q.2 = .slice a (partsZ (zxT τ zx) zx (subs.take q.1)).2.length c) (fun q => subs.length - q.1) (0, .slice none 0 0) (ts := [0, 3, 4, 5, 71, 72]) (.cons rfl (.cons rfl (.cons rfl (.cons rfl (.cons rfl (.cons rfl (.nil))))))) (⟨Nat.zero_le _, none, 0, by rw [List.take_zero]; rfl⟩) ⟨rfl, rfl, rfl, rfl, rfl, rfl, rfl, rfl, trivial⟩ (by (repeat' constructor)) ?_
    rintro ⟨i, u⟩ ⟨hi, au, cu, hu⟩
    dsimp only
    dsimp only at hi hu
    subst hu
    have hev := parts_ev (zxT τ zx) zx (subs.take i)
    have hfl := List.length_take_le i subs
    have hok : (partsZ (zxT τ zx) zx (subs.take i)).1.Ok (N + subs.length) := ((ho.zx zx).parts zx _ (fun y hy => (hx.each y (List.mem_of_mem_take hy)).few)).more (by rw [List.length_take]; omega)
    refine G.seq (G.region (G.q (Quiet.int rfl rfl rfl) rfl (G.nil (G.then_n (G.seq ?_)))))
    refine G.condD rfl (fun h74 => ?_) (fun h74 => ?_)
    ·have hi2 : i < subs.length := by omega
     refine G.rdShape (p := p) hrd (by (repeat' constructor)) (by omega) fun bs os e1 => ?_
     subst e1
     have hys := hx.each _ (List.getElem_mem hi2)
     refine G.skip (G.then_n (G.seq (G.block (G.seq (G.region ?_)))))
     refine G.q (Quiet.indexAddr rfl rfl el_35 (by omega)) rfl ?_
     refine G.q (Quiet.loadRdA (sz := 8) (j := i * 8) (k := 8) (p := p) (vs := ptC subs[i]) rfl ag_37 (by (repeat' constructor)) hrd (by simp) (by omega) (by omega) (flatMap_at (f := ptC) (sz := 8) (fun _ _ => rfl) (by omega))) rfl ?_
     refine G.op (OpSpec.allocA ze_37) (by (repeat' constructor)) rfl ?nx94
     rintro v L' ⟨by1, rfl, rfl⟩
     refine G.op (OpSpec.storeA rfl rfl ?c96 sz_37 ?c99 ?c97 ?c98) (by (repeat' constructor)) rfl ?nx100
     case c96 => exact hys.all
     case c99 => rfl
     case c97 => simp [ptC]
     case c98 => exact nfz0 _ _
     rintro v L' rfl
     refine G.nil ?_
     refine G.ptCast (b := by1) (l' := ptC subs[i]) (by (repeat' constructor)) rfl ?_
     refine G.then_n (G.region (G.q (Quiet.move rfl) rfl (G.q (Quiet.move rfl) rfl ?_)))
     refine G.q (Quiet.loadAs (vs := ptC subs[i]) rfl ag_37 (by (repeat' constructor)) (by simp [ptC]) rfl) rfl ?_
     refine G.q (Quiet.fieldAddr rfl fo_39_0) rfl ?_
     refine G.q (Quiet.load rfl ag_3 (by (repeat' constructor)) (rfl)) rfl ?_
     refine G.op (OpSpec.call Tryz.func46 rfl rfl (vs := [_, _, _]) rfl (trpart_spec t (partsZ (zxT τ zx) zx (subs.take i)).1 subs[i] zx p hys (N + subs.length) hok (by omega))) (by (repeat' constructor)) rfl ?nx106
     rintro v L' ⟨a21, c21, rfl, rfl⟩
     refine G.op (OpSpec.append (n := (partsZ (zxT τ zx) zx (subs.take i)).2.length) (m := (partZ (partsZ (zxT τ zx) zx (subs.take i)).1 subs[i] zx).2.length) (ys := (partZ (partsZ (zxT τ zx) zx (subs.take i)).1 subs[i] zx).2.flatMap evC) (p := slR 75 3 (.slice a21 (partZ (partsZ (zxT τ zx) zx (subs.take i)).1 subs[i] zx).2.length c21) (partZ (partsZ (zxT τ zx) zx (subs.take i)).1 subs[i] zx).2.length ((partZ (partsZ (zxT τ zx) zx (subs.take i)).1 subs[i] zx).2.flatMap evC)) rfl rfl rfl el_30 (.inl ⟨_, Tryz.underlying30⟩) ze_75 rfl rfl ?hc108 ?hr109 ?hb110 (by decide)) (by (repeat' constructor)) rfl ?nx111
     case hc108 => exact evC_cells _
     case hr109 => exact fun h hp => slR_rd hp
     case hb110 => have := part_ev (partsZ (zxT τ zx) zx (subs.take i)).1 subs[i] zx; omega
     rintro v L' ⟨⟨a21_6, c21_6, rfl⟩, rfl⟩
     refine G.q (Quiet.assign rfl) rfl (G.nil (G.blk_n (G.then_n (G.region ?_))))
     refine G.q (Quiet.add rfl rfl (by omega)) rfl ?_
     refine G.q (Quiet.move rfl) rfl (G.nil (G.then_n ?_))
     have hst := List.take_succ_eq_append_getElem hi2
     refine G.trCast (τ' := (partsZ (zxT τ zx) zx (subs.take (i + 1))).1) (by (repeat' constructor)) (by rw [hst, parts_snoc]) ?_
     refine G.slCast (T := 75) (sz := 3) (m' := (partsZ (zxT τ zx) zx (subs.take (i + 1))).2.length) (xs' := (partsZ (zxT τ zx) zx (subs.take (i + 1))).2.flatMap evC) (by (repeat' constructor)) (by rw [hst, parts_snoc]; simp) (by rw [hst, parts_snoc]; simp) ?_
     exact G.roundK ((i + 1, .slice a21_6 ((partsZ (zxT τ zx) zx (subs.take i)).2.length + (partZ (partsZ (zxT τ zx) zx (subs.take i)).1 subs[i] zx).2.length) c21_6)) (⟨by dsimp only; omega, _, _, by rw [hst, parts_snoc, List.length_append]⟩) (by dsimp only; omega) ⟨rfl, rfl, rfl, rfl, rfl, rfl, rfl, rfl, trivial⟩ (by (repeat' constructor)) (by ((repeat (apply Have.cons; (repeat (first | exact Pick.here | apply Pick.there)))); apply Have.base; repeat' constructor))
    ·have hii : i = subs.length := by omega
     rw [hii, List.take_length]
     refine G.exit (G.then_e (G.then_e (G.blk_e (G.blk_n (G.then_n (G.seq (G.region (G.q (Quiet.move rfl) rfl (G.q (Quiet.assign rfl) rfl (G.q (Quiet.assign rfl) rfl (G.nil (G.then_n (G.ret ?_)))))))))))))
     have hc : applyZ τ zx x subs = ((partsZ (zxT τ zx) zx subs).1, ((partsZ (zxT τ zx) zx subs).2, 0)) := by unfold applyZ; dsimp only; rw [if_neg h26, if_neg h42, if_pos h68]
     refine G.trCast (τ' := (applyZ τ zx x subs).1) (by (repeat' constructor)) (by rw [hc]) ?_
     refine G.slCast (T := 75) (sz := 3) (m' := (applyZ τ zx x subs).2.1.length) (xs' := (applyZ τ zx x subs).2.1.flatMap evC) (by (repeat' constructor)) (by (rw [hc]; try rfl)) (by (rw [hc]; try rfl)) ?_
     exact G.done (l := [.tmp 4, .tmp 5]) rfl rfl ⟨_, _, rfl, by rw [hc], ⟨_, _, by (rw [hc]; try rfl)⟩, rfl⟩ (by (repeat' constructor)) (by (repeat' constructor))
   ·refine G.seq (G.region (G.q (Quiet.int rfl rfl rfl) rfl (G.q (Quiet.assign rfl) rfl (G.nil (G.then_n ?_)))))
    refine G.condD rfl (fun h85 => ?_) (fun h85 => ?_)
    ·refine G.seq ?_
     refine G.draw [] [[0, 1, 2, 3]] mixed (by kernel_rfl) ?_
     refine Phases.go [] (by (repeat' constructor)) ?_
     refine D.qw [1, 3] rfl (by kernel_rfl) (Quiet.fieldAddr rfl fo_37_6) ?_
     refine D.qw [3] rfl (by kernel_rfl) (Quiet.load rfl ag_31 (by (repeat' constructor)) (rfl)) ?_
     refine D.qw [3] rfl (by kernel_rfl) (Quiet.assign rfl) ?_
     refine D.qw [] rfl (by kernel_rfl) (Quiet.assign rfl) ?_
     refine D.ph (Phases.fin (G.then_n (G.ret (G.blk_r (G.then_r (G.add (slR_nil 75 3) ?_))))))
     have hc : applyZ τ zx x subs = ((zxT τ zx), ([], x.err)) := by unfold applyZ; dsimp only; rw [if_neg h26, if_neg h42, if_neg h68, if_pos h85]
     refine G.trCast (τ' := (applyZ τ zx x subs).1) (by (repeat' constructor)) (by rw [hc]) ?_
     refine G.slCast (T := 75) (sz := 3) (m' := (applyZ τ zx x subs).2.1.length) (xs' := (applyZ τ zx x subs).2.1.flatMap evC) (by (repeat' constructor)) (by (rw [hc]; try rfl)) (by (rw [hc]; try rfl)) ?_
     exact G.done (l := [.tmp 4, .tmp 5]) rfl rfl ⟨_, _, rfl, by rw [hc], ⟨_, _, by (rw [hc]; try rfl)⟩, rfl⟩ (by (repeat' constructor)) (by (repeat' constructor))
    ·refine G.region (G.q (Quiet.move rfl) rfl ?_)
     refine G.q (Quiet.loadAs (vs := ptC x) rfl ag_37 (by (repeat' constructor)) (by simp [ptC]) rfl) rfl ?_
     refine G.q (Quiet.fieldAddr rfl fo_39_0) rfl ?_
     refine G.q (Quiet.load rfl ag_3 (by (repeat' constructor)) (rfl)) rfl ?_
     refine G.op (OpSpec.call Tryz.func46 rfl rfl (vs := [_, _, _]) rfl (trpart_spec t (zxT τ zx) x zx p hx.own N (ho.zx zx) (by omega))) (by (repeat' constructor)) rfl ?nx124
     rintro v L' ⟨a5, c5, rfl, rfl⟩
     refine G.q (Quiet.assign rfl) rfl (G.nil (G.blk_n (G.then_n (G.seq (G.region (G.q (Quiet.move rfl) rfl (G.q (Quiet.assign rfl) rfl (G.q (Quiet.assign rfl) rfl (G.nil (G.then_n (G.ret ?_)))))))))))
     have hc : applyZ τ zx x subs = ((partZ (zxT τ zx) x zx).1, ((partZ (zxT τ zx) x zx).2, 0)) := by unfold applyZ; dsimp only; rw [if_neg h26, if_neg h42, if_neg h68, if_neg h85]
     refine G.trCast (τ' := (applyZ τ zx x subs).1) (by (repeat' constructor)) (by rw [hc]) ?_
     refine G.slCast (T := 75) (sz := 3) (m' := (applyZ τ zx x subs).2.1.length) (xs' := (applyZ τ zx x subs).2.1.flatMap evC) (by (repeat' constructor)) (by (rw [hc]; try rfl)) (by (rw [hc]; try rfl)) ?_
     exact G.done (l := [.tmp 4, .tmp 5]) rfl rfl ⟨_, _, rfl, by rw [hc], ⟨_, _, by (rw [hc]; try rfl)⟩, rfl⟩ (by (repeat' constructor)) (by (repeat' constructor))

end Go.Proofs.YtnnbelmpbmfdnaaGreatDoor

/- Own work: entries as plain data; what is done below one node does not touch what is below another one: plain. -/
namespace Go.Proofs.YtnnbelmpbmfdnaaGreatDoor
open Go

def appE (τ : Tr) (e : En) : Tr := (applyZ τ e.zx e.x e.subs).1
def appL (τ : Tr) (l : List En) : Tr := l.foldl appE τ
theorem appL_snoc (τ : Tr) (l : List En) (e : En) : appL τ (l ++ [e]) = appE (appL τ l) e := by unfold appL; rw [List.foldl_append]; rfl
/-- A part without lists. -/
def ptS (kind : Int) (path data : Bs) (num : Int) : Pt := ⟨kind, path, data, .slice none 0 0, [], 0, num, 0, .slice none 0 0⟩
def enS (zx kind : Int) (path data : Bs) (num : Int) : En := ⟨zx, 0, 0, ptS kind path data num, []⟩
/-! ### Raw acts -/
abbrev Ac0 := Int × (Int × (Int × (Bs × Value)))
def ac0C (a : Ac0) : List Value := [vint a.1, vint a.2.1, vint a.2.2.1, vstr a.2.2.2.1, a.2.2.2.2]
structure Acts0 (p : HP) (v : Value) (xs : List Ac0) : Prop where
  cells : ∀ h : Hp, p h → rdS 5 h v xs.length (xs.flatMap ac0C)
  len : xs.length ≤ 1048576
  ok : ∀ a ∈ xs, (-9223372036854775808 ≤ a.1 ∧ a.1 ≤ 9223372036854775807) ∧ (-9223372036854775808 ≤ a.2.1 ∧ a.2.1 ≤ 9223372036854775807) ∧ (-9223372036854775808 ≤ a.2.2.1 ∧ a.2.2.1 ≤ 9223372036854775807) ∧ a.2.2.2.1.length ≤ 1048576
def undNames : List Bs := [[120], [121], [122], [120, 47, 120], [120, 47, 121], [121, 47, 120]]
def undName (k : Int) : Bs := undNames.getD k.toNat []
def undE (q : Bs) (i : Nat) (a : Ac0) : En := enS (10 + i) (1 + pickZ a.1 4) (q ++ [47] ++ undName (pickZ a.2.1 6)) a.2.2.2.1 (pickZ a.2.2.1 9)
def undTo (q : Bs) (xs : List Ac0) : Nat → List En
  | 0 => []
  | i + 1 => undTo q xs i ++ [undE q i (xs.getD i (0, (0, (0, ([], .bool false)))))]
def undL (q : Bs) (xs : List Ac0) : List En := undTo q xs (min 60 xs.length)
/-! ### Parts touch what is theirs -/
theorem part_sess (τ : Tr) (x : Pt) (zx : Int) : (partZ τ x zx).1.sess = τ.sess := by
  unfold partZ createZ eraseZ
  repeat' split
  all_goals rfl
/-- Below a node. -/
def inR (r q : Bs) : Prop := q = r ∨ ∃ c, q = r ++ [47] ++ c
/-! ### The chapter's examples -/
def aw7x : Pt := ptS 1 [47, 97] [120] 1
def aw7y : Pt := ptS 1 [47, 98, 47, 99] [] 1
def aw7A : Tr := (applyZ newT 5 aw7x []).1
def aw7B : Tr := (applyZ aw7A 6 aw7y []).1
end Go.Proofs.YtnnbelmpbmfdnaaGreatDoor

/- Own work: sound histories as plain data, and what is so in all of them. -/
namespace Go.Proofs.YtnnbelmpbmfdnaaGreatDoor
open Go

/-! ### Paths -/
theorem lt_pre (p : Bs) {r : Bs} (h : r ≠ []) : p < p ++ r := by
  have : p ++ [] < p ++ r ↔ [] < r := lt_cut p
  rw [List.append_nil] at this
  refine this.2 ?_
  cases r with
  | nil => exact absurd rfl h
  | cons a r => exact List.nil_lt_cons _ _
theorem under_pre {q p : Bs} (h : underZ q p) : ∃ d, d ≠ [] ∧ q = kidZ p [] ++ d := by
  obtain ⟨h1, h2⟩ := h
  unfold pfx at h1
  have e : q = kidZ p [] ++ q.drop (kidZ p []).length := by
    conv => lhs; rw [← List.take_append_drop (kidZ p []).length q, h1]
  refine ⟨q.drop (kidZ p []).length, fun g => h2 ?_, e⟩
  rw [e, g, List.append_nil]
theorem hit_under {q p d : Bs} (hd : d ≠ []) (e : q = kidZ p [] ++ d) : hitT q p = true := by
  have : underZ q p := by
    subst e
    refine ⟨by unfold pfx; rw [List.take_left], fun g => hd ?_⟩
    have := congrArg List.length g
    rw [List.length_append] at this
    exact List.eq_nil_of_length_eq_zero (by omega)
  unfold hitT
  rw [decide_eq_true this, Bool.or_true]
theorem kid_root (n : Bs) : kidZ [47] n = 47 :: n := by unfold kidZ; rw [if_pos rfl]; rfl
theorem kid_else {p : Bs} (h : p ≠ [47]) (n : Bs) : kidZ p n = p ++ 47 :: n := by unfold kidZ; rw [if_neg h, List.append_assoc]; rfl
theorem hit_pre {q p : Bs} (h : hitT q p = true) : ∃ r, q = p ++ r := by
  unfold hitT at h
  rw [Bool.or_eq_true, decide_eq_true_iff, decide_eq_true_iff] at h
  rcases h with rfl | h
  · exact ⟨[], (List.append_nil _).symm⟩
  · obtain ⟨d, -, rfl⟩ := under_pre h
    by_cases e : p = [47]
    · subst e; exact ⟨d, by rw [kid_root]⟩
    · exact ⟨47 :: d, by rw [kid_else e, List.append_assoc]; rfl⟩
theorem base_ne {q : Bs} (h : ableZ q) : baseZ q ≠ [] := by
  obtain ⟨-, -, -, h⟩ := able_cut h
  intro e
  rw [e] at h; revert h; decide
theorem kid_parent {q : Bs} (h : ableZ q) : q = kidZ (parentZ q) (baseZ q) := by
  obtain ⟨h0, h1, h2, -⟩ := able_cut h
  rw [able_parent h]
  by_cases e : preZ q = []
  · rw [if_pos e, kid_root]; rw [e] at h2; exact h2
  · rw [if_neg e, kid_else h1]; exact h2
theorem parent_pre {q : Bs} (h : ableZ q) : ∃ r, r ≠ [] ∧ q = parentZ q ++ r := by
  have h1 := kid_parent h
  by_cases e : parentZ q = [47]
  · rw [e, kid_root] at h1
    exact ⟨baseZ q, base_ne h, by rw [e]; exact h1⟩
  · rw [kid_else e] at h1
    exact ⟨47 :: baseZ q, by simp, h1⟩
theorem parent_lt {q : Bs} (h : ableZ q) : parentZ q < q := by
  obtain ⟨r, h1, h2⟩ := parent_pre h
  have := lt_pre (parentZ q) h1
  rw [← h2] at this; exact this
theorem hit_le {q p : Bs} (h : hitT q p = true) : ¬ q < p := by
  obtain ⟨r, rfl⟩ := hit_pre h
  intro g
  by_cases e : r = []
  · subst e; rw [List.append_nil] at g; exact linB.irr _ g
  · exact linB.irr _ (linB.tr _ _ _ g (lt_pre p e))
/-- Who is below a node has a parent there or is its kid. -/
theorem hit_parent {q p : Bs} (hq : ableZ q) (hp : p ≠ [47]) (h : hitT (parentZ q) p = true) : hitT q p = true := by
  obtain ⟨r, hr, e⟩ := parent_pre hq
  have key : ∃ d, d ≠ [] ∧ q = kidZ p [] ++ d := by
    unfold hitT at h
    rw [Bool.or_eq_true, decide_eq_true_iff, decide_eq_true_iff] at h
    rcases h with h | h
    · have h1 := kid_parent hq
      rw [h, kid_else hp] at h1
      refine ⟨baseZ q, base_ne hq, ?_⟩
      rw [kid_else hp, List.append_assoc]; exact h1
    · obtain ⟨d, hd, h2⟩ := under_pre h
      refine ⟨d ++ r, by simp [hd], ?_⟩
      rw [← List.append_assoc, ← h2]; exact e
  obtain ⟨d, hd, e2⟩ := key
  exact hit_under hd e2
/-! ### What a part does, path by path -/
theorem create_at {τ : Tr} {y : Pt} {zx : Int} (h1 : y.kind = 1) (ha : ableZ y.path) (hu : thereT τ (parentZ y.path)) (q : Bs) : alook (partZ τ y zx).1.nodes q = (if q = parentZ y.path then (if q = y.path then some (newN y zx) else alook τ.nodes q).map (kidN y.num zx) else if q = y.path then some (newN y zx) else alook τ.nodes q) := by
  unfold partZ createZ
  rw [if_pos h1, if_pos ⟨ha, hu⟩]
  show alook (amod (sset _ _ _) _ _) q = _
  rw [al_amod, al_sset]
theorem erase_at {τ : Tr} {y : Pt} {zx : Int} (h2 : y.kind = 2) (ha : ableZ y.path) (q : Bs) : alook (partZ τ y zx).1.nodes q = (if q = parentZ y.path then (if hitT q y.path = true then none else alook τ.nodes q).map (kidN y.num zx) else if hitT q y.path = true then none else alook τ.nodes q) := by
  unfold partZ eraseZ
  rw [if_neg (by omega), if_pos h2, if_pos ha]
  show alook (amod (τ.nodes.filter _) _ _) q = _
  rw [al_amod, al_filter (fun k => !hitT k y.path)]
  cases hitT q y.path <;> simp
theorem set_at {τ : Tr} {y : Pt} {zx : Int} (h3 : y.kind = 3) (ht : thereT τ y.path) (q : Bs) : alook (partZ τ y zx).1.nodes q = if q = y.path then (alook τ.nodes q).map (setN y.data y.num zx) else alook τ.nodes q := by
  unfold partZ
  rw [if_neg (by omega), if_neg (by omega), if_pos ⟨h3, ht⟩]
  show alook (amod _ _ _) q = _
  rw [al_amod]
theorem acl_at {τ : Tr} {y : Pt} {zx : Int} (h4 : y.kind = 4) (ht : thereT τ y.path) (q : Bs) : alook (partZ τ y zx).1.nodes q = if q = y.path then (alook τ.nodes q).map (aclN y.acl y.num) else alook τ.nodes q := by
  unfold partZ
  rw [if_neg (by omega), if_neg (by omega), if_neg (by rintro ⟨g, -⟩; omega), if_pos ⟨h4, ht⟩]
  show alook (amod _ _ _) q = _
  rw [al_amod]
/-! ### What an entry may be -/
def wldZ : Bs := [119, 111, 114, 108, 100]
def wld (l : List Ac) : Prop := l = [] ∨ ∃ q : Int, 1 ≤ q ∧ q ≤ 31 ∧ l = [(q, wldZ)]
theorem wld_len {l : List Ac} (h : wld l) : l.length ≤ 1 := by
  rcases h with rfl | ⟨q, -, -, rfl⟩ <;> simp
structure PartH (τ : Tr) (y : Pt) (K : Int) : Prop where
  kind : 0 ≤ y.kind ∧ y.kind ≤ 4
  path : y.path.length ≤ 62
  data : y.data.length ≤ 100
  acl : wld y.acl
  own : y.own = 0 ∨ ∃ s, alook τ.sess y.own = some s
  num : 0 ≤ y.num ∧ y.num ≤ K + 1
  err : y.err = 0
  room : y.kind = 1 → τ.nodes.length < 60
theorem PartH.congr {τ υ : Tr} {y : Pt} {K : Int} (h : PartH τ y K) (hn : υ.nodes = τ.nodes) (hs : υ.sess = τ.sess) : PartH υ y K :=
  ⟨h.kind, h.path, h.data, h.acl, by rw [hs]; exact h.own, h.num, h.err, by rw [hn]; exact h.room⟩
theorem PartH.more {τ : Tr} {y : Pt} {K M : Int} (h : PartH τ y K) (hm : K ≤ M) : PartH τ y M := { h with num := ⟨h.num.1, by have := h.num.2; omega⟩ }
def PartsH (τ : Tr) (zx : Int) (subs : List Pt) (K : Int) : Prop := ∀ i (hi : i < subs.length), PartH (partsZ τ zx (subs.take i)).1 subs[i] (K + i)
structure CloseH (τ : Tr) (x : Pt) (subs : List Pt) : Prop where
  own : 1 ≤ x.own ∧ x.own ≤ 5
  paths : subs.map (·.path) = (ownedZ τ x.own).reverse
  kinds : ∀ y ∈ subs, y.kind = 2
inductive ShapeH (τ : Tr) (zx : Int) (x : Pt) (subs : List Pt) (K : Int) : Prop
  | part (hs : subs = []) (h : PartH τ x K)
  | opens (hk : x.kind = 5) (hs : subs = []) (ho : 1 ≤ x.own ∧ x.own ≤ 5) (hn : 4 ≤ x.num ∧ x.num ≤ 53) (hd : x.data.length ≤ 100) (ha : x.acl = []) (hp : x.path = [])
  | close (hk : x.kind = 6) (h : CloseH τ x subs) (hp : PartsH τ zx subs K) (ha : x.acl = []) (hd : x.data = []) (hl : subs.length ≤ 60) (hp : x.path = [])
  | multi (hk : x.kind = 7) (h : PartsH τ zx subs K) (ha : x.acl = []) (hd : x.data = []) (hl : subs.length ≤ 6) (hp : x.path = [])
  | error (hk : x.kind = 8) (hs : subs = []) (he : 0 ≤ x.err ∧ x.err < 99) (hn : x.num = -1) (ha : x.acl = []) (hd : x.data = []) (hp : x.path = [])
/-- What lies in its fields. -/
def TxC (x : Pt) (subs : List Pt) : Prop := isCell x.aclV = true ∧ isCell x.subsV = true ∧ ∀ y ∈ subs, isCell y.aclV = true ∧ isCell y.subsV = true
structure EntH (τ : Tr) (e : En) (K : Int) : Prop where
  sound : soundZ τ e.zx e.x e.subs = true
  shape : ShapeH τ e.zx e.x e.subs K
  ses : 0 ≤ e.ses ∧ e.ses < 9
  cells : TxC e.x e.subs
/-! ### What is so in a sound history -/
structure HInv (τ : Tr) (K : Int) : Prop where
  ok : τ.Ok 60
  root : ∃ n, alook τ.nodes [47] = some n ∧ n.st.own = 0
  closed : ∀ q, thereT τ q → q ≠ [47] → thereT τ (parentZ q)
  ver : ∀ q n, alook τ.nodes q = some n → (0 ≤ n.st.ver ∧ n.st.ver ≤ K) ∧ (0 ≤ n.st.cver ∧ n.st.cver ≤ K) ∧ (0 ≤ n.st.av ∧ n.st.av ≤ K)
  own : ∀ q n, alook τ.nodes q = some n → n.st.own = 0 ∨ ∃ s, alook τ.sess n.st.own = some s
  ids : ∀ i s, alook τ.sess i = some s → 1 ≤ i ∧ i ≤ 5
  data : ∀ q n, alook τ.nodes q = some n → n.data.length ≤ 100
  acl : ∀ q n, alook τ.nodes q = some n → wld n.acl
  bare : ∀ q n, alook τ.nodes q = some n → n.st.len = 0 ∧ n.st.kids = 0
  zx0 : 0 ≤ K
theorem HInv.able {τ : Tr} {K : Int} (h : HInv τ K) {q : Bs} (ht : thereT τ q) (hq : q ≠ [47]) : ableZ q := by
  unfold thereT at ht
  obtain ⟨n, hn⟩ := Option.isSome_iff_exists.1 ht
  exact (h.ok.able _ (al_mem hn)).resolve_left hq
theorem HInv.rootT {τ : Tr} {K : Int} (h : HInv τ K) : thereT τ [47] := by
  obtain ⟨n, hn, -⟩ := h.root
  unfold thereT; rw [hn]; rfl
theorem HInv.pos {τ : Tr} {K : Int} (h : HInv τ K) : 0 < τ.nodes.length := by
  obtain ⟨n, hn, -⟩ := h.root
  exact List.length_pos_of_mem (al_mem hn)
theorem HInv.more {τ : Tr} {K M : Int} (h : HInv τ K) (hm : K ≤ M) : HInv τ M :=
  { h with ver := fun q n hn => by have := h.ver q n hn; omega, zx0 := by have := h.zx0; omega }
theorem HInv.zx {τ : Tr} {K : Int} (h : HInv τ K) (z : Int) : HInv (zxT τ z) K := ⟨h.ok.zx z, h.root, h.closed, h.ver, h.own, h.ids, h.data, h.acl, h.bare, h.zx0⟩
theorem HInv.new : HInv newT 0 := by
  have key : ∀ q n, alook newT.nodes q = some n → q = [47] ∧ n = ⟨[], [(31, wldZ)], st0⟩ := by
    intro q n h
    have := al_mem h
    simp only [newT, List.mem_singleton, Prod.mk.injEq] at this
    exact this
  refine ⟨newT_ok.more (by decide), ⟨_, rfl, rfl⟩, fun q hq hne => ?_, fun q n h => ?_, fun q n h => ?_, fun i s h => ?_, fun q n h => ?_, fun q n h => ?_, fun q n h => ?_, Int.le_refl _⟩
  · unfold thereT at hq
    obtain ⟨n, hn⟩ := Option.isSome_iff_exists.1 hq
    exact absurd (key q n hn).1 hne
  · obtain ⟨-, rfl⟩ := key q n h; decide
  · obtain ⟨-, rfl⟩ := key q n h; exact .inl rfl
  · cases h
  · obtain ⟨-, rfl⟩ := key q n h; decide
  · obtain ⟨-, rfl⟩ := key q n h; exact .inr ⟨31, by decide, by decide, rfl⟩
  · obtain ⟨-, rfl⟩ := key q n h; decide
theorem map_some {α β : Type} {f : α → β} {o : Option α} {b : β} (h : o.map f = some b) : ∃ a, o = some a ∧ b = f a := by
  cases o with
  | none => cases h
  | some a => exact ⟨a, rfl, by simpa using h.symm⟩
theorem there_some {τ : Tr} {p : Bs} : thereT τ p ↔ ∃ n, alook τ.nodes p = some n := Option.isSome_iff_exists
/-- A part that finds what it needs keeps it. -/
theorem HInv.part {τ : Tr} {K : Int} (h : HInv τ K) {y : Pt} {zx : Int} (hs : findsZ τ y = true) (hp : PartH τ y K) : HInv (partZ τ y zx).1 (K + 1) := by
  have hacl := wld_len hp.acl
  have hses := part_sess τ y zx
  -- what a node may become
  suffices hn : (∀ q n, alook (partZ τ y zx).1.nodes q = some n → (∃ n0, (alook τ.nodes q = some n0 ∨ (n0 = newN y zx ∧ q = y.path ∧ y.kind = 1)) ∧ (n = n0 ∨ n = kidN y.num zx n0 ∨ n = setN y.data y.num zx n0 ∨ n = aclN y.acl y.num n0))) ∧ thereT (partZ τ y zx).1 [47] ∧ (∀ q, thereT (partZ τ y zx).1 q → q ≠ [47] → thereT (partZ τ y zx).1 (parentZ q)) ∧ (partZ τ y zx).1.nodes.length ≤ 60 ∧ ¬ y.kind = 1 ∨ y.kind = 1 ∧ (∀ q n, alook (partZ τ y zx).1.nodes q = some n → (∃ n0, (alook τ.nodes q = some n0 ∨ (n0 = newN y zx ∧ q = y.path ∧ y.kind = 1)) ∧ (n = n0 ∨ n = kidN y.num zx n0 ∨ n = setN y.data y.num zx n0 ∨ n = aclN y.acl y.num n0))) ∧ thereT (partZ τ y zx).1 [47] ∧ (∀ q, thereT (partZ τ y zx).1 q → q ≠ [47] → thereT (partZ τ y zx).1 (parentZ q)) ∧ y.path ≠ [47] by
    have hok := h.ok.part y zx (by omega)
    have key : (∀ q n, alook (partZ τ y zx).1.nodes q = some n → (∃ n0, (alook τ.nodes q = some n0 ∨ (n0 = newN y zx ∧ q = y.path ∧ y.kind = 1)) ∧ (n = n0 ∨ n = kidN y.num zx n0 ∨ n = setN y.data y.num zx n0 ∨ n = aclN y.acl y.num n0))) ∧ thereT (partZ τ y zx).1 [47] ∧ (∀ q, thereT (partZ τ y zx).1 q → q ≠ [47] → thereT (partZ τ y zx).1 (parentZ q)) ∧ (partZ τ y zx).1.nodes.length ≤ 60 ∧ (y.kind = 1 → y.path ≠ [47]) := by
      rcases hn with ⟨h1, h2, h3, h4, h5⟩ | ⟨h0, h1, h2, h3, h5⟩
      · exact ⟨h1, h2, h3, h4, fun g => absurd g h5⟩
      · refine ⟨h1, h2, h3, ?_, fun _ => h5⟩
        have hr := hp.room h0
        unfold partZ createZ
        rw [if_pos h0]
        split
        · show (amod (sset _ _ _) _ _).length ≤ 60
          rw [amod_len]
          have := (sset_len τ.nodes y.path (newN y zx)).1
          omega
        · show τ.nodes.length ≤ 60
          omega
    obtain ⟨g1, g2, g3, g4, g5⟩ := key
    have hv : ∀ q n, alook (partZ τ y zx).1.nodes q = some n → ((0 ≤ n.st.ver ∧ n.st.ver ≤ K + 1) ∧ (0 ≤ n.st.cver ∧ n.st.cver ≤ K + 1) ∧ (0 ≤ n.st.av ∧ n.st.av ≤ K + 1)) ∧ (n.st.own = 0 ∨ ∃ s, alook (partZ τ y zx).1.sess n.st.own = some s) ∧ n.data.length ≤ 100 ∧ wld n.acl ∧ n.st.len = 0 ∧ n.st.kids = 0 := by
      intro q n hq
      obtain ⟨n0, g, e⟩ := g1 q n hq
      have hk := h.zx0
      obtain ⟨p1, p2⟩ := hp.num
      rw [hses]
      have base : ((0 ≤ n0.st.ver ∧ n0.st.ver ≤ K + 1) ∧ (0 ≤ n0.st.cver ∧ n0.st.cver ≤ K + 1) ∧ (0 ≤ n0.st.av ∧ n0.st.av ≤ K + 1)) ∧ (n0.st.own = 0 ∨ ∃ s, alook τ.sess n0.st.own = some s) ∧ n0.data.length ≤ 100 ∧ wld n0.acl ∧ n0.st.len = 0 ∧ n0.st.kids = 0 := by
        rcases g with g | ⟨rfl, -, -⟩
        · have := h.ver q n0 g
          exact ⟨by omega, h.own q n0 g, h.data q n0 g, h.acl q n0 g, h.bare q n0 g⟩
        · refine ⟨?_, hp.own, hp.data, hp.acl, rfl, rfl⟩
          show ((0 : Int) ≤ 0 ∧ (0 : Int) ≤ K + 1) ∧ ((0 : Int) ≤ 0 ∧ (0 : Int) ≤ K + 1) ∧ ((0 : Int) ≤ 0 ∧ (0 : Int) ≤ K + 1)
          omega
      obtain ⟨b1, b2, b3, b4, b5⟩ := base
      rcases e with rfl | rfl | rfl | rfl
      · exact ⟨b1, b2, b3, b4, b5⟩
      · exact ⟨⟨b1.1, ⟨p1, p2⟩, b1.2.2⟩, b2, b3, b4, b5⟩
      · exact ⟨⟨⟨p1, p2⟩, b1.2.1, b1.2.2⟩, b2, hp.data, b4, b5⟩
      · exact ⟨⟨b1.1, b1.2.1, ⟨p1, p2⟩⟩, b2, b3, hp.acl, b5⟩
    refine ⟨⟨hok.sorted, hok.ssorted, g4, hok.able, hok.ids, hok.acls, ?_⟩, ?_, g3, fun q n hq => (hv q n hq).1, fun q n hq => (hv q n hq).2.1, ?_, fun q n hq => (hv q n hq).2.2.1, fun q n hq => (hv q n hq).2.2.2.1, fun q n hq => (hv q n hq).2.2.2.2, by have := h.zx0; omega⟩
    · rw [hses]; exact h.ok.sfew
    · obtain ⟨n, hn⟩ := there_some.1 g2
      refine ⟨n, hn, ?_⟩
      obtain ⟨r, hr, hr0⟩ := h.root
      obtain ⟨n0, g, e⟩ := g1 _ _ hn
      have : n0.st.own = 0 := by
        rcases g with g | ⟨-, g, g'⟩
        · rw [hr] at g; cases g; exact hr0
        · exact absurd g.symm (g5 g')
      rcases e with rfl | rfl | rfl | rfl <;> exact this
    · rw [hses]; exact h.ids
  unfold findsZ at hs
  split at hs
  · rename_i h1
    obtain ⟨ha, hnt, hu⟩ := of_decide_eq_true hs
    refine .inr ⟨h1, fun q n hq => ?_, ?_, fun q hq hne => ?_, ha.1⟩
    · rw [create_at h1 ha hu] at hq
      by_cases e1 : q = parentZ y.path
      · rw [if_pos e1] at hq
        obtain ⟨n0, g, rfl⟩ := map_some hq
        by_cases e2 : q = y.path
        · rw [if_pos e2] at g; cases g
          exact ⟨_, .inr ⟨rfl, e2, h1⟩, .inr (.inl rfl)⟩
        · rw [if_neg e2] at g
          exact ⟨_, .inl g, .inr (.inl rfl)⟩
      · rw [if_neg e1] at hq
        by_cases e2 : q = y.path
        · rw [if_pos e2] at hq; cases hq
          exact ⟨_, .inr ⟨rfl, e2, h1⟩, .inl rfl⟩
        · rw [if_neg e2] at hq
          exact ⟨_, .inl hq, .inl rfl⟩
    · have := h.rootT
      unfold thereT at this ⊢
      rw [create_at h1 ha hu]
      rw [if_neg (show ¬ [47] = y.path from fun e => ha.1 e.symm)]
      split
      · rw [Option.isSome_map]; exact this
      · exact this
    · have hth : ∀ r, thereT (partZ τ y zx).1 r ↔ r = y.path ∨ thereT τ r := by
        intro r
        unfold thereT
        rw [create_at h1 ha hu]
        by_cases e2 : r = y.path
        · rw [if_pos e2]; split <;> simp [e2]
        · rw [if_neg e2]; split <;> simp [e2]
      rw [hth] at hq ⊢
      right
      rcases hq with rfl | hq
      · exact hu
      · exact h.closed q hq hne
  · rename_i h1
    split at hs
    · rename_i h2
      obtain ⟨hr, ht, hk⟩ := of_decide_eq_true hs
      have ha := h.able ht hr
      have hth : ∀ r, thereT (partZ τ y zx).1 r ↔ thereT τ r ∧ hitT r y.path = false := by
        intro r
        unfold thereT
        rw [erase_at h2 ha]
        cases e : hitT r y.path <;> split <;> simp
      refine .inl ⟨fun q n hq => ?_, ?_, fun q hq hne => ?_, ?_, h1⟩
      · rw [erase_at h2 ha] at hq
        by_cases e1 : q = parentZ y.path
        · rw [if_pos e1] at hq
          obtain ⟨n0, g, rfl⟩ := map_some hq
          split at g
          · cases g
          · exact ⟨_, .inl g, .inr (.inl rfl)⟩
        · rw [if_neg e1] at hq
          split at hq
          · cases hq
          · exact ⟨_, .inl hq, .inl rfl⟩
      · rw [hth]
        refine ⟨h.rootT, ?_⟩
        cases e : hitT [47] y.path with
        | false => rfl
        | true =>
          obtain ⟨r, e2⟩ := hit_pre e
          have := congrArg List.length e2
          simp at this
          cases hy : y.path with
          | nil => exact absurd (h.able ht hr) (by rw [hy]; decide)
          | cons c r2 =>
            rw [hy] at e2
            simp at e2
            exact absurd (by rw [hy, ← e2.1, e2.2.1]) hr
      · rw [hth] at hq ⊢
        refine ⟨h.closed q hq.1 hne, ?_⟩
        cases e : hitT (parentZ q) y.path with
        | false => rfl
        | true => rw [hit_parent (h.able hq.1 hne) hr e] at hq; exact absurd hq.2 (by decide)
      · unfold partZ eraseZ
        rw [if_neg h1, if_pos h2, if_pos ha]
        show (amod (cutT τ y.path).nodes _ _).length ≤ 60
        rw [amod_len]
        exact Nat.le_trans (cut_len τ y.path) h.ok.few
    · rename_i h2
      split at hs
      · rename_i h3
        have ht := of_decide_eq_true hs
        have hth : ∀ r, thereT (partZ τ y zx).1 r ↔ thereT τ r := by
          intro r
          unfold thereT
          rcases h3 with h3 | h4
          · rw [set_at h3 ht]; split <;> simp
          · rw [acl_at h4 ht]; split <;> simp
        refine .inl ⟨fun q n hq => ?_, (hth _).2 h.rootT, fun q hq hne => (hth _).2 (h.closed q ((hth q).1 hq) hne), ?_, h1⟩
        · rcases h3 with h3 | h4
          · rw [set_at h3 ht] at hq
            split at hq
            · obtain ⟨n0, g, rfl⟩ := map_some hq
              exact ⟨_, .inl g, .inr (.inr (.inl rfl))⟩
            · exact ⟨_, .inl hq, .inl rfl⟩
          · rw [acl_at h4 ht] at hq
            split at hq
            · obtain ⟨n0, g, rfl⟩ := map_some hq
              exact ⟨_, .inl g, .inr (.inr (.inr rfl))⟩
            · exact ⟨_, .inl hq, .inl rfl⟩
        · unfold partZ
          rw [if_neg h1, if_neg h2]
          have := h.ok.few
          split
          · show (amod _ _ _).length ≤ 60
            rw [amod_len]; exact this
          · split
            · show (amod _ _ _).length ≤ 60
              rw [amod_len]; exact this
            · exact this
      · cases hs
/-! ### Parts, one by one -/
theorem snocInd {α : Type} {P : List α → Prop} (h0 : P []) (h1 : ∀ l x, P l → P (l ++ [x])) (l : List α) : P l := by
  have : ∀ m : List α, P m.reverse := by
    intro m
    induction m with
    | nil => exact h0
    | cons x m ih => rw [List.reverse_cons]; exact h1 _ _ ih
  have := this l.reverse
  rwa [List.reverse_reverse] at this
theorem parts_at {τ : Tr} {zx : Int} {subs : List Pt} {i : Nat} (hi : i < subs.length) : (partsZ τ zx (subs.take (i + 1))).1 = (partZ (partsZ τ zx (subs.take i)).1 subs[i] zx).1 := by
  rw [List.take_succ_eq_append_getElem hi, parts_snoc]
theorem soundL_at {τ : Tr} {zx : Int} {cl : Bool} {subs : List Pt} (hs : soundL τ zx cl subs = true) : ∀ i, i ≤ subs.length → soundL (partsZ τ zx (subs.take i)).1 zx cl (subs.drop i) = true := by
  intro i
  induction i with
  | zero => intro _; rw [List.take_zero]; exact hs
  | succ i ih =>
    intro hi
    have := ih (by omega)
    rw [sound_step (by omega)] at this
    simp only [Bool.and_eq_true] at this
    exact this.2
theorem soundL_finds {τ : Tr} {zx : Int} {cl : Bool} {subs : List Pt} (hs : soundL τ zx cl subs = true) {i : Nat} (hi : i < subs.length) : findsZ (partsZ τ zx (subs.take i)).1 subs[i] = true := by
  have := soundL_at hs i (by omega)
  rw [sound_step hi] at this
  simp only [Bool.and_eq_true] at this
  exact this.1.1
theorem HInv.parts {τ : Tr} {K : Int} (h : HInv τ K) {zx : Int} {cl : Bool} {subs : List Pt} (hs : soundL τ zx cl subs = true) (hp : PartsH τ zx subs K) : ∀ i, i ≤ subs.length → HInv (partsZ τ zx (subs.take i)).1 (K + i) := by
  intro i
  induction i with
  | zero => intro _; rw [List.take_zero]; exact h.more (by omega)
  | succ i ih =>
    intro hi
    rw [parts_at (by omega)]
    exact ((ih (by omega)).part (soundL_finds hs (by omega)) (hp i (by omega))).more (by omega)
theorem parts_sess (τ : Tr) (zx : Int) (l : List Pt) : (partsZ τ zx l).1.sess = τ.sess := by
  induction l using snocInd with
  | h0 => rfl
  | h1 l x ih => rw [parts_snoc]; dsimp only; rw [part_sess, ih]
theorem HInv.sfew {l : List (Int × (Int × Bs))} (hs : SortedK l) (h : ∀ i s, alook l i = some s → 1 ≤ i ∧ i ≤ 5) : l.length ≤ 5 := by
  have hn := hs.nodup linI
  have := nodup_len (l := l.map (·.1)) (m := [1, 2, 3, 4, 5]) hn fun x hx => by
    have h1 := al_isSome.2 hx
    obtain ⟨s, e⟩ := Option.isSome_iff_exists.1 h1
    have := h x s e
    have : x = 1 ∨ x = 2 ∨ x = 3 ∨ x = 4 ∨ x = 5 := by omega
    simpa using this
  simpa using this
theorem HInv.opens {τ : Tr} {K : Int} (h : HInv τ K) {id n : Int} {s : Bs} (hi : 1 ≤ id ∧ id ≤ 5) : HInv (openS τ id n s) K := by
  have hl : ∀ i, alook (openS τ id n s).sess i = if i = id then some (n, s) else alook τ.sess i := fun i => al_sset τ.sess id i (n, s)
  have hids : ∀ i r, alook (openS τ id n s).sess i = some r → 1 ≤ i ∧ i ≤ 5 := by
    intro i r hr
    rw [hl] at hr
    split at hr
    · rename_i e; rw [e]; exact hi
    · exact h.ids i r hr
  have hk := h.ok.openS (id := id) (by omega) n s
  refine ⟨⟨hk.sorted, hk.ssorted, h.ok.few, hk.able, hk.ids, hk.acls, by have := HInv.sfew hk.ssorted hids; omega⟩, h.root, h.closed, h.ver, fun q m hq => ?_, hids, h.data, h.acl, h.bare, h.zx0⟩
  rcases h.own q m hq with e | ⟨r, e⟩
  · exact .inl e
  · right; rw [hl]
    split
    · exact ⟨_, rfl⟩
    · exact ⟨r, e⟩
/-- What deletes leave. -/
theorem dels_left {τ : Tr} {zx : Int} {subs : List Pt} (hk : ∀ y ∈ subs, y.kind = 2) : ∀ i, i ≤ subs.length → (∀ j (hj : j < subs.length), j < i → ableZ subs[j].path) → ∀ q n, alook (partsZ τ zx (subs.take i)).1.nodes q = some n → (∃ n0, alook τ.nodes q = some n0 ∧ n0.st.own = n.st.own) ∧ ∀ j (hj : j < subs.length), j < i → hitT q subs[j].path = false := by
  intro i
  induction i with
  | zero => intro _ _ q n hq; exact ⟨⟨n, by rw [List.take_zero] at hq; exact hq, rfl⟩, fun j _ hj => by omega⟩
  | succ i ih =>
    intro hi ha q n hq
    have hi2 : i < subs.length := by omega
    rw [parts_at hi2, erase_at (hk _ (List.getElem_mem hi2)) (ha i hi2 (by omega))] at hq
    have key : ∃ n0, alook (partsZ τ zx (subs.take i)).1.nodes q = some n0 ∧ n0.st.own = n.st.own ∧ hitT q subs[i].path = false := by
      split at hq
      · obtain ⟨n0, g, rfl⟩ := map_some hq
        split at g
        · cases g
        · rename_i e; exact ⟨n0, g, rfl, by simpa using e⟩
      · split at hq
        · cases hq
        · rename_i e; exact ⟨n, hq, rfl, by simpa using e⟩
    obtain ⟨n0, g1, g2, g3⟩ := key
    obtain ⟨⟨n1, k1, k2⟩, k3⟩ := ih (by omega) (fun j hj hji => ha j hj (by omega)) q n0 g1
    refine ⟨⟨n1, k1, k2.trans g2⟩, fun j hj hji => ?_⟩
    by_cases e : j = i
    · subst e; exact g3
    · exact k3 j hj (by omega)
theorem hit_self (q : Bs) : hitT q q = true := by unfold hitT; simp
theorem owned_mem {τ : Tr} {s : Int} {q : Bs} (hn : (τ.nodes.map (·.1)).Nodup) : q ∈ ownedZ τ s ↔ s ≠ 0 ∧ ∃ n, alook τ.nodes q = some n ∧ n.st.own = s := by
  unfold ownedZ
  rw [List.mem_map]
  constructor
  · rintro ⟨⟨q', n⟩, hm, rfl⟩
    obtain ⟨h1, h2⟩ := List.mem_filter.1 hm
    simp at h2
    exact ⟨h2.1, n, al_of_mem hn h1, h2.2⟩
  · rintro ⟨h0, n, h1, h2⟩
    exact ⟨(q, n), List.mem_filter.2 ⟨al_mem h1, by simp [h0, h2]⟩, rfl⟩
theorem finds_del {τ : Tr} {K : Int} (h : HInv τ K) {y : Pt} (hs : findsZ τ y = true) (hk : y.kind = 2) : ableZ y.path := by
  unfold findsZ at hs
  rw [if_neg (by omega), if_pos hk] at hs
  obtain ⟨h1, h2, -⟩ := of_decide_eq_true hs
  exact h.able h2 h1
/-- Behind the deletes of a session's end nothing is its own. -/
theorem close_none {τ : Tr} {K : Int} (h : HInv τ K) {zx : Int} {x : Pt} {subs : List Pt} (hs : soundL τ zx true subs = true) (hp : PartsH τ zx subs K) (hc : CloseH τ x subs) : ∀ q n, alook (partsZ τ zx subs).1.nodes q = some n → n.st.own ≠ x.own := by
  intro q n hq e
  have ha : ∀ j (hj : j < subs.length), j < subs.length → ableZ subs[j].path := fun j hj _ =>
    finds_del (h.parts hs hp j (by omega)) (soundL_finds hs hj) (hc.kinds _ (List.getElem_mem hj))
  have hq' : alook (partsZ τ zx (subs.take subs.length)).1.nodes q = some n := by rw [List.take_length]; exact hq
  obtain ⟨⟨n0, g1, g2⟩, g3⟩ := dels_left hc.kinds subs.length (Nat.le_refl _) ha q n hq'
  have hm : q ∈ ownedZ τ x.own := (owned_mem (h.ok.sorted.nodup linB)).2 ⟨by have := hc.own.1; omega, n0, g1, g2.trans e⟩
  have hm2 : q ∈ subs.map (·.path) := by rw [hc.paths]; simpa using hm
  obtain ⟨y, hy, rfl⟩ := List.mem_map.1 hm2
  obtain ⟨j, hj, rfl⟩ := List.mem_iff_getElem.1 hy
  have := g3 j hj hj
  rw [hit_self] at this; cases this
theorem HInv.drop {τ : Tr} {K : Int} (h : HInv τ K) {id : Int} (hno : ∀ q n, alook τ.nodes q = some n → n.st.own ≠ id) : HInv (dropS τ id) K := by
  have hl : ∀ i, alook (dropS τ id).sess i = if i = id then none else alook τ.sess i := by
    intro i
    show alook (τ.sess.filter fun y => !decide (y.1 = id)) i = _
    rw [al_filter (fun k => !decide (k = id))]
    by_cases e : i = id <;> simp [e]
  refine ⟨h.ok.dropS id, h.root, h.closed, h.ver, fun q n hq => ?_, fun i s hi => ?_, h.data, h.acl, h.bare, h.zx0⟩
  · rcases h.own q n hq with e | ⟨s, e⟩
    · exact .inl e
    · right; rw [hl, if_neg (hno q n hq)]; exact ⟨s, e⟩
  · rw [hl] at hi
    split at hi
    · cases hi
    · exact h.ids i s hi
theorem sound_parts {τ : Tr} {zx : Int} {x : Pt} {subs : List Pt} (h : soundZ τ zx x subs = true) (hk : x.kind = 6 ∨ x.kind = 7) : soundL τ zx (decide (x.kind = 6)) subs = true := by
  unfold soundZ at h
  rw [if_neg (by omega), if_pos hk] at h
  exact h
theorem filter_del {subs : List Pt} (h : ∀ y ∈ subs, y.kind = 2) : subs.filter isDel = subs := List.filter_eq_self.2 fun y hy => by unfold isDel; rw [decide_eq_true (h y hy)]
/-- What an entry does. -/
theorem app_part {τ : Tr} {e : En} (h : e.x.kind ≤ 4 ∨ 8 < e.x.kind) : appE τ e = zxT (partZ τ e.x e.zx).1 e.zx := by
  unfold appE applyZ; dsimp only
  have hz : ∀ (x : Pt) (zx z : Int), partZ (zxT τ z) x zx = (zxT (partZ τ x zx).1 z, (partZ τ x zx).2) := by
    intro x zx z
    unfold partZ createZ eraseZ
    have h : ∀ p, thereT (zxT τ z) p ↔ thereT τ p := fun p => Iff.rfl
    simp only [h]
    repeat' split
    all_goals first | rfl | contradiction
  rw [if_neg (by omega), if_neg (by omega), if_neg (by omega), if_neg (by omega), hz]
theorem part_zx' (τ : Tr) (x : Pt) (zx z : Int) : (partZ (zxT τ z) x zx).1 = zxT (partZ τ x zx).1 z := by
  unfold partZ createZ eraseZ
  have h : ∀ p, thereT (zxT τ z) p ↔ thereT τ p := fun p => Iff.rfl
  simp only [h]
  repeat' split
  all_goals first | rfl | contradiction
theorem parts_zx' (τ : Tr) (zx z : Int) (l : List Pt) : (partsZ (zxT τ z) zx l).1 = zxT (partsZ τ zx l).1 z := by
  induction l using snocInd with
  | h0 => rfl
  | h1 l x ih => rw [parts_snoc, parts_snoc]; dsimp only; rw [ih, part_zx']
theorem app_open {τ : Tr} {e : En} (h : e.x.kind = 5) (ho : 0 < e.x.own) : appE τ e = zxT (openS τ e.x.own e.x.num e.x.data) e.zx := by
  unfold appE applyZ; dsimp only; rw [if_pos h, if_pos ho]; rfl
theorem app_close {τ : Tr} {e : En} (h : e.x.kind = 6) (hk : ∀ y ∈ e.subs, y.kind = 2) : appE τ e = zxT (dropS (partsZ τ e.zx e.subs).1 e.x.own) e.zx := by
  unfold appE applyZ; dsimp only; rw [if_neg (by omega), if_pos h, filter_del hk, parts_zx']; rfl
theorem app_multi {τ : Tr} {e : En} (h : e.x.kind = 7) : appE τ e = zxT (partsZ τ e.zx e.subs).1 e.zx := by
  unfold appE applyZ; dsimp only; rw [if_neg (by omega), if_neg (by omega), if_pos h, parts_zx']
theorem app_err {τ : Tr} {e : En} (h : e.x.kind = 8) : appE τ e = zxT τ e.zx := by
  unfold appE applyZ; dsimp only; rw [if_neg (by omega), if_neg (by omega), if_neg (by omega), if_pos h]
theorem part_zero {τ : Tr} {x : Pt} {zx : Int} (h : x.kind = 0) : (partZ τ x zx).1 = τ := by
  unfold partZ
  rw [if_neg (by omega), if_neg (by omega), if_neg (by rintro ⟨g, -⟩; omega), if_neg (by rintro ⟨g, -⟩; omega)]
theorem HInv.app {τ : Tr} {K : Int} (h : HInv τ K) {e : En} (he : EntH τ e K) : HInv (appE τ e) (K + 60) := by
  rcases he.shape with ⟨hs, hp⟩ | ⟨hk, hs, ho, hn, hd, ha, hp⟩ | ⟨hk, hc, hps, ha, hd, hl, hp⟩ | ⟨hk, hps, ha, hd, hl, hp⟩ | ⟨hk, hs, he2, hn, ha, hd, hp⟩
  · rw [app_part (.inl hp.kind.2)]
    by_cases hz : e.x.kind = 0
    · rw [part_zero hz]; exact (h.zx _).more (by omega)
    · have hf : findsZ τ e.x = true := by
        have := he.sound
        unfold soundZ at this
        have hk := hp.kind
        rw [if_pos (by omega)] at this
        exact this
      exact ((h.part hf hp).zx _).more (by omega)
  · rw [app_open hk (by omega)]
    exact ((h.opens ho).zx _).more (by omega)
  · rw [app_close hk hc.kinds]
    have hsl := sound_parts he.sound (.inl hk)
    rw [decide_eq_true hk] at hsl
    have h2 := h.parts hsl hps e.subs.length (Nat.le_refl _)
    rw [List.take_length] at h2
    exact ((h2.drop (close_none h hsl hps hc)).zx _).more (by omega)
  · rw [app_multi hk]
    have h2 := h.parts (sound_parts he.sound (.inr hk)) hps e.subs.length (Nat.le_refl _)
    rw [List.take_length] at h2
    exact (h2.zx _).more (by omega)
  · rw [app_err hk]
    exact (h.zx _).more (by omega)
/-- A sound history, from a number on, and what comes of it. -/
inductive Hist (z0 : Int) : List En → Tr → Prop
  | nil : Hist z0 [] newT
  | snoc {l : List En} {τ : Tr} {e : En} (h : Hist z0 l τ) (he : EntH τ e (60 * l.length)) (hz : e.zx = z0 + l.length) (hx : 0 ≤ e.xid ∧ e.xid < 150) : Hist z0 (l ++ [e]) (appE τ e)
theorem Hist.tree {z0 : Int} {l : List En} {τ : Tr} (h : Hist z0 l τ) : τ = appL newT l := by
  induction h with
  | nil => rfl
  | snoc _ _ _ _ ih => rw [appL_snoc, ← ih]
theorem Hist.inv {z0 : Int} {l : List En} {τ : Tr} (h : Hist z0 l τ) : HInv τ (60 * l.length) := by
  induction h with
  | nil => exact HInv.new
  | snoc _ he _ _ ih => exact (ih.app he).more (by rw [List.length_append]; simp; omega)
/-- Every beginning of a history is one. -/
theorem Hist.take {z0 : Int} {l : List En} {τ : Tr} (h : Hist z0 l τ) : ∀ i, i ≤ l.length → Hist z0 (l.take i) (appL newT (l.take i)) := by
  induction h with
  | nil => intro i _; rw [List.take_nil]; exact .nil
  | @snoc l τ e h0 he hz hx ih =>
    intro i hi
    by_cases g : i ≤ l.length
    · rw [List.take_append_of_le_length g]; exact ih i g
    · have : i = (l ++ [e]).length := by rw [List.length_append] at hi ⊢; simp at hi ⊢; omega
      rw [this, List.take_length, ← (Hist.snoc h0 he hz hx).tree]
      exact .snoc h0 he hz hx
theorem Hist.at {z0 : Int} {l : List En} {τ : Tr} (h : Hist z0 l τ) : ∀ i (hi : i < l.length), EntH (appL newT (l.take i)) l[i] (60 * i) ∧ l[i].zx = z0 + i := by
  induction h with
  | nil => intro i hi; simp at hi
  | @snoc l τ e h0 he hz hx ih =>
    intro i hi
    by_cases g : i < l.length
    · rw [List.take_append_of_le_length (by omega), List.getElem_append_left g]; exact ih i g
    · have : i = l.length := by rw [List.length_append] at hi; simp at hi; omega
      subst this
      rw [List.take_append_of_le_length (Nat.le_refl _), List.take_length, List.getElem_append_right (Nat.le_refl _)]
      rw [← h0.tree]
      simpa using ⟨he, hz⟩
/-! ### In memory -/
def txRd (x : Pt) (subs : List Pt) : HP := fun h => rdS 2 h x.aclV x.acl.length (x.acl.flatMap acC) ∧ rdS 8 h x.subsV subs.length (subs.flatMap ptC) ∧ ∀ y ∈ subs, rdS 2 h y.aclV y.acl.length (y.acl.flatMap acC)
def enRd (e : En) : HP := txRd e.x e.subs
def ensA (l : List En) : HP := fun h => ∀ e ∈ l, enRd e h
/-- Sizes that every entry of a history keeps. -/
structure EnSz (e : En) : Prop where
  acl : e.x.acl.length ≤ 1
  path : e.x.path.length ≤ 62
  few : e.subs.length ≤ 60
  each : ∀ y ∈ e.subs, y.acl.length ≤ 1 ∧ y.path.length ≤ 62
theorem PartsH.each {τ : Tr} {zx : Int} {subs : List Pt} {K : Int} (h : PartsH τ zx subs K) : ∀ y ∈ subs, y.acl.length ≤ 1 ∧ y.path.length ≤ 62 := fun y hy => by
  obtain ⟨i, hi, rfl⟩ := List.mem_iff_getElem.1 hy
  exact ⟨wld_len (h i hi).acl, (h i hi).path⟩
theorem ShapeH.sz {τ : Tr} {e : En} {K : Int} (h : ShapeH τ e.zx e.x e.subs K) : EnSz e := by
  rcases h with ⟨hs, hp⟩ | ⟨hk, hs, ho, hn, hd, ha, hp⟩ | ⟨hk, hc, hps, ha, hd, hl, hp⟩ | ⟨hk, hps, ha, hd, hl, hp⟩ | ⟨hk, hs, he2, hn, ha, hd, hp⟩
  · exact ⟨wld_len hp.acl, hp.path, by rw [hs]; simp, by rw [hs]; simp⟩
  · exact ⟨by rw [ha]; simp, by rw [hp]; simp, by rw [hs]; simp, by rw [hs]; simp⟩
  · exact ⟨by rw [ha]; simp, by rw [hp]; simp, hl, hps.each⟩
  · exact ⟨by rw [ha]; simp, by rw [hp]; simp, by omega, hps.each⟩
  · exact ⟨by rw [ha]; simp, by rw [hp]; simp, by rw [hs]; simp, by rw [hs]; simp⟩
/-! ### A session's end, path by path -/
theorem owned_sorted {τ : Tr} {N : Nat} (ho : τ.Ok N) (s : Int) : (ownedZ τ s).Pairwise (· < ·) := ho.sorted.filter _
theorem owned_able {τ : Tr} {K : Int} (h : HInv τ K) {s : Int} {q : Bs} (hq : q ∈ ownedZ τ s) : ableZ q ∧ thereT τ q := by
  obtain ⟨h0, n, h1, h2⟩ := (owned_mem (h.ok.sorted.nodup linB)).1 hq
  have ht : thereT τ q := there_some.2 ⟨n, h1⟩
  refine ⟨h.able ht fun e => ?_, ht⟩
  subst e
  obtain ⟨r, g1, g2⟩ := h.root
  rw [h1] at g1; cases g1
  exact h0 (h2.symm.trans g2)
theorem dels_there {τ : Tr} {zx : Int} {q : Bs} (l : List Pt) : (∀ y ∈ l, y.kind = 2 ∧ ableZ y.path) → (thereT (partsZ τ zx l).1 q ↔ thereT τ q ∧ ∀ y ∈ l, hitT q y.path = false) := by
  induction l using snocInd with
  | h0 => intro _; exact ⟨fun h => ⟨h, fun y hy => by cases hy⟩, fun h => h.1⟩
  | h1 l x ih =>
    intro hl
    obtain ⟨k1, k2⟩ := hl x (by simp)
    have ih2 := ih fun y hy => hl y (by simp [hy])
    have e : thereT (partsZ τ zx (l ++ [x])).1 q ↔ thereT (partsZ τ zx l).1 q ∧ hitT q x.path = false := by
      rw [parts_snoc]
      unfold thereT
      dsimp only
      rw [erase_at k1 k2]
      cases hitT q x.path <;> split <;> simp
    rw [e, ih2]
    constructor
    · rintro ⟨⟨a, b⟩, c⟩
      refine ⟨a, fun y hy => ?_⟩
      rcases List.mem_append.1 hy with hy | hy
      · exact b y hy
      · rw [List.mem_singleton] at hy; subst hy; exact c
    · rintro ⟨a, b⟩
      exact ⟨⟨a, fun y hy => b y (by simp [hy])⟩, b x (by simp)⟩
structure DelI (τ : Tr) (zx K own : Int) (j : Nat) (l : List Pt) : Prop where
  le : j ≤ (ownedZ τ own).length
  paths : l.map (·.path) = ((ownedZ τ own).drop j).reverse
  kinds : ∀ y ∈ l, y.kind = 2 ∧ y.aclV = .slice none 0 0 ∧ y.acl = [] ∧ y.subsV = .slice none 0 0
  parts : PartsH τ zx l K
  ver : ∀ q n, alook (partsZ τ zx l).1.nodes q = some n → 0 ≤ n.st.cver ∧ n.st.cver ≤ K + l.length
theorem DelI.init {τ : Tr} {zx K : Int} (h : HInv τ K) (own : Int) : DelI τ zx K own (ownedZ τ own).length [] :=
  ⟨Nat.le_refl _, (by simp), (fun y hy => by cases hy), (fun i hi => by simp at hi), (fun q n hq => by have := (h.ver q n hq).2.1; simp; omega)⟩
theorem DelI.len {τ : Tr} {zx K own : Int} {j : Nat} {l : List Pt} (h : DelI τ zx K own j l) : l.length + j = (ownedZ τ own).length := by
  have := congrArg List.length h.paths
  simp at this
  have := h.le
  omega
theorem DelI.able {τ : Tr} {zx K own : Int} {j : Nat} {l : List Pt} (h : DelI τ zx K own j l) (hi : HInv τ K) : ∀ y ∈ l, y.kind = 2 ∧ ableZ y.path := fun y hy => by
  refine ⟨(h.kinds y hy).1, ?_⟩
  have h1 : y.path ∈ l.map (·.path) := List.mem_map_of_mem hy
  rw [h.paths] at h1
  exact (owned_able hi (List.mem_of_mem_drop (List.mem_reverse.1 h1))).1
theorem DelI.parent {τ : Tr} {zx K own : Int} {k : Nat} {l : List Pt} (h : DelI τ zx K own (k + 1) l) (hi : HInv τ K) : thereT (partsZ τ zx l).1 (parentZ ((ownedZ τ own)[k]'(h.le))) := by
  obtain ⟨ha, ht⟩ := owned_able hi (List.getElem_mem (l := ownedZ τ own) h.le)
  rw [dels_there l (h.able hi)]
  refine ⟨hi.closed _ ht ha.1, fun y hy => ?_⟩
  have h1 : y.path ∈ l.map (·.path) := List.mem_map_of_mem hy
  rw [h.paths, List.mem_reverse] at h1
  obtain ⟨m, hm, e⟩ := List.mem_iff_getElem.1 h1
  rw [List.getElem_drop] at e
  have hm2 : k + 1 + m < (ownedZ τ own).length := by rw [List.length_drop] at hm; omega
  have hlt := List.pairwise_iff_getElem.1 (owned_sorted hi.ok own) k (k + 1 + m) h.le hm2 (by omega)
  cases e2 : hitT (parentZ (ownedZ τ own)[k]) y.path with
  | false => rfl
  | true =>
    refine absurd (linB.tr _ _ _ (parent_lt ha) ?_) (hit_le e2)
    rw [← e]; exact hlt
theorem DelI.step {τ : Tr} {zx K own : Int} {k : Nat} {l : List Pt} (h : DelI τ zx K own (k + 1) l) (hi : HInv τ K) {n : Nd} (hn : alook (partsZ τ zx l).1.nodes (parentZ ((ownedZ τ own)[k]'(h.le))) = some n) : DelI τ zx K own k (l ++ [⟨2, (ownedZ τ own)[k]'(h.le), [], .slice none 0 0, [], 0, n.st.cver + 1, 0, .slice none 0 0⟩]) := by
  have hle := h.le
  obtain ⟨ha, ht⟩ := owned_able hi (List.getElem_mem (l := ownedZ τ own) h.le)
  have hv := h.ver _ _ hn
  refine ⟨by omega, ?_, fun y hy => ?_, fun i hl => ?_, fun q m hq => ?_⟩
  · rw [List.map_append, h.paths, List.drop_eq_getElem_cons (show k < (ownedZ τ own).length from hle), List.reverse_cons]; rfl
  · rcases List.mem_append.1 hy with hy | hy
    · exact h.kinds y hy
    · rw [List.mem_singleton] at hy; subst hy; exact ⟨rfl, rfl, rfl, rfl⟩
  · by_cases g : i < l.length
    · rw [List.take_append_of_le_length (by omega), List.getElem_append_left g]; exact h.parts i g
    · have : i = l.length := by rw [List.length_append] at hl; simp at hl; omega
      subst this
      rw [List.take_append_of_le_length (Nat.le_refl _), List.take_length, List.getElem_append_right (Nat.le_refl _)]
      have hpl := able_len (.inr ha)
      simp only [Nat.sub_self, List.getElem_cons_zero]
      exact ⟨⟨by show (0 : Int) ≤ 2; decide, by show (2 : Int) ≤ 4; decide⟩, by show ((ownedZ τ own)[k]).length ≤ 62; omega, by simp, .inl rfl, .inl rfl, ⟨by show 0 ≤ n.st.cver + 1; omega, by show n.st.cver + 1 ≤ K + l.length + 1; omega⟩, rfl, fun e => by cases e⟩
  · rw [parts_snoc] at hq
    dsimp only at hq
    rw [erase_at rfl ha] at hq
    rw [List.length_append]
    simp only [List.length_cons, List.length_nil]
    split at hq
    · obtain ⟨n0, g, rfl⟩ := map_some hq
      show 0 ≤ n.st.cver + 1 ∧ n.st.cver + 1 ≤ K + (l.length + 1 : Nat)
      omega
    · split at hq
      · cases hq
      · have := h.ver q m hq
        omega
theorem PartsH.snoc {τ : Tr} {zx : Int} {l : List Pt} {K : Int} {y : Pt} (h : PartsH τ zx l K) (hy : PartH (partsZ τ zx l).1 y (K + l.length)) : PartsH τ zx (l ++ [y]) K := by
  intro i hl
  by_cases g : i < l.length
  · rw [List.take_append_of_le_length (by omega), List.getElem_append_left g]; exact h i g
  · have : i = l.length := by rw [List.length_append] at hl; simp at hl; omega
    subst this
    rw [List.take_append_of_le_length (Nat.le_refl _), List.take_length, List.getElem_append_right (Nat.le_refl _)]
    simpa using hy
/-- Rows of ACLs of parts that are read. -/
def aclsA (l : List Pt) : HP := fun h => ∀ y ∈ l, rdS 2 h y.aclV y.acl.length (y.acl.flatMap acC)
theorem ShapeH.tx {τ : Tr} {e : En} {K : Int} (h : ShapeH τ e.zx e.x e.subs K) (c : TxC e.x e.subs) {p : HP} (hp : ∀ h : Hp, p h → txRd e.x e.subs h) : TxA p e.x e.subs := by
  have hz := h.sz
  obtain ⟨c1, c2, c3⟩ := c
  refine ⟨⟨fun w hw => (hp w hw).1, by have := hz.acl; omega, by have := hz.path; omega, c2, c1⟩, fun w hw => (hp w hw).2.1, by have := hz.few; omega, fun y hy => ?_⟩
  obtain ⟨g1, g2⟩ := hz.each y hy
  exact ⟨fun w hw => (hp w hw).2.2 y hy, by omega, by omega, (c3 y hy).2, (c3 y hy).1⟩
theorem EntH.txOf {τ : Tr} {e : En} {K : Int} (h : EntH τ e K) {p : HP} (hp : ∀ h : Hp, p h → enRd e h) : TxA p e.x e.subs := h.shape.tx h.cells hp
/-- Raw acts, with what lies in them. -/
structure Acts1 (p : HP) (v : Value) (xs : List Ac0) : Prop where
  own : Acts0 p v xs
  subs : ∀ a ∈ xs, ∃ ss, Acts0 p a.2.2.2.2 ss ∧ ∀ s ∈ ss, isCell s.2.2.2.2 = true
theorem Hist.tx {z0 : Int} {l : List En} {τ : Tr} (h : Hist z0 l τ) : ∀ i (hi : i < l.length), TxA (ensA l) l[i].x l[i].subs := fun i hi =>
  (h.at i hi).1.txOf fun _ hw => hw _ (List.getElem_mem hi)
end Go.Proofs.YtnnbelmpbmfdnaaGreatDoor

/- Own work, by program: package tree: Owned, Session, Kids: walked. -/

namespace Go.Proofs.YtnnbelmpbmfdnaaGreatDoor
open Go
def ownK (l : List (Bs × Nd)) (s : Int) : List Bs := (l.filter fun y => !decide (s = 0) && decide (y.2.st.own = s)).map (·.1)
def sesD (τ : Tr) (id : Int) : Int × Bs := (alook τ.sess id).getD (0, [])
def sesT (τ : Tr) (id : Int) : Prop := (alook τ.sess id).isSome = true
instance (τ : Tr) (id : Int) : Decidable (sesT τ id) := inferInstanceAs (Decidable (_ = _))
end Go.Proofs.YtnnbelmpbmfdnaaGreatDoor

/- Own work: who owns what in a sound history: plain. -/
namespace Go.Proofs.YtnnbelmpbmfdnaaGreatDoor
open Go

def manyTo (τ : Tr) : Nat → Nat
  | 0 => 0
  | s + 1 => manyTo τ s + if s = 0 then 0 else (ownedZ τ s).length
def freeK (l : List (Bs × Nd)) : Nat := (l.filter fun y => decide (y.2.st.own = 0)).length
theorem Hist.ok {z0 : Int} {l : List En} {τ : Tr} (h : Hist z0 l τ) {i : Nat} (hi : i ≤ l.length) : (appL newT (l.take i)).Ok 60 := (h.take i hi).inv.ok
theorem Hist.few {z0 : Int} {l : List En} {τ : Tr} (h : Hist z0 l τ) {i : Nat} (hi : i < l.length) : l[i].subs.length ≤ 60 := (h.at i hi).1.shape.sz.few
end Go.Proofs.YtnnbelmpbmfdnaaGreatDoor

/- Own work: sessions and nodes know nothing of one another, but for a session's end: plain. -/
namespace Go.Proofs.YtnnbelmpbmfdnaaGreatDoor
open Go

def setS (τ : Tr) (s : List (Int × (Int × Bs))) : Tr := { τ with sess := s }
theorem part_ss (τ : Tr) (s : List (Int × (Int × Bs))) (x : Pt) (zx : Int) : (partZ (setS τ s) x zx).1 = setS (partZ τ x zx).1 s := by
  unfold partZ createZ eraseZ
  have h : ∀ p, thereT (setS τ s) p ↔ thereT τ p := fun p => Iff.rfl
  simp only [h]
  repeat' split
  all_goals first | rfl | contradiction
/-- What an entry does to the sessions alone. -/
def sesE (s : List (Int × (Int × Bs))) (e : En) : List (Int × (Int × Bs)) :=
  if e.x.kind = 5 then (if 0 < e.x.own then sset s e.x.own (e.x.num, e.x.data) else s)
  else if e.x.kind = 6 then s.filter fun y => !decide (y.1 = e.x.own) else s
theorem app_sess (τ : Tr) (e : En) : (appE τ e).sess = sesE τ.sess e := by
  unfold appE applyZ sesE
  dsimp only
  split
  · split <;> rfl
  split
  · show (dropS _ _).sess = _
    unfold dropS; dsimp only
    rw [parts_sess]; rfl
  split
  · rw [parts_sess]; rfl
  split
  · rfl
  · rw [part_sess]; rfl
/-- The sessions are as the history's, but for some of 100 to 108. -/
structure More (τ : Tr) (s : List (Int × (Int × Bs))) : Prop where
  sorted : SortedK s
  same : ∀ i, i < 100 ∨ 108 < i → alook s i = alook τ.sess i
theorem sesE_sorted {s : List (Int × (Int × Bs))} (h : SortedK s) (e : En) : SortedK (sesE s e) := by
  unfold sesE
  split
  · split
    · exact h.sset linI _ _
    · exact h
  split
  · exact h.filter _
  · exact h
theorem sesE_at (s : List (Int × (Int × Bs))) (e : En) (i : Int) : alook (sesE s e) i = if e.x.kind = 5 ∧ 0 < e.x.own ∧ i = e.x.own then some (e.x.num, e.x.data) else if e.x.kind = 6 ∧ i = e.x.own then none else alook s i := by
  unfold sesE
  by_cases h5 : e.x.kind = 5
  · have e2 : (if e.x.kind = 6 ∧ i = e.x.own then none else alook s i) = alook s i := if_neg (by rintro ⟨g, -⟩; omega)
    rw [e2, if_pos h5]
    by_cases ho : 0 < e.x.own
    · rw [if_pos ho, al_sset]
      by_cases hi : i = e.x.own
      · rw [if_pos hi, if_pos ⟨h5, ho, hi⟩]
      · rw [if_neg hi, if_neg (fun g => hi g.2.2)]
    · rw [if_neg ho, if_neg (fun g => ho g.2.1)]
  · have e1 : (if e.x.kind = 5 ∧ 0 < e.x.own ∧ i = e.x.own then some (e.x.num, e.x.data) else if e.x.kind = 6 ∧ i = e.x.own then none else alook s i) = if e.x.kind = 6 ∧ i = e.x.own then none else alook s i := if_neg (fun g => h5 g.1)
    rw [e1, if_neg h5]
    by_cases h6 : e.x.kind = 6
    · rw [if_pos h6, al_filter (fun k => !decide (k = e.x.own))]
      by_cases hi : i = e.x.own
      · simp [hi, h6]
      · simp [hi]
    · rw [if_neg h6]; simp [h6]
theorem More.both {τ : Tr} {s : List (Int × (Int × Bs))} (h : More τ s) (e : En) : More (appE τ e) (sesE s e) :=
  ⟨sesE_sorted h.sorted e, fun i hi => by rw [app_sess, sesE_at, sesE_at, h.same i hi]⟩
theorem More.one {τ : Tr} {s : List (Int × (Int × Bs))} (h : More τ s) {e : En} (ho : 100 ≤ e.x.own ∧ e.x.own ≤ 108) : More τ (sesE s e) := by
  refine ⟨sesE_sorted h.sorted e, fun i hi => ?_⟩
  rw [sesE_at, if_neg (by rintro ⟨-, -, g⟩; omega), if_neg (by rintro ⟨-, g⟩; omega)]
  exact h.same i hi
theorem More.ids {τ : Tr} {K : Int} {s : List (Int × (Int × Bs))} (hi : HInv τ K) (h : More τ s) : ∀ x ∈ s, (1 ≤ x.1 ∧ x.1 ≤ 5) ∨ (100 ≤ x.1 ∧ x.1 ≤ 108) := by
  intro x hx
  have h1 := al_of_mem (h.sorted.nodup linI) (show (x.1, x.2) ∈ s from hx)
  by_cases g : x.1 < 100 ∨ 108 < x.1
  · rw [h.same _ g] at h1
    exact .inl (hi.ids _ _ h1)
  · omega
theorem More.ok {τ : Tr} {K : Int} {s : List (Int × (Int × Bs))} (hi : HInv τ K) (h : More τ s) : (setS τ s).Ok 60 := by
  refine ⟨hi.ok.sorted, h.sorted, hi.ok.few, hi.ok.able, fun x hx => ?_, hi.ok.acls, ?_⟩
  · have := h.ids hi x hx; omega
  · have := nodup_len (l := s.map (·.1)) (m := [1, 2, 3, 4, 5, 100, 101, 102, 103, 104, 105, 106, 107, 108]) (h.sorted.nodup linI) fun i hm => by
      obtain ⟨x, hx, rfl⟩ := List.mem_map.1 hm
      have := h.ids hi x hx
      have : x.1 = 1 ∨ x.1 = 2 ∨ x.1 = 3 ∨ x.1 = 4 ∨ x.1 = 5 ∨ x.1 = 100 ∨ x.1 = 101 ∨ x.1 = 102 ∨ x.1 = 103 ∨ x.1 = 104 ∨ x.1 = 105 ∨ x.1 = 106 ∨ x.1 = 107 ∨ x.1 = 108 := by omega
      simpa using this
    have h2 : s.length ≤ 14 := by simpa using this
    show s.length ≤ 60
    omega
/-- A session opened, and one closed, by hand. -/
def opE (zx n i : Int) : En := ⟨zx, 0, 0, ⟨5, [], [], .slice none 0 0, [], n, i, 0, .slice none 0 0⟩, []⟩
def clE (zx n : Int) : En := ⟨zx, 0, 0, ⟨6, [], [], .slice none 0 0, [], n, 0, 0, .slice none 0 0⟩, []⟩
theorem app_zx (τ : Tr) (e : En) : (appE τ e).zx = e.zx := by
  have hp : ∀ (τ : Tr) (x : Pt) (zx : Int), (partZ τ x zx).1.zx = τ.zx := by
    intro τ x zx
    unfold partZ createZ eraseZ
    repeat' split
    all_goals rfl
  have hps : ∀ (τ : Tr) (zx : Int) (l : List Pt), (partsZ τ zx l).1.zx = τ.zx := by
    intro τ zx l
    induction l using snocInd with
    | h0 => rfl
    | h1 l x ih => rw [parts_snoc]; dsimp only; rw [hp, ih]
  unfold appE applyZ
  dsimp only
  split
  · split <;> rfl
  split
  · exact hps _ _ _
  split
  · exact hps _ _ _
  split
  · rfl
  · exact hp _ _ _
/-- All but the history's are closed in the end. -/
structure Shut (τ : Tr) (s : List (Int × (Int × Bs))) (n : Nat) : Prop where
  more : More τ s
  gone : ∀ i : Int, 100 ≤ i → i < n → alook s i = none
theorem Shut.step {τ : Tr} {s : List (Int × (Int × Bs))} {n : Nat} (h : Shut τ s n) (hn : 100 ≤ n ∧ n ≤ 108) (zx : Int) : Shut τ (sesE s (clE zx n)) (n + 1) := by
  refine ⟨h.more.one ⟨by show (100 : Int) ≤ (n : Int); omega, by show (n : Int) ≤ 108; omega⟩, fun i h1 h2 => ?_⟩
  rw [sesE_at, if_neg (by rintro ⟨g, -⟩; exact absurd g (by show ¬ (6 : Int) = 5; decide))]
  by_cases e : i = n
  · rw [if_pos ⟨rfl, e⟩]
  · rw [if_neg (fun g => e g.2)]
    exact h.gone i h1 (by omega)
theorem Shut.done {τ : Tr} {K : Int} {s : List (Int × (Int × Bs))} (hi : HInv τ K) (h : Shut τ s 109) : setS τ s = τ := by
  have : s = τ.sess := by
    refine sorted_same linI h.more.sorted hi.ok.ssorted fun i => ?_
    by_cases g : i < 100 ∨ 108 < i
    · exact h.more.same i g
    · rw [h.gone i (by omega) (by omega)]
      rcases e : alook τ.sess i with _ | r
      · rfl
      · have := hi.ids i r e; omega
  rw [this]; rfl
end Go.Proofs.YtnnbelmpbmfdnaaGreatDoor

/- Own work: the end of a sound history, done again, changes nothing: plain. -/

namespace Go.Proofs.YtnnbelmpbmfdnaaGreatDoor
open Go

/-! ### Paths: who is above -/
theorem base_noslash {q : Bs} (h : ableZ q) : (47 : UInt8) ∉ baseZ q := by
  obtain ⟨h0, -, -, -⟩ := able_cut h
  have h2 := (cut_last h0).2
  unfold baseZ
  rw [show (lidxZ q + 1).toNat = (lidxZ q).toNat + 1 by omega]
  exact h2
theorem able_noend {p : Bs} (hp : ableZ (p ++ [47])) : False := by
  have h1 := kid_parent hp
  have hb := base_ne hp
  have hs := base_noslash hp
  unfold kidZ at h1
  rcases List.append_eq_append_iff.1 h1 with ⟨a, e1, e2⟩ | ⟨a, e1, e2⟩
  · cases a with
    | nil => rw [List.nil_append] at e2; exact hs (by rw [← e2]; simp)
    | cons c a =>
      have := congrArg List.length e2
      rw [List.length_append] at this
      simp only [List.length_cons, List.length_nil] at this
      exact hb (List.eq_nil_of_length_eq_zero (by omega))
  · exact hs (by rw [e2]; simp)
theorem hit_up {q p : Bs} (hq : ableZ q) (hp : ableZ p) (hu : parentZ q = [47] ∨ ableZ (parentZ q)) (h : hitT q p = true) (hne : q ≠ p) : hitT (parentZ q) p = true := by
  unfold hitT at h
  rw [Bool.or_eq_true, decide_eq_true_iff, decide_eq_true_iff] at h
  obtain ⟨d, hd, e1⟩ := under_pre (h.resolve_left hne)
  rw [kid_else hp.1, List.append_assoc, List.cons_append, List.nil_append] at e1
  have hb := base_noslash hq
  have e2 := kid_parent hq
  by_cases hr : parentZ q = [47]
  · rw [hr, kid_root] at e2
    rw [e2] at e1
    cases p with
    | nil => exact absurd hp (by decide)
    | cons c p' =>
      rw [List.cons_append] at e1
      injection e1 with _ e3
      exact absurd (by rw [e3]; simp) hb
  · rw [kid_else hr] at e2
    rw [e2] at e1
    rcases List.append_eq_append_iff.1 e1 with ⟨a, h1, h2⟩ | ⟨a, h1, h2⟩
    · -- p = u ++ a
      cases a with
      | nil => rw [List.append_nil] at h1; rw [h1]; exact hit_self _
      | cons c a =>
        rw [List.cons_append] at h2
        injection h2 with _ h3
        exact absurd (by rw [h3]; simp) hb
    · cases a with
      | nil => rw [List.append_nil] at h1; rw [h1]; exact hit_self _
      | cons c a =>
        rw [List.cons_append] at h2
        injection h2 with h3 h4
        subst h3
        refine hit_under (d := a) (fun e => ?_) (by rw [kid_else hp.1, List.append_assoc]; exact h1)
        subst e
        exact able_noend (by rw [← h1]; exact hu.resolve_left hr)
/-! ### Parts, run and run again -/
abbrev Pz := Pt × Int
def runP : Tr → List Pz → Tr
  | τ, [] => τ
  | τ, x :: l => runP (partZ τ x.1 x.2).1 l
def soundR : Tr → List Pz → Prop
  | _, [] => True
  | τ, x :: l => findsZ τ x.1 = true ∧ soundR (partZ τ x.1 x.2).1 l
structure Cl (τ : Tr) : Prop where
  able : ∀ q, thereT τ q → q ≠ [47] → ableZ q
  closed : ∀ q, thereT τ q → q ≠ [47] → thereT τ (parentZ q)
theorem Cl.up {τ : Tr} (h : Cl τ) {q : Bs} (ht : thereT τ q) (hq : q ≠ [47]) : parentZ q = [47] ∨ ableZ (parentZ q) := by
  by_cases e : parentZ q = [47]
  · exact .inl e
  · exact .inr (h.able _ (h.closed q ht hq) e)
theorem kid_mem {τ : Tr} {q : Bs} (ht : thereT τ q) (hq : q ≠ [47]) : (kidsZ τ (parentZ q)).length ≠ 0 := by
  obtain ⟨n, hn⟩ := there_some.1 ht
  have hm := al_mem hn
  intro e
  have : baseZ q ∈ kidsZ τ (parentZ q) := by
    unfold kidsZ
    exact List.mem_map.2 ⟨(q, n), List.mem_filter.2 ⟨hm, by simp [hq]⟩, rfl⟩
  rw [List.eq_nil_of_length_eq_zero e] at this; cases this
theorem hit_root {p : Bs} (hp : ableZ p) : hitT [47] p = false := by
  cases e : hitT [47] p with
  | false => rfl
  | true =>
    obtain ⟨r, e2⟩ := hit_pre e
    cases hy : p with
    | nil => exact absurd hp (by rw [hy]; decide)
    | cons c r2 =>
      rw [hy] at e2
      simp at e2
      exact absurd (by rw [hy, ← e2.1, e2.2.1]) hp.1
/-- Who has no kids has nobody below. -/
theorem no_below {τ : Tr} (hc : Cl τ) {p : Bs} (hp : ableZ p) (hk : (kidsZ τ p).length = 0) : ∀ (n : Nat) (q : Bs), q.length ≤ n → thereT τ q → hitT q p = true → q = p := by
  intro n
  induction n with
  | zero =>
    intro q hl ht hh
    have : q = [] := List.eq_nil_of_length_eq_zero (by omega)
    subst this
    exact absurd (hc.able _ ht (by decide)) (by decide)
  | succ n ih =>
    intro q hl ht hh
    apply Decidable.byContradiction
    intro hne
    have hqr : q ≠ [47] := fun e => by subst e; rw [hit_root hp] at hh; cases hh
    have ha := hc.able q ht hqr
    have hup := hit_up ha hp (hc.up ht hqr) hh hne
    obtain ⟨r, hr, e⟩ := parent_pre ha
    have hlen : (parentZ q).length ≤ n := by
      have := congrArg List.length e
      rw [List.length_append] at this
      have := List.length_pos_iff.2 hr
      omega
    have := ih (parentZ q) hlen (hc.closed q ht hqr) hup
    exact kid_mem ht hqr (by rw [this]; exact hk)
theorem finds_kind {τ : Tr} {x : Pt} (h : findsZ τ x = true) : x.kind = 1 ∧ (ableZ x.path ∧ ¬ thereT τ x.path ∧ thereT τ (parentZ x.path)) ∨ x.kind = 2 ∧ (x.path ≠ [47] ∧ thereT τ x.path ∧ (kidsZ τ x.path).length = 0) ∨ (x.kind = 3 ∨ x.kind = 4) ∧ thereT τ x.path := by
  unfold findsZ at h
  split at h
  · rename_i h1; exact .inl ⟨h1, of_decide_eq_true h⟩
  split at h
  · rename_i h2; exact .inr (.inl ⟨h2, of_decide_eq_true h⟩)
  split at h
  · rename_i h3; exact .inr (.inr ⟨h3, of_decide_eq_true h⟩)
  · cases h
theorem there_part {τ : Tr} (hc : Cl τ) {x : Pt} {z : Int} (h : findsZ τ x = true) (q : Bs) : thereT (partZ τ x z).1 q ↔ (if x.kind = 1 then q = x.path ∨ thereT τ q else if x.kind = 2 then thereT τ q ∧ q ≠ x.path else thereT τ q) := by
  rcases finds_kind h with ⟨h1, ha, hn, hu⟩ | ⟨h2, hr, ht, hk⟩ | ⟨h3, ht⟩
  · rw [if_pos h1]
    unfold thereT
    rw [create_at h1 ha hu]
    by_cases e2 : q = x.path
    · rw [if_pos e2]; split <;> simp [e2]
    · rw [if_neg e2]; split <;> simp [e2]
  · rw [if_neg (by omega), if_pos h2]
    have ha := hc.able _ ht hr
    have e : thereT (partZ τ x z).1 q ↔ thereT τ q ∧ hitT q x.path = false := by
      unfold thereT
      rw [erase_at h2 ha]
      cases hitT q x.path <;> split <;> simp
    rw [e]
    constructor
    · rintro ⟨g1, g2⟩
      exact ⟨g1, fun e => by rw [e, hit_self] at g2; cases g2⟩
    · rintro ⟨g1, g2⟩
      refine ⟨g1, ?_⟩
      cases e : hitT q x.path with
      | false => rfl
      | true => exact absurd (no_below hc ha hk _ q (Nat.le_refl _) g1 e) g2
  · rw [if_neg (by omega), if_neg (by omega)]
    unfold thereT
    rcases h3 with h3 | h4
    · rw [set_at h3 ht]; split <;> simp
    · rw [acl_at h4 ht]; split <;> simp
theorem Cl.part {τ : Tr} (hc : Cl τ) {x : Pt} {z : Int} (h : findsZ τ x = true) : Cl (partZ τ x z).1 := by
  have hth := there_part hc (z := z) h
  rcases finds_kind h with ⟨h1, ha, hn, hu⟩ | ⟨h2, hr, ht, hk⟩ | ⟨h3, ht⟩
  · simp only [if_pos h1] at hth
    refine ⟨fun q hq hne => ?_, fun q hq hne => ?_⟩
    · rcases (hth q).1 hq with rfl | hq
      · exact ha
      · exact hc.able q hq hne
    · rw [hth]; right
      rcases (hth q).1 hq with rfl | hq
      · exact hu
      · exact hc.closed q hq hne
  · have hk1 : ¬ x.kind = 1 := by omega
    simp only [if_neg hk1, if_pos h2] at hth
    refine ⟨fun q hq hne => hc.able q ((hth q).1 hq).1 hne, fun q hq hne => ?_⟩
    rw [hth]
    have hq2 := ((hth q).1 hq).1
    refine ⟨hc.closed q hq2 hne, fun e => ?_⟩
    exact kid_mem hq2 hne (by rw [e]; exact hk)
  · have hk1 : ¬ x.kind = 1 := by omega
    have hk2 : ¬ x.kind = 2 := by omega
    simp only [if_neg hk1, if_neg hk2] at hth
    exact ⟨fun q hq hne => hc.able q ((hth q).1 hq) hne, fun q hq hne => (hth _).2 (hc.closed q ((hth q).1 hq) hne)⟩
def delIn (p : Bs) (l : List Pz) : Prop := ∃ x ∈ l, x.1.kind = 2 ∧ x.1.path = p
def creIn (p : Bs) (l : List Pz) : Prop := ∃ x ∈ l, x.1.kind = 1 ∧ x.1.path = p
theorem not_del {p : Bs} {x : Pz} {l : List Pz} (h : ¬ delIn p (x :: l)) : ¬ delIn p l := fun ⟨y, hy, e⟩ => h ⟨y, List.mem_cons_of_mem _ hy, e⟩
theorem del_or {p : Bs} {x : Pz} {l : List Pz} (h : delIn p (x :: l)) : (x.1.kind = 2 ∧ x.1.path = p) ∨ delIn p l := by
  obtain ⟨y, hy, e⟩ := h
  rcases List.mem_cons.1 hy with rfl | hy
  · exact .inl e
  · exact .inr ⟨y, hy, e⟩
theorem cre_or {p : Bs} {x : Pz} {l : List Pz} (h : creIn p (x :: l)) : (x.1.kind = 1 ∧ x.1.path = p) ∨ creIn p l := by
  obtain ⟨y, hy, e⟩ := h
  rcases List.mem_cons.1 hy with rfl | hy
  · exact .inl e
  · exact .inr ⟨y, hy, e⟩
def core (n : Nd) : Int × Int × Int × Int := (n.st.cz, n.st.own, n.st.len, n.st.kids)
def gD (n : Nd) : Bs × Int × Int := (n.data, n.st.ver, n.st.mz)
def gA (n : Nd) : List Ac × Int := (n.acl, n.st.av)
def gK (n : Nd) : Int × Int := (n.st.cver, n.st.pz)
theorem nd_same {a b : Nd} (h1 : gD a = gD b) (h2 : gA a = gA b) (h3 : gK a = gK b) (h4 : core a = core b) : a = b := by
  obtain ⟨d, l, ⟨cz, mz, pz, ver, cver, av, own, len, kids⟩⟩ := a
  obtain ⟨d', l', ⟨cz', mz', pz', ver', cver', av', own', len', kids'⟩⟩ := b
  simp [gD, gA, gK, core] at h1 h2 h3 h4
  simp [h1, h2, h3, h4]
/-- One part, at one path that stays. -/
theorem part_stays {τ : Tr} (hc : Cl τ) {x : Pt} {z : Int} (h : findsZ τ x = true) {p : Bs} {n : Nd} (hp : alook τ.nodes p = some n) (hd : ¬ (x.kind = 2 ∧ x.path = p)) : ∃ m, alook (partZ τ x z).1.nodes p = some m ∧ core m = core n := by
  rcases finds_kind h with ⟨h1, ha, hn, hu⟩ | ⟨h2, hr, ht, hk⟩ | ⟨h3, ht⟩
  · rw [create_at h1 ha hu]
    have hne : ¬ p = x.path := fun e => hn (by rw [← e]; exact there_some.2 ⟨n, hp⟩)
    rw [if_neg hne, hp]
    split
    · exact ⟨_, rfl, rfl⟩
    · exact ⟨_, rfl, rfl⟩
  · have ha := hc.able _ ht hr
    rw [erase_at h2 ha]
    have hne : hitT p x.path = false := by
      cases e : hitT p x.path with
      | false => rfl
      | true => exact absurd ⟨h2, (no_below hc ha hk _ p (Nat.le_refl _) (there_some.2 ⟨n, hp⟩) e).symm⟩ hd
    rw [hne, hp]
    split
    · exact ⟨_, rfl, rfl⟩
    · exact ⟨_, rfl, rfl⟩
  · rcases h3 with h3 | h4
    · rw [set_at h3 ht, hp]
      split
      · exact ⟨_, rfl, rfl⟩
      · exact ⟨_, rfl, rfl⟩
    · rw [acl_at h4 ht, hp]
      split
      · exact ⟨_, rfl, rfl⟩
      · exact ⟨_, rfl, rfl⟩
theorem run_stays : ∀ {l : List Pz} {τ : Tr}, Cl τ → soundR τ l → ∀ {p : Bs} {n : Nd}, alook τ.nodes p = some n → ¬ delIn p l → ∃ m, alook (runP τ l).nodes p = some m ∧ core m = core n
  | [], _, _, _, _, n, hp, _ => ⟨n, hp, rfl⟩
  | x :: l, τ, hc, hs, p, n, hp, hd => by
    obtain ⟨m, h1, h2⟩ := part_stays (z := x.2) hc hs.1 hp (fun e => hd ⟨x, List.mem_cons_self, e⟩)
    obtain ⟨k, h3, h4⟩ := run_stays (hc.part hs.1) hs.2 h1 (not_del hd)
    exact ⟨k, h3, h4.trans h2⟩
theorem run_from : ∀ {l : List Pz} {τ : Tr}, Cl τ → soundR τ l → ∀ {p : Bs}, thereT (runP τ l) p → ¬ creIn p l → thereT τ p
  | [], _, _, _, _, h, _ => h
  | x :: l, τ, hc, hs, p, h, hn => by
    have h1 := run_from (hc.part (z := x.2) hs.1) hs.2 h (fun ⟨y, hy, e⟩ => hn ⟨y, List.mem_cons_of_mem _ hy, e⟩)
    rw [there_part hc hs.1] at h1
    split at h1
    · rename_i hk
      rcases h1 with rfl | h1
      · exact absurd ⟨x, List.mem_cons_self, hk, rfl⟩ hn
      · exact h1
    · split at h1
      · exact h1.1
      · exact h1
theorem kid_goes : ∀ {l : List Pz} {τ : Tr}, Cl τ → soundR τ l → ∀ {p : Bs}, thereT τ p → p ≠ [47] → delIn (parentZ p) l → delIn p l
  | [], _, _, _, _, _, _, ⟨_, hy, _⟩ => by cases hy
  | x :: l, τ, hc, hs, p, ht, hr, hd => by
    by_cases hx : x.1.kind = 2 ∧ x.1.path = p
    · exact ⟨x, List.mem_cons_self, hx⟩
    · have h1 : thereT (partZ τ x.1 x.2).1 p := by
        obtain ⟨n, hn⟩ := there_some.1 ht
        obtain ⟨m, hm, -⟩ := part_stays (z := x.2) hc hs.1 hn hx
        exact there_some.2 ⟨m, hm⟩
      rcases del_or hd with ⟨k, e⟩ | hd
      · rcases finds_kind hs.1 with ⟨g, -⟩ | ⟨-, -, -, hk⟩ | ⟨g, -⟩
        · omega
        · rw [e] at hk; exact absurd hk (kid_mem ht hr)
        · omega
      · obtain ⟨y, hy, e⟩ := kid_goes (hc.part hs.1) hs.2 h1 hr hd
        exact ⟨y, List.mem_cons_of_mem _ hy, e⟩
/-! ### The two runs side by side -/
def gOk (g s f : Nd) : Prop := (gD g = gD s ∨ gD g = gD f) ∧ (gA g = gA s ∨ gA g = gA f) ∧ (gK g = gK s ∨ gK g = gK f) ∧ core g = core f
structure Twin (S G F : Tr) (l : List Pz) : Prop where
  a : ∀ p s, alook S.nodes p = some s → ¬ delIn p l → ∃ g f, alook G.nodes p = some g ∧ alook F.nodes p = some f ∧ gOk g s f
  b : ∀ p, thereT G p → (thereT S p ∧ ¬ delIn p l) ∨ creIn p l ∨ delIn p l
theorem Twin.init {S : Tr} (hc : Cl S) {l : List Pz} (hs : soundR S l) : Twin S (runP S l) (runP S l) l := by
  refine ⟨fun p s hp hd => ?_, fun p hp => ?_⟩
  · obtain ⟨m, h1, -⟩ := run_stays hc hs hp hd
    exact ⟨m, m, h1, h1, .inr rfl, .inr rfl, .inr rfl, rfl⟩
  · by_cases h1 : creIn p l
    · exact .inr (.inl h1)
    · by_cases h2 : delIn p l
      · exact .inr (.inr h2)
      · exact .inl ⟨run_from hc hs hp h1, h2⟩
/-- A kid's trace at its parent, in both. -/
theorem gOk.kid {g s f : Nd} (h : gOk g s f) (num z : Int) : gOk (kidN num z g) (kidN num z s) f := ⟨h.1, h.2.1, .inl rfl, h.2.2.2⟩
theorem gOk.set {g s f : Nd} (h : gOk g s f) (d : Bs) (num z : Int) : gOk (setN d num z g) (setN d num z s) f := ⟨.inl rfl, h.2.1, h.2.2.1, h.2.2.2⟩
theorem gOk.acl {g s f : Nd} (h : gOk g s f) (l : List Ac) (num : Int) : gOk (aclN l num g) (aclN l num s) f := ⟨h.1, .inl rfl, h.2.2.1, h.2.2.2⟩
theorem Twin.step {S G F : Tr} (hc : Cl S) {x : Pz} {l : List Pz} (hf : findsZ S x.1 = true) (hs : soundR (partZ S x.1 x.2).1 l) (hF : F = runP (partZ S x.1 x.2).1 l) (h : Twin S G F (x :: l)) : Twin (partZ S x.1 x.2).1 (partZ G x.1 x.2).1 F l := by
  have hth := there_part hc (z := x.2) hf
  have hc' := hc.part (z := x.2) hf
  rcases finds_kind hf with ⟨h1, ha, hn, hu⟩ | ⟨h2, hr, ht, hk⟩ | ⟨h3, ht⟩
  · -- a node is made
    simp only [if_pos h1] at hth
    have hnd : ∀ q, delIn q (x :: l) ↔ delIn q l := fun q => ⟨fun g => (del_or g).resolve_left (by rintro ⟨g, -⟩; omega), fun ⟨y, hy, e⟩ => ⟨y, List.mem_cons_of_mem _ hy, e⟩⟩
    by_cases hG : thereT G (parentZ x.1.path)
    · refine ⟨fun p s hp hd => ?_, fun p hp => ?_⟩
      · rw [create_at h1 ha hu] at hp
        rw [create_at h1 ha hG]
        by_cases e2 : p = x.1.path
        · -- the new one
          have hpu : ¬ p = parentZ x.1.path := fun e => by
            have := parent_lt ha
            rw [← e, ← e2] at this; exact linB.irr _ this
          rw [if_neg hpu, if_pos e2] at hp ⊢
          cases hp
          have hp2 : alook (partZ S x.1 x.2).1.nodes p = some (newN x.1 x.2) := by rw [create_at h1 ha hu, if_neg hpu, if_pos e2]
          obtain ⟨f, hf1, hf2⟩ := run_stays hc' hs hp2 hd
          rw [← hF] at hf1
          exact ⟨_, f, rfl, hf1, .inl rfl, .inl rfl, .inl rfl, hf2.symm⟩
        · rw [if_neg e2] at hp ⊢
          by_cases e1 : p = parentZ x.1.path
          · rw [if_pos e1] at hp ⊢
            obtain ⟨s0, hs0, rfl⟩ := map_some hp
            obtain ⟨g, f, k1, k2, k3⟩ := h.a p s0 hs0 (fun g => hd ((hnd p).1 g))
            rw [k1]
            exact ⟨_, f, rfl, k2, k3.kid _ _⟩
          · rw [if_neg e1] at hp ⊢
            exact h.a p s hp (fun g => hd ((hnd p).1 g))
      · have hp' : p = x.1.path ∨ thereT G p := by
          by_cases e2 : p = x.1.path
          · exact .inl e2
          · right
            unfold thereT at hp ⊢
            rw [create_at h1 ha hG, if_neg e2] at hp
            split at hp
            · simpa using hp
            · exact hp
        by_cases e2 : p = x.1.path
        · by_cases hd : delIn p l
          · exact .inr (.inr hd)
          · exact .inl ⟨(hth p).2 (.inl e2), hd⟩
        · rcases h.b p (hp'.resolve_left e2) with ⟨k1, k2⟩ | k | k
          · exact .inl ⟨(hth p).2 (.inr k1), fun g => k2 ((hnd p).2 g)⟩
          · exact .inr (.inl ((cre_or k).resolve_left (fun g => e2 g.2.symm)))
          · exact .inr (.inr ((hnd p).1 k))
    · -- its parent is not there: it will go
      have hsame : (partZ G x.1 x.2).1 = G := by
        unfold partZ createZ
        rw [if_pos h1, if_neg (fun g => hG g.2)]
      have hdu : delIn (parentZ x.1.path) l := by
        apply Classical.byContradiction
        intro g
        obtain ⟨n, hn2⟩ := there_some.1 hu
        obtain ⟨g0, f, k1, -, -⟩ := h.a _ n hn2 (fun k => g ((hnd _).1 k))
        exact hG (there_some.2 ⟨g0, k1⟩)
      have hdp : delIn x.1.path l := kid_goes hc' hs ((hth _).2 (.inl rfl)) ha.1 hdu
      rw [hsame]
      refine ⟨fun p s hp hd => ?_, fun p hp => ?_⟩
      · rw [create_at h1 ha hu] at hp
        by_cases e2 : p = x.1.path
        · exact absurd (by rw [e2]; exact hdp) hd
        · rw [if_neg e2] at hp
          by_cases e1 : p = parentZ x.1.path
          · exact absurd (by rw [e1]; exact hdu) hd
          · rw [if_neg e1] at hp
            exact h.a p s hp (fun g => hd ((hnd p).1 g))
      · rcases h.b p hp with ⟨k1, k2⟩ | k | k
        · exact .inl ⟨(hth p).2 (.inr k1), fun g => k2 ((hnd p).2 g)⟩
        · rcases cre_or k with ⟨-, e⟩ | k
          · exact .inr (.inr (by rw [← e]; exact hdp))
          · exact .inr (.inl k)
        · exact .inr (.inr ((hnd p).1 k))
  · -- a node is erased
    have hk1 : ¬ x.1.kind = 1 := by omega
    simp only [if_neg hk1, if_pos h2] at hth
    have ha := hc.able _ ht hr
    refine ⟨fun p s hp hd => ?_, fun p hp => ?_⟩
    · have hpt : thereT (partZ S x.1 x.2).1 p := there_some.2 ⟨s, hp⟩
      obtain ⟨hpS, hpne⟩ := (hth p).1 hpt
      have hhit : hitT p x.1.path = false := by
        cases e : hitT p x.1.path with
        | false => rfl
        | true => exact absurd (no_below hc ha hk _ p (Nat.le_refl _) hpS e) hpne
      have hd2 : ¬ delIn p (x :: l) := fun g => (del_or g).elim (fun g => hpne g.2.symm) hd
      rw [erase_at h2 ha, hhit] at hp
      rw [erase_at h2 ha, hhit]
      by_cases e1 : p = parentZ x.1.path
      · rw [if_pos e1] at hp ⊢
        obtain ⟨s0, hs0, rfl⟩ := map_some hp
        obtain ⟨g, f, k1, k2, k3⟩ := h.a p s0 hs0 hd2
        refine ⟨_, f, ?_, k2, k3.kid _ _⟩
        rw [if_neg (by decide), k1]; rfl
      · rw [if_neg e1] at hp ⊢
        obtain ⟨g, f, k1, k2, k3⟩ := h.a p s hp hd2
        exact ⟨g, f, k1, k2, k3⟩
    · have hp' : thereT G p ∧ hitT p x.1.path = false := by
        unfold thereT at hp ⊢
        rw [erase_at h2 ha] at hp
        cases e : hitT p x.1.path with
        | false => rw [e] at hp; split at hp <;> simpa using hp
        | true => rw [e] at hp; split at hp <;> simp at hp
      have hpne : p ≠ x.1.path := fun e => by rw [e, hit_self] at hp'; exact absurd hp'.2 (by decide)
      rcases h.b p hp'.1 with ⟨k1, k2⟩ | k | k
      · exact .inl ⟨(hth p).2 ⟨k1, hpne⟩, not_del k2⟩
      · exact .inr (.inl ((cre_or k).resolve_left (fun g => hpne g.2.symm)))
      · exact .inr (.inr ((del_or k).resolve_left (fun g => hpne g.2.symm)))
  · -- a node is changed
    have hk1 : ¬ x.1.kind = 1 := by omega
    have hk2 : ¬ x.1.kind = 2 := by omega
    simp only [if_neg hk1, if_neg hk2] at hth
    have hnd : ∀ q, delIn q (x :: l) ↔ delIn q l := fun q => ⟨fun g => (del_or g).resolve_left (by rintro ⟨g, -⟩; omega), fun ⟨y, hy, e⟩ => ⟨y, List.mem_cons_of_mem _ hy, e⟩⟩
    have hthG : ∀ q, thereT (partZ G x.1 x.2).1 q ↔ thereT G q := by
      intro q
      by_cases hG : thereT G x.1.path
      · unfold thereT
        rcases h3 with h3 | h4
        · rw [set_at h3 hG]; split <;> simp
        · rw [acl_at h4 hG]; split <;> simp
      · have : (partZ G x.1 x.2).1 = G := by
          unfold partZ
          rw [if_neg hk1, if_neg hk2, if_neg (fun g => hG g.2), if_neg (fun g => hG g.2)]
        rw [this]
    refine ⟨fun p s hp hd => ?_, fun p hp => ?_⟩
    · have hd2 : ¬ delIn p (x :: l) := fun g => hd ((hnd p).1 g)
      have key : ∀ (F1 : Nd → Nd), (∀ q, alook (partZ S x.1 x.2).1.nodes q = if q = x.1.path then (alook S.nodes q).map F1 else alook S.nodes q) → (thereT G x.1.path → ∀ q, alook (partZ G x.1 x.2).1.nodes q = if q = x.1.path then (alook G.nodes q).map F1 else alook G.nodes q) → (∀ g s f, gOk g s f → gOk (F1 g) (F1 s) f) → ∃ g f, alook (partZ G x.1 x.2).1.nodes p = some g ∧ alook F.nodes p = some f ∧ gOk g s f := by
        intro F1 kS kG kF
        rw [kS] at hp
        by_cases e : p = x.1.path
        · rw [if_pos e] at hp
          obtain ⟨s0, hs0, rfl⟩ := map_some hp
          obtain ⟨g, f, k1, k2, k3⟩ := h.a p s0 hs0 hd2
          refine ⟨F1 g, f, ?_, k2, kF _ _ _ k3⟩
          rw [kG (there_some.2 ⟨g, by rw [← e]; exact k1⟩), if_pos e, k1]; rfl
        · rw [if_neg e] at hp
          obtain ⟨g, f, k1, k2, k3⟩ := h.a p s hp hd2
          refine ⟨g, f, ?_, k2, k3⟩
          by_cases hG : thereT G x.1.path
          · rw [kG hG, if_neg e]; exact k1
          · have : (partZ G x.1 x.2).1 = G := by
              unfold partZ
              rw [if_neg hk1, if_neg hk2, if_neg (fun g => hG g.2), if_neg (fun g => hG g.2)]
            rw [this]; exact k1
      rcases h3 with h3 | h4
      · exact key _ (fun q => set_at h3 ht q) (fun hG q => set_at h3 hG q) (fun g s f k => k.set _ _ _)
      · exact key _ (fun q => acl_at h4 ht q) (fun hG q => acl_at h4 hG q) (fun g s f k => k.acl _ _)
    · rcases h.b p ((hthG p).1 hp) with ⟨k1, k2⟩ | k | k
      · exact .inl ⟨(hth p).2 k1, fun g => k2 ((hnd p).2 g)⟩
      · exact .inr (.inl ((cre_or k).resolve_left (by rintro ⟨g, -⟩; exact hk1 g)))
      · exact .inr (.inr ((hnd p).1 k))
theorem Twin.run : ∀ {l : List Pz} {S G F : Tr}, Cl S → soundR S l → F = runP S l → Twin S G F l → ∀ p, alook (runP G l).nodes p = alook F.nodes p
  | [], S, G, F, _, _, hF, h, p => by
    have hF : F = S := hF
    rw [hF] at h ⊢
    rcases e : alook S.nodes p with _ | s
    · rcases e2 : alook G.nodes p with _ | g
      · exact e2
      · rcases h.b p (there_some.2 ⟨g, e2⟩) with ⟨k, -⟩ | ⟨_, hy, -⟩ | ⟨_, hy, -⟩
        · obtain ⟨n, hn⟩ := there_some.1 k
          rw [e] at hn; cases hn
        · cases hy
        · cases hy
    · obtain ⟨g, f, k1, k2, k3, k4, k5, k6⟩ := h.a p s e (fun ⟨_, hy, _⟩ => by cases hy)
      have k3' := k2
      rw [e] at k3'
      cases k3'
      have : g = s := nd_same (k3.elim id id) (k4.elim id id) (k5.elim id id) k6
      subst this
      exact k1
  | x :: l, S, G, F, hc, hs, hF, h, p => Twin.run (hc.part hs.1) hs.2 hF (h.step hc hs.1 hs.2 hF) p
/-! ### Entries as parts -/
def flatE (e : En) : List Pz :=
  if e.x.kind = 6 ∨ e.x.kind = 7 then e.subs.map fun y => (y, e.zx)
  else if 1 ≤ e.x.kind ∧ e.x.kind ≤ 4 then [(e.x, e.zx)] else []
theorem runP_parts (τ : Tr) (z : Int) (l : List Pt) : runP τ (l.map fun y => (y, z)) = (partsZ τ z l).1 := by
  have : ∀ (l : List Pt) (r : Tr × List Ev), runP r.1 (l.map fun y => (y, z)) = (l.foldl (fun r x => ((partZ r.1 x z).1, r.2 ++ (partZ r.1 x z).2)) r).1 := by
    intro l
    induction l with
    | nil => intro r; rfl
    | cons x l ih => intro r; rw [List.map_cons, List.foldl_cons]; exact ih ((partZ r.1 x z).1, r.2 ++ (partZ r.1 x z).2)
  exact this l (τ, [])
theorem runP_app (τ : Tr) (l m : List Pz) : runP τ (l ++ m) = runP (runP τ l) m := by
  induction l generalizing τ with
  | nil => rfl
  | cons x l ih => exact ih _
theorem runP_zx (τ : Tr) (z : Int) (l : List Pz) : (runP (zxT τ z) l).nodes = (runP τ l).nodes := by
  have : runP (zxT τ z) l = zxT (runP τ l) z := by
    induction l generalizing τ with
    | nil => rfl
    | cons x l ih => show runP (partZ (zxT τ z) x.1 x.2).1 l = _; rw [part_zx']; exact ih _
  rw [this]; rfl
theorem runP_ss (τ : Tr) (s : List (Int × (Int × Bs))) (l : List Pz) : (runP (setS τ s) l).nodes = (runP τ l).nodes := by
  have : runP (setS τ s) l = setS (runP τ l) s := by
    induction l generalizing τ with
    | nil => rfl
    | cons x l ih => show runP (partZ (setS τ s) x.1 x.2).1 l = _; rw [part_ss]; exact ih _
  rw [this]; rfl
theorem runP_nodes {τ υ : Tr} (h : τ.nodes = υ.nodes) (l : List Pz) : (runP τ l).nodes = (runP υ l).nodes := by
  have : υ = zxT (setS τ υ.sess) υ.zx := Tr.ext' h.symm rfl rfl
  rw [this, runP_zx, runP_ss]
/-- What an entry of a history does to the nodes of any tree. -/
theorem app_flat {σ : Tr} {K : Int} {e : En} (he : EntH σ e K) (τ : Tr) : (appE τ e).nodes = (runP τ (flatE e)).nodes := by
  unfold flatE
  rcases he.shape with ⟨hs, hp⟩ | ⟨hk, -⟩ | ⟨hk, hc, -⟩ | ⟨hk, -⟩ | ⟨hk, -⟩
  · have hkk := hp.kind
    rw [app_part (.inl hkk.2), if_neg (by omega)]
    by_cases h0 : e.x.kind = 0
    · rw [if_neg (by omega), part_zero h0]; rfl
    · rw [if_pos (by omega)]; rfl
  · rw [if_neg (by omega), if_neg (by omega)]
    show (appE τ e).nodes = τ.nodes
    unfold appE applyZ; dsimp only; rw [if_pos hk]; split <;> rfl
  · rw [app_close hk hc.kinds, if_pos (.inl hk), runP_parts]; rfl
  · rw [app_multi hk, if_pos (.inr hk), runP_parts]; rfl
  · rw [app_err hk, if_neg (by omega), if_neg (by omega)]; rfl
theorem soundR_of {zx : Int} {cl : Bool} : ∀ {l : List Pt} {τ : Tr}, soundL τ zx cl l = true → soundR τ (l.map fun y => (y, zx))
  | [], _, _ => trivial
  | x :: l, τ, h => by
    unfold soundL at h
    simp only [Bool.and_eq_true] at h
    exact ⟨h.1.1, soundR_of h.2⟩
theorem flat_sound {τ : Tr} {K : Int} {e : En} (he : EntH τ e K) : soundR τ (flatE e) := by
  unfold flatE
  split
  · rename_i hk
    exact soundR_of (sound_parts he.sound hk)
  split
  · rename_i h1 h2
    have := he.sound
    unfold soundZ at this
    rw [if_pos (by omega)] at this
    exact ⟨this, trivial⟩
  · trivial
theorem HInv.cl {τ : Tr} {K : Int} (h : HInv τ K) : Cl τ := ⟨fun _ ht hq => h.able ht hq, h.closed⟩
theorem soundR_app : ∀ {l m : List Pz} {τ : Tr}, soundR τ l → soundR (runP τ l) m → soundR τ (l ++ m)
  | [], _, _, _, h => h
  | _ :: _, _, _, h1, h2 => ⟨h1.1, soundR_app h1.2 h2⟩
theorem thereT_nodes {τ υ : Tr} (h : τ.nodes = υ.nodes) (p : Bs) : thereT τ p ↔ thereT υ p := by unfold thereT; rw [h]
theorem finds_nodes {τ υ : Tr} (h : τ.nodes = υ.nodes) (x : Pt) : findsZ τ x = findsZ υ x := by
  have : υ = zxT (setS τ υ.sess) υ.zx := Tr.ext' h.symm rfl rfl
  rw [this]; rfl
theorem soundR_nodes : ∀ {l : List Pz} {τ υ : Tr}, τ.nodes = υ.nodes → soundR τ l → soundR υ l
  | [], _, _, _, _ => trivial
  | x :: l, τ, υ, h, hs => ⟨by rw [← finds_nodes h]; exact hs.1, soundR_nodes (runP_nodes h [x]) hs.2⟩
theorem Cl.nodes {τ υ : Tr} (hc : Cl τ) (h : τ.nodes = υ.nodes) : Cl υ := ⟨fun q hq => hc.able q ((thereT_nodes h q).2 hq), fun q hq hne => (thereT_nodes h _).1 (hc.closed q ((thereT_nodes h q).2 hq) hne)⟩
/-- The end of a history. -/
structure Ends (S : Tr) (l : List En) : Prop where
  K : ∃ K, HInv S K
  each : ∀ i (hi : i < l.length), ∃ K, EntH (appL S (l.take i)) l[i] K
theorem Ends.tail {S : Tr} {e : En} {l : List En} (h : Ends S (e :: l)) : Ends (appE S e) l := by
  obtain ⟨K0, h0⟩ := h.K
  obtain ⟨K1, h1⟩ := h.each 0 (by simp)
  refine ⟨⟨max K0 K1 + 60, ?_⟩, fun i hi => ?_⟩
  · have h1' : EntH S e (max K0 K1) := by
      have h2 : EntH S e K1 := h1
      refine ⟨h2.sound, ?_, h2.ses, h2.cells⟩
      rcases h2.shape with ⟨a, b⟩ | ⟨a, b, c, d, f, g, i⟩ | ⟨a, b, c, d, f, g, i⟩ | ⟨a, b, c, d, f, g⟩ | ⟨a, b, c, d, f, g, i⟩
      · exact .part a (b.more (by omega))
      · exact .opens a b c d f g i
      · exact .close a b (fun j hj => (c j hj).more (by omega)) d f g i
      · exact .multi a (fun j hj => (b j hj).more (by omega)) c d f g
      · exact .error a b c d f g i
    exact (h0.more (by omega)).app h1'
  · obtain ⟨K, hK⟩ := h.each (i + 1) (by simpa using hi)
    exact ⟨K, hK⟩
def flatL (l : List En) : List Pz := l.flatMap flatE
theorem ends_flat : ∀ {l : List En} {S : Tr}, Ends S l → soundR S (flatL l) ∧ (appL S l).nodes = (runP S (flatL l)).nodes ∧ ∀ G : Tr, (appL G l).nodes = (runP G (flatL l)).nodes
  | [], _, _ => ⟨trivial, rfl, fun _ => rfl⟩
  | e :: l, S, h => by
    obtain ⟨K, hK⟩ := h.each 0 (by simp)
    have hK' : EntH S e K := hK
    obtain ⟨h1, h2, h3⟩ := ends_flat h.tail
    have hall : ∀ G : Tr, (appL G (e :: l)).nodes = (runP G (flatL (e :: l))).nodes := fun G => by
      show (appL (appE G e) l).nodes = (runP G (flatE e ++ flatL l)).nodes
      rw [h3 (appE G e), runP_app]
      exact runP_nodes (app_flat hK' G) _
    refine ⟨?_, hall S, hall⟩
    show soundR S (flatE e ++ flatL l)
    exact soundR_app (flat_sound hK') (soundR_nodes (app_flat hK' S) h1)
/-! ### Sessions -/
def sesL (s : List (Int × (Int × Bs))) (l : List En) : List (Int × (Int × Bs)) := l.foldl sesE s
theorem appL_sess : ∀ (l : List En) (τ : Tr), (appL τ l).sess = sesL τ.sess l
  | [], _ => rfl
  | e :: l, τ => by
    show (appL (appE τ e) l).sess = sesL (sesE τ.sess e) l
    rw [appL_sess l, app_sess]
theorem sesL_at : ∀ (l : List En) (i : Int), (∀ s, alook (sesL s l) i = alook s i) ∨ ∃ r, ∀ s, alook (sesL s l) i = r
  | [], i => .inl fun _ => rfl
  | e :: l, i => by
    rcases sesL_at l i with h | ⟨r, h⟩
    · have key : ∀ s, alook (sesL s (e :: l)) i = alook (sesE s e) i := fun s => h (sesE s e)
      by_cases h5 : e.x.kind = 5 ∧ 0 < e.x.own ∧ i = e.x.own
      · exact .inr ⟨some (e.x.num, e.x.data), fun s => by rw [key, sesE_at, if_pos h5]⟩
      · by_cases h6 : e.x.kind = 6 ∧ i = e.x.own
        · exact .inr ⟨none, fun s => by rw [key, sesE_at, if_neg h5, if_pos h6]⟩
        · exact .inl fun s => by rw [key, sesE_at, if_neg h5, if_neg h6]
    · exact .inr ⟨r, fun s => h (sesE s e)⟩
theorem sesL_again (s : List (Int × (Int × Bs))) (l : List En) (i : Int) : alook (sesL (sesL s l) l) i = alook (sesL s l) i := by
  rcases sesL_at l i with h | ⟨r, h⟩
  · rw [h]
  · rw [h, h]
theorem appL_zx : ∀ (l : List En) (τ : Tr), (appL τ l).zx = (l.getLast?.map (·.zx)).getD τ.zx := by
  intro l
  induction l using snocInd with
  | h0 => intro τ; rfl
  | h1 l e _ => intro τ; rw [appL_snoc, app_zx]; simp
theorem EnSz.ok {τ : Tr} {N : Nat} (h : τ.Ok N) {e : En} (he : EnSz e) : (appE τ e).Ok (N + 61) :=
  (h.apply e.zx e.x e.subs (by have := he.acl; omega) (fun y hy => by have := (he.each y hy).1; omega)).more (by have := he.few; omega)
theorem run_ok : ∀ {l : List En} {τ : Tr} {N : Nat}, τ.Ok N → (∀ e ∈ l, EnSz e) → (appL τ l).Ok (N + 61 * l.length)
  | [], _, _, h, _ => h
  | e :: l, τ, N, h, hl => (run_ok ((hl e List.mem_cons_self).ok h) (fun x hx => hl x (List.mem_cons_of_mem _ hx))).more (by rw [List.length_cons]; omega)
/-- The law. -/
theorem again {S : Tr} {l : List En} (h : Ends S l) (hsz : ∀ e ∈ l, EnSz e) : appL (appL S l) l = appL S l := by
  obtain ⟨K, hK⟩ := h.K
  obtain ⟨h1, h2, h3⟩ := ends_flat h
  have hF := run_ok hK.ok hsz
  have hG := run_ok hF hsz
  refine Tr.ext' (sorted_same linB hG.sorted hF.sorted fun p => ?_) (sorted_same linI hG.ssorted hF.ssorted fun i => ?_) ?_
  · rw [h3, h2, runP_nodes h2]
    exact Twin.run hK.cl h1 rfl (Twin.init hK.cl h1) p
  · rw [appL_sess, appL_sess]
    exact sesL_again _ _ _
  · rw [appL_zx, appL_zx]
    cases l.getLast? <;> rfl
theorem Hist.ends {z0 : Int} {es : List En} {τ : Tr} (h : Hist z0 es τ) {k : Nat} (hk : k ≤ es.length) : Ends (appL newT (es.take k)) (es.drop k) := by
  refine ⟨⟨_, (h.take k hk).inv⟩, fun i hi => ?_⟩
  rw [List.length_drop] at hi
  have h1 := (h.at (k + i) (by omega)).1
  refine ⟨60 * (k + i : Nat), ?_⟩
  rw [List.getElem_drop]
  have e : appL (appL newT (es.take k)) ((es.drop k).take i) = appL newT (es.take (k + i)) := by
    unfold appL
    rw [← List.foldl_append, List.take_add]
  rw [e]; exact h1
/-- In a history: from any entry on. -/
theorem Hist.again {z0 : Int} {es : List En} {τ : Tr} (h : Hist z0 es τ) {k : Nat} (hk : k ≤ es.length) : appL τ (es.drop k) = τ := by
  have hsz : ∀ e ∈ es.drop k, EnSz e := fun e he => by
    obtain ⟨i, hi, rfl⟩ := List.mem_iff_getElem.1 (List.mem_of_mem_drop he)
    exact (h.at i hi).1.shape.sz
  have e : appL (appL newT (es.take k)) (es.drop k) = τ := by
    unfold appL
    rw [← List.foldl_append, List.take_append_drop]
    exact h.tree.symm
  have := Go.Proofs.YtnnbelmpbmfdnaaGreatDoor.again (h.ends hk) hsz
  rw [e] at this; exact this
end Go.Proofs.YtnnbelmpbmfdnaaGreatDoor

/- Own work: slices.Compact at []int, out of the shelf's contract, for a slice that is owned. -/

namespace Go.Proofs.YtnnbelmpbmfdnaaGreatDoor
open Go Go.Sort

abbrev compI (l : List Int) : List Int := Lib.compact l
theorem compact_fn {P : Program} {ρ : Go.Shelf.Ren} (LM : Lays2.n20 P ρ) (e : TypeId) (v : Value) (n : Nat) (xs : List Int) (hn : n < 4611686018427387904) :
    Fn P (ρ.f 20) #[v] [slR e 1 v n (xs.map vint)] fun u L => (∃ a c, u = .slice a (compI xs).length c) ∧ L = [slR e 1 u (compI xs).length ((compI xs).map vint)] := by
  intro F w hs
  have hs' : St ((fun h => ∃ y : List Value × (Nat × Nat) × (Option (Nat × Nat)), (y.2.2 = none ∧ v = .slice none 0 0 ∧ n = 0 ∧ xs = []) ∨ (∃ b cap, y.2.2 = some (b, cap) ∧ v = .slice (some ⟨b, 0, none⟩) n cap ∧ h b = some (.cells (List.toArray (xs.map vint ++ y.1)) e y.2.1) ∧ xs.length = n ∧ cap ≤ xs.length + y.1.length ∧ n ≤ cap ∧ nfz y.2.1 0 cap)) :: F) w := by
    refine sep_imp (fun h hp => ?_) hs
    rcases hp with ⟨h1, h2, h3⟩ | ⟨b, cap, rest, fr, h1, h2, h3, h4, h5, h6⟩
    · exact ⟨([], (0, 0), none), .inl ⟨rfl, h1, h2, by simpa using h3⟩⟩
    · exact ⟨(rest, fr, some (b, cap)), .inr ⟨b, cap, rfl, h1, h2, by simpa using h3, by simpa using h4, h5, by simpa using h6⟩⟩
  obtain ⟨⟨rest, fr, o⟩, h1, h2, hd, a1, a2, hp, hF⟩ := sep_ex hs'
  rcases hp with ⟨-, rfl, rfl, rfl⟩ | ⟨b, cap, -, rfl, p1, p2, p3, p4, p5⟩
  · refine (Any.slices_Compact_int_empty LM none 0 w).mono ?_
    rintro en w' ⟨rfl, rfl⟩
    have e0 : compI [] = [] := rfl
    exact ⟨_, _, ⟨⟨none, 0, by rw [e0]; rfl⟩, by rw [e0]; rfl⟩, rfl, hs, .refl _⟩
  · subst p2
    have hb := a1 _ _ p1
    have hH : Holds (Value.int .i64) w b 0 xs.toArray := by
      intro j hj
      have hj' : j < xs.length := by simpa using hj
      have hb' : w.heap[b]? = some (.cells (xs.map vint ++ rest).toArray e fr) := hb
      refine ⟨?_, ?_⟩
      · simp only [World.cell?, hb', Nat.zero_add, Option.isSome_none, Bool.false_eq_true, if_false]
        rw [List.getElem?_toArray, List.getElem?_append_left (by simpa using hj')]
        simp [hj']
      · have := p5 j (by omega) (by dsimp only at p3 p4 ⊢; omega)
        simp only [World.frozen?, hb', Nat.zero_add]
        simpa using this
    refine (Any.slices_Compact_int LM b 0 cap xs w hH (by omega) p4).mono ?_
    rintro en w' ⟨rfl, k, rfl⟩
    have hle := Lib.compact_length_le xs
    generalize hcs : Lib.compact xs = cs at hle
    have hcl : (cs ++ List.replicate (xs.length - cs.length) 0).length = xs.length := by rw [List.length_append, List.length_replicate]; omega
    refine ⟨_, _, ⟨⟨_, _, by unfold compI; rw [hcs]⟩, rfl⟩, rfl, ?_, ?_⟩
    · have h2b : h2 b = none := (hd b).resolve_left (by rw [p1]; simp)
      have hnew : (putRow (Value.int .i64) (Sort.ahead w k) b 0 (cs ++ List.replicate (xs.length - cs.length) 0).toArray).heap[b]? = some (.cells (putCells (Value.int .i64) 0 (cs ++ List.replicate (xs.length - cs.length) 0).toArray (xs.map vint ++ rest).toArray) e fr) := by
        have hb2 : w.heap[b]? = some (.cells (xs.map vint ++ rest).toArray e fr) := hb
        simp [putRow, mapBlock, Sort.ahead, Array.getElem?_modify, hb2, onCells]
      have hrow : (putCells (Value.int .i64) 0 (cs ++ List.replicate (xs.length - cs.length) 0).toArray (xs.map vint ++ rest).toArray) = (cs.map vint ++ ((List.replicate (xs.length - cs.length) (0 : Int)).map vint ++ rest)).toArray := by
        rw [← List.append_assoc, ← List.map_append]
        generalize cs ++ List.replicate (xs.length - cs.length) 0 = ts at hcl
        apply Array.ext_getElem?
        intro j
        simp only [putCells, Array.getElem?_mapIdx, List.getElem?_toArray, Nat.zero_le, true_and, Nat.zero_add, Nat.sub_zero, List.size_toArray]
        by_cases hj : j < xs.length
        · rw [List.getElem?_append_left (by simpa using hj), List.getElem?_append_left (by simpa [hcl] using hj)]
          simp [hj, hcl]
        · rw [List.getElem?_append_right (by simp; omega), List.getElem?_append_right (by simp [hcl]; omega)]
          simp [hj, hcl]
      refine ⟨fun c => if c = b then some (.cells (cs.map vint ++ ((List.replicate (xs.length - cs.length) (0 : Int)).map vint ++ rest)).toArray e fr) else none, h2, fun c => ?_, fun c o e => ?_, fun c o hc => ?_, ?_, hF⟩
      · by_cases e : c = b
        · exact .inr (e ▸ h2b)
        · exact .inl (if_neg e)
      · by_cases hc : c = b
        · subst hc
          dsimp only at e
          rw [if_pos rfl] at e
          obtain rfl := Option.some.inj e
          rw [← hrow]; exact hnew
        · simp [hc] at e
      · have hcb : c ≠ b := by rintro rfl; rw [h2b] at hc; cases hc
        have hold := a2 _ _ hc
        show (putRow (Value.int .i64) (Sort.ahead w k) b 0 _).heap[c]? = _
        have hold2 : w.heap[c]? = some o := hold
        simp [putRow, mapBlock, Sort.ahead, Array.getElem?_modify, Ne.symm hcb, hold2]
      · unfold compI; rw [hcs]
        refine .inr ⟨b, cap, _, fr, rfl, if_pos rfl, by simp, ?_, by omega, by simpa using p5⟩
        simp at p3 ⊢; omega
    · refine ⟨rfl, rfl, rfl, ?_⟩
      show w.heap.size ≤ (putRow (Value.int .i64) (Sort.ahead w k) b 0 _).heap.size
      simp [putRow, mapBlock, Sort.ahead]
end Go.Proofs.YtnnbelmpbmfdnaaGreatDoor

/- Own work: a table of watches as plain data, and what stands for it in memory. -/

namespace Go.Proofs.YtnnbelmpbmfdnaaGreatDoor
open Go

abbrev Spot := Int × Bs
abbrev Wt := Int × Spot
def spotV (s : Spot) : Value := .agg #[vint s.1, vstr s.2]
def cntW (ω : List Wt) (s : Int) : Nat := (ω.filter fun w => decide (w.1 = s)).length
def rmW (ω : List Wt) (w : Wt) : List Wt := ω.filter fun x => decide (x ≠ w)
def isWt (k : Int) (p : Bs) : Prop := 1 ≤ k ∧ k ≤ 3 ∧ checkZ p = 0
instance (k : Int) (p : Bs) : Decidable (isWt k p) := inferInstanceAs (Decidable (_ ∧ _))
def addW (ω : List Wt) (s k : Int) (p : Bs) : List Wt × Int :=
  if s < 1 ∨ ¬ isWt k p then (ω, 1) else if (s, (k, p)) ∈ ω then (ω, 0) else if cntW ω s = 64 then (ω, 91) else (ω ++ [(s, (k, p))], 0)
def kindsZ (e : Int) : List Int := if e = 1 then [2] else if e = 2 then [1, 2, 3] else if e = 3 then [1, 2] else if e = 4 then [3] else []
def meetW (k : Int) (p : Bs) (w : Wt) : Bool := decide (w.2.2 = p) && decide (w.2.1 ∈ kindsZ k)
def tellW (ω : List Wt) (k : Int) (p : Bs) : List Int := compI (sortI ((ω.filter (meetW k p)).map (·.1)))
def leftW (ω : List Wt) (k : Int) (p : Bs) : List Wt := ω.filter fun w => !meetW k p w
def dropW (ω : List Wt) (s : Int) : List Wt := ω.filter fun w => decide (w.1 ≠ s)
theorem comp_mem (l : List Int) (x : Int) : x ∈ compI l ↔ x ∈ l := by
  have key : ∀ j (hj : j < l.length), l[j] ∈ compI l := by
    intro j
    induction j with
    | zero =>
      intro hj
      refine List.mem_map.2 ⟨0, List.mem_filter.2 ⟨List.mem_range.2 hj, by simp [Lib.keeps]⟩, by simp [hj]⟩
    | succ j ih =>
      intro hj
      by_cases hk : Lib.keeps l.toArray (j + 1) = true
      · exact List.mem_map.2 ⟨j + 1, List.mem_filter.2 ⟨List.mem_range.2 hj, hk⟩, by simp [hj]⟩
      · have := ih (by omega)
        simp [Lib.keeps, hj, show j < l.length by omega] at hk
        rw [hk]; exact this
  constructor
  · intro h
    obtain ⟨j, hj, rfl⟩ := List.mem_map.1 h
    have hj2 := List.mem_range.1 (List.mem_filter.1 hj).1
    simp [hj2]
  · intro h
    obtain ⟨j, hj, rfl⟩ := List.mem_iff_getElem.1 h
    exact key j hj
theorem comp_sorted {l : List Int} (hs : l.Pairwise (· ≤ ·)) : (compI l).Pairwise (· < ·) := by
  show (((List.range l.length).filter (Lib.keeps l.toArray)).map (l.toArray[·]!)).Pairwise (· < ·)
  rw [List.pairwise_map, List.pairwise_filter]
  refine List.Pairwise.imp_of_mem (R := fun a b : Nat => a < b) ?_ List.pairwise_lt_range
  intro i j hi hj hij _ hk
  have hi2 := List.mem_range.1 hi
  have hj2 := List.mem_range.1 hj
  have hle := List.pairwise_iff_getElem.1 hs
  have h1 : l[i] ≤ l[j - 1]'(by omega) := by
    rcases Nat.lt_or_ge i (j - 1) with h | h
    · exact hle i (j - 1) hi2 (by omega) h
    · have : i = j - 1 := by omega
      subst this; exact Int.le_refl _
  have h2 : l[j - 1]'(by omega) ≤ l[j] := hle (j - 1) j (by omega) hj2 (by omega)
  have h3 : l[j] ≠ l[j - 1]'(by omega) := by
    simp [Lib.keeps, hj2, show j - 1 < l.length by omega] at hk
    rcases hk with hk | hk
    · omega
    · exact hk
  simp [hi2, hj2]; omega
theorem sortI_sorted (l : List Int) : (sortI l).Pairwise (· ≤ ·) := by
  have := List.pairwise_mergeSort (le := fun x y : Int => decide (x ≤ y)) (fun a b c h1 h2 => by simp only [decide_eq_true_eq] at *; omega) (fun a b => by simp only [Bool.or_eq_true, decide_eq_true_eq]; omega) l
  exact this.imp (fun h => by simpa using h)
theorem tell_sorted (ω : List Wt) (k : Int) (p : Bs) : (tellW ω k p).Pairwise (· < ·) := comp_sorted (sortI_sorted _)
theorem tell_mem {ω : List Wt} {k : Int} {p : Bs} {s : Int} : s ∈ tellW ω k p ↔ ∃ w ∈ ω, meetW k p w = true ∧ w.1 = s := by
  unfold tellW
  rw [comp_mem, sortI_mem, List.mem_map]
  constructor
  · rintro ⟨w, hw, rfl⟩; exact ⟨w, (List.mem_filter.1 hw).1, (List.mem_filter.1 hw).2, rfl⟩
  · rintro ⟨w, hw, hm, rfl⟩; exact ⟨w, List.mem_filter.2 ⟨hw, hm⟩, rfl⟩
theorem sorted_ext {l m : List Int} (hl : l.Pairwise (· < ·)) (hm : m.Pairwise (· < ·)) (h : ∀ x, x ∈ l ↔ x ∈ m) : l = m := by
  have nl : l.Nodup := hl.imp (fun h => by omega)
  have nm : m.Nodup := hm.imp (fun h => by omega)
  exact List.Perm.eq_of_pairwise (le := fun a b : Int => a < b) (fun a b _ _ h1 h2 => by omega) hl hm ((List.perm_ext_iff_of_nodup nl nm).2 h)
/-! ### What stands for it -/
abbrev By := List (Spot × (Nat × List (Int × Int)))
abbrev idV (y : Int) : Value := vint y
def byV (x : Nat × List (Int × Int)) : Value := .map (some x.1)
def byM (by' : By) : List (Value × Value) := by'.map fun x => (spotV x.1, byV x.2)
def intM (l : List (Int × Int)) : List (Value × Value) := l.map fun x => (vint x.1, idV x.2)
def inW (x : Spot × (Nat × List (Int × Int))) : HP := mapR x.2.1 (intM x.2.2)
structure TbI (ω : List Wt) (m : By) (n : List (Int × Int)) : Prop where
  nod : ω.Nodup
  fit : ∀ w ∈ ω, 1 ≤ w.1 ∧ w.1 ≤ 9223372036854775807 ∧ 1 ≤ w.2.1 ∧ w.2.1 ≤ 3
  few : ∀ s, cntW ω s ≤ 64
  keys : (m.map (·.1)).Nodup
  inn : ∀ sp y, alook m sp = some y → (y.2.map (·.1)).Nodup ∧ y.2 ≠ [] ∧ ∀ z ∈ y.2, z.2 = z.1
  mem : ∀ id sp, (id, sp) ∈ ω ↔ ∃ y, alook m sp = some y ∧ id ∈ y.2.map (·.1)
  nkeys : (n.map (·.1)).Nodup
  many : ∀ s, alook n s = if cntW ω s = 0 then none else some (cntW ω s : Int)
def tbR (t : Nat) (ω : List Wt) : HP := fun h => ∃ x : (Nat × Nat) × (By × List (Int × Int)), TbI ω x.2.1 x.2.2 ∧ sep [ptc t [.map (some x.1.1), .map (some x.1.2)] 151, mapR x.1.1 (byM x.2.1), mapR x.1.2 (intM x.2.2), bigR inW x.2.1] h
section
variable {W : World} {n : Nat} {ds : List Deferred} {E : Env} {L R : List HP} {X : Act → World → Prop}
theorem G.tbOpen {t : Nat} {ω : List Wt} (hL : Pick (tbR t ω) L R) (h : ∀ rb rm m q, TbI ω m q → G W n ds E (ptc t [.map (some rb), .map (some rm)] 151 :: mapR rb (byM m) :: mapR rm (intM q) :: bigR inW m :: R) X) : G W n ds E L X :=
  G.focus hL (G.open (q := fun x : (Nat × Nat) × (By × List (Int × Int)) => [ptc t [.map (some x.1.1), .map (some x.1.2)] 151, mapR x.1.1 (byM x.2.1), mapR x.1.2 (intM x.2.2), bigR inW x.2.1]) (φ := fun x : (Nat × Nat) × (By × List (Int × Int)) => TbI ω x.2.1 x.2.2) (fun _ hp => hp) fun x hx => h x.1.1 x.1.2 x.2.1 x.2.2 hx)
theorem G.tbFold {t rb rm : Nat} {ω : List Wt} {m : By} {q : List (Int × Int)} {l : List Value} {e1 e2 : List (Value × Value)} (hI : TbI ω m q) (hL : Picks [ptc t l 151, mapR rb e1, mapR rm e2, bigR inW m] L R) (hl : l = [.map (some rb), .map (some rm)]) (h1 : e1 = byM m) (h2 : e2 = intM q)
    (h : G W n ds E (tbR t ω :: R) X) : G W n ds E L X := by
  subst hl; subst h1; subst h2
  exact G.fold hL (fun _ hp => ⟨((rb, rm), (m, q)), hI, hp⟩) h
end
theorem byM_set {m : By} {d : Spot} {y y' : Nat × List (Int × Int)} (h : alook m d = some y) (hp : y'.1 = y.1) : byM (aset m d y') = byM m := aset_map h (by simp [byV, hp])
theorem many_some {ω : List Wt} {m : By} {n : List (Int × Int)} (h : TbI ω m n) (s : Int) : ∀ b, alook n s = some b → idV b = vint (cntW ω s : Nat) := by
  intro b hb
  rw [h.many s] at hb
  split at hb
  · cases hb
  · cases hb; rfl
theorem many_none {ω : List Wt} {m : By} {n : List (Int × Int)} (h : TbI ω m n) (s : Int) : alook n s = none → Value.int .i64 0 = vint (cntW ω s : Nat) := by
  intro hb
  rw [h.many s] at hb
  split at hb
  · rename_i h0; rw [h0]; rfl
  · cases hb
/-! ### Who keeps it -/
theorem cnt_pos {ω : List Wt} {s : Int} {sp : Spot} (h : (s, sp) ∈ ω) : 0 < cntW ω s := by
  unfold cntW
  exact List.length_pos_of_mem (List.mem_filter.2 ⟨h, by simp⟩)
theorem cnt_append (ω : List Wt) (w : Wt) (s : Int) : cntW (ω ++ [w]) s = cntW ω s + if w.1 = s then 1 else 0 := by
  unfold cntW
  rw [List.filter_append, List.length_append]
  congr 1
  by_cases h : w.1 = s <;> simp [h]
theorem rm_mem {ω : List Wt} {w x : Wt} : x ∈ rmW ω w ↔ x ∈ ω ∧ x ≠ w := by
  unfold rmW; rw [List.mem_filter]; simp
theorem rm_erase {ω : List Wt} (h : ω.Nodup) (w : Wt) : rmW ω w = ω.erase w := by
  rw [h.erase_eq_filter]
  unfold rmW
  refine List.filter_congr fun x _ => ?_
  by_cases hx : x = w
  · subst hx; rw [decide_eq_false (fun g => g rfl)]; exact (bne_self_eq_false x).symm
  · rw [decide_eq_true hx]; exact (bne_iff_ne.2 hx).symm
theorem cnt_rm {ω : List Wt} (h : ω.Nodup) {w : Wt} (hm : w ∈ ω) (s : Int) : cntW ω s = cntW (rmW ω w) s + if w.1 = s then 1 else 0 := by
  have hp := List.perm_cons_erase hm
  rw [rm_erase h]
  unfold cntW
  rw [(hp.filter _).length_eq]
  by_cases hs : w.1 = s
  · simp [hs]
  · simp [hs]
theorem adel_keys {K β : Type} [DecidableEq K] {m : List (K × β)} (hn : (m.map (·.1)).Nodup) (k x : K) : x ∈ (adel m k).map (·.1) ↔ x ≠ k ∧ x ∈ m.map (·.1) := by
  rw [← al_isSome, ← al_isSome, al_adel hn]
  by_cases h : x = k
  · simp [h]
  · simp [h]
/-- A watch is taken away. -/
theorem TbI.gone {ω : List Wt} {m m' : By} {n n' : List (Int × Int)} (h : TbI ω m n) {id : Int} {sp : Spot} (hm : (id, sp) ∈ ω) {p : Nat} {l : List (Int × Int)} (hb : alook m sp = some (p, l))
    (hm' : m' = if adel l id = [] then adel m sp else aset m sp (p, adel l id)) (hn' : n' = if (cntW ω id : Int) - 1 = 0 then adel (aset n id ((cntW ω id : Int) - 1)) id else aset n id ((cntW ω id : Int) - 1)) : TbI (rmW ω (id, sp)) m' n' := by
  obtain ⟨b1, b2, b3⟩ := h.inn sp _ hb
  dsimp only at b1 b2 b3
  have hpos := cnt_pos hm
  have hlook : ∀ x, alook m' x = if x = sp then (if adel l id = [] then none else some (p, adel l id)) else alook m x := by
    intro x
    rw [hm']
    split
    · rw [al_adel h.keys]
    · rw [al_aset]
  have hc := fun s => cnt_rm h.nod hm s
  have hlk : ∀ x, alook n' x = if x = id then (if (cntW ω id : Int) - 1 = 0 then none else some ((cntW ω id : Int) - 1)) else alook n x := by
    intro x
    rw [hn']
    split
    · rw [al_adel (nodup_aset h.nkeys _ _), al_aset]
      by_cases hx : x = id <;> simp [hx]
    · rw [al_aset]
  refine ⟨h.nod.filter _, fun w hw => h.fit w (rm_mem.1 hw).1, fun s => by have := hc s; have := h.few s; omega, ?_, fun s y hy => ?_, fun i s => ?_, ?_, fun s => ?_⟩
  · rw [hm']; split
    · exact nodup_adel h.keys _
    · exact nodup_aset h.keys _ _
  · rw [hlook] at hy
    by_cases hs : s = sp
    · rw [if_pos hs] at hy
      split at hy
      · cases hy
      · rename_i hne
        cases hy
        exact ⟨nodup_adel b1 id, hne, fun z hz => b3 z ((adel_sub l id).subset hz)⟩
    · rw [if_neg hs] at hy; exact h.inn s y hy
  · rw [rm_mem, h.mem i s, hlook]
    by_cases hs : s = sp
    · subst hs
      rw [if_pos rfl]
      constructor
      · rintro ⟨⟨y, hy, hi⟩, hne⟩
        rw [hb] at hy; cases hy
        have hii : i ≠ id := fun e => hne (by rw [e])
        have hin := (adel_keys b1 id i).2 ⟨hii, hi⟩
        refine ⟨(p, adel l id), ?_, hin⟩
        rw [if_neg (fun e => by rw [e] at hin; simp at hin)]
      · rintro ⟨y, hy, hi⟩
        split at hy
        · cases hy
        · cases hy
          have := (adel_keys b1 id i).1 hi
          exact ⟨⟨(p, l), hb, this.2⟩, fun e => this.1 (by simpa using e)⟩
    · rw [if_neg hs]
      constructor
      · exact fun g => g.1
      · exact fun g => ⟨g, fun e => hs (by simpa using congrArg Prod.snd e)⟩
  · rw [hn']; split
    · exact nodup_adel (nodup_aset h.nkeys _ _) _
    · exact nodup_aset h.nkeys _ _
  · rw [hlk]
    have hcs := hc s
    by_cases hs : s = id
    · subst hs
      simp only [if_true] at hcs ⊢
      by_cases h0 : cntW (rmW ω (s, sp)) s = 0
      · rw [if_pos (by omega), if_pos h0]
      · rw [if_neg (by omega), if_neg h0]; congr 1; omega
    · rw [if_neg hs, h.many s]
      rw [if_neg (fun e : id = s => hs e.symm)] at hcs
      rw [hcs, Nat.add_zero]
/-- A watch is laid. -/
theorem TbI.ins {ω : List Wt} {m m' : By} {n n' : List (Int × Int)} (h : TbI ω m n) {id : Int} {sp : Spot} (hm : (id, sp) ∉ ω) (hid : 1 ≤ id ∧ id ≤ 9223372036854775807) (hk : 1 ≤ sp.1 ∧ sp.1 ≤ 3) (hc : cntW ω id ≠ 64) {y : Nat × List (Int × Int)} (hy : (alook m sp = none ∧ y.2 = []) ∨ alook m sp = some y)
    (hm' : m' = aset m sp (y.1, aset y.2 id id)) (hn' : n' = aset n id ((cntW ω id : Int) + 1)) : TbI (ω ++ [(id, sp)]) m' n' := by
  subst hm'; subst hn'
  have hyl : (y.2.map (·.1)).Nodup ∧ (∀ z ∈ y.2, z.2 = z.1) ∧ ∀ i, (i, sp) ∈ ω ↔ i ∈ y.2.map (·.1) := by
    rcases hy with ⟨h1, h2⟩ | h1
    · rw [h2]
      refine ⟨by simp, by simp, fun i => ?_⟩
      rw [h.mem, h1]; simp
    · obtain ⟨c1, -, c3⟩ := h.inn sp y h1
      refine ⟨c1, c3, fun i => ?_⟩
      rw [h.mem, h1]; simp
  have hnew : alook y.2 id = none := al_none.2 fun g => hm ((hyl.2.2 id).2 g)
  have hset : aset y.2 id id = y.2 ++ [(id, id)] := aset_none hnew
  refine ⟨?_, fun w hw => ?_, fun s => ?_, nodup_aset h.keys _ _, fun s z hz => ?_, fun i s => ?_, nodup_aset h.nkeys _ _, fun s => ?_⟩
  · exact List.nodup_append.2 ⟨h.nod, by simp, fun a ha b hb => by simp at hb; subst hb; exact fun e => hm (e ▸ ha)⟩
  · rcases List.mem_append.1 hw with hw | hw
    · exact h.fit w hw
    · simp at hw; subst hw; exact ⟨hid.1, hid.2, hk.1, hk.2⟩
  · rw [cnt_append]
    have := h.few s
    by_cases hs : id = s
    · subst hs; simp; omega
    · simp [hs]; exact this
  · rw [al_aset] at hz
    by_cases hs : s = sp
    · rw [if_pos hs] at hz; cases hz
      dsimp only
      refine ⟨nodup_aset hyl.1 _ _, ?_, fun q hq => ?_⟩
      · rw [hset]; simp
      · rw [hset] at hq
        rcases List.mem_append.1 hq with hq | hq
        · exact hyl.2.1 q hq
        · simp at hq; rw [hq]
    · rw [if_neg hs] at hz; exact h.inn s z hz
  · rw [List.mem_append, al_aset]
    by_cases hs : s = sp
    · subst hs
      rw [if_pos rfl, hyl.2.2 i]
      constructor
      · rintro (g | g)
        · exact ⟨_, rfl, by dsimp only; rw [hset]; simp at g ⊢; exact .inl g⟩
        · simp at g; exact ⟨_, rfl, by dsimp only; rw [hset]; simp [g]⟩
      · rintro ⟨z, hz, hi⟩
        cases hz
        dsimp only at hi
        rw [hset] at hi
        simp at hi ⊢
        exact hi
    · rw [if_neg hs, h.mem i s]
      constructor
      · rintro (g | g)
        · exact g
        · simp at g; exact absurd g.2 hs
      · exact fun g => .inl g
  · rw [al_aset, cnt_append]
    by_cases hs : s = id
    · subst hs; simp
    · rw [if_neg hs, h.many s, if_neg (fun e : id = s => hs e.symm), Nat.add_zero]
end Go.Proofs.YtnnbelmpbmfdnaaGreatDoor

/- Own work: what firing and dropping do, in plain words. -/
namespace Go.Proofs.YtnnbelmpbmfdnaaGreatDoor
open Go

abbrev Tld := Int × Ev
def tldC (x : Tld) : List Value := [vint x.1, vint x.2.1, vstr x.2.2.1, vint x.2.2.2]
def spotC (s : Spot) : List Value := [vint s.1, vstr s.2]
def fire1 (ω : List Wt) (e : Ev) : List Wt × List Tld := (leftW ω e.1 e.2.1, (tellW ω e.1 e.2.1).map fun i => (i, e))
def fireTo (ω : List Wt) (es : List Ev) : Nat → List Wt × List Tld
  | 0 => (ω, [])
  | i + 1 => (leftW (fireTo ω es i).1 (es.getD i (0, ([], 0))).1 (es.getD i (0, ([], 0))).2.1, (fireTo ω es i).2 ++ (tellW (fireTo ω es i).1 (es.getD i (0, ([], 0))).1 (es.getD i (0, ([], 0))).2.1).map fun j => (j, es.getD i (0, ([], 0))))
def fireL (ω : List Wt) (es : List Ev) : List Wt × List Tld := fireTo ω es es.length
theorem fire_one (ω : List Wt) (e : Ev) : fireL ω [e] = fire1 ω e := by
  show fireTo ω [e] 1 = _
  simp [fireTo, fire1]
/-- Watches of a path and of some kinds: whose they are; what is left without them. -/
def idsK (ω : List Wt) (p : Bs) (ks : List Int) : List Int := (ω.filter fun w => decide (w.2.2 = p) && decide (w.2.1 ∈ ks)).map (·.1)
def outK (ω : List Wt) (p : Bs) (ks : List Int) : List Wt := ω.filter fun w => !(decide (w.2.2 = p) && decide (w.2.1 ∈ ks))
def goneL (ω : List Wt) (sp : Spot) (ids : List Int) : List Wt := ω.filter fun w => !(decide (w.2 = sp) && decide (w.1 ∈ ids))
theorem goneL_nil (ω : List Wt) (sp : Spot) : goneL ω sp [] = ω := by unfold goneL; simp
theorem outK_nil (ω : List Wt) (p : Bs) : outK ω p [] = ω := by unfold outK; simp
theorem goneL_step (ω : List Wt) (sp : Spot) (ids : List Int) (i : Int) : rmW (goneL ω sp ids) (i, sp) = goneL ω sp (ids ++ [i]) := by
  unfold rmW goneL
  rw [List.filter_filter]
  refine List.filter_congr fun w _ => ?_
  obtain ⟨a, s⟩ := w
  by_cases h1 : s = sp
  · by_cases h2 : a = i
    · simp [h1, h2]
    · simp [h1, h2]
  · simp [h1]
theorem goneL_mem {ω : List Wt} {sp : Spot} {ids : List Int} {i : Int} (h : (i, sp) ∈ ω) (hi : i ∉ ids) : (i, sp) ∈ goneL ω sp ids := by
  unfold goneL; exact List.mem_filter.2 ⟨h, by simp [hi]⟩
theorem goneL_all {ω : List Wt} {p : Bs} {ks : List Int} {k : Int} {ids : List Int} (h : ∀ i, (i, (k, p)) ∈ outK ω p ks → i ∈ ids) : goneL (outK ω p ks) (k, p) ids = outK ω p (ks ++ [k]) := by
  have e : outK ω p (ks ++ [k]) = (outK ω p ks).filter fun w => !decide (w.2 = (k, p)) := by
    unfold outK
    rw [List.filter_filter]
    refine List.filter_congr fun w _ => ?_
    obtain ⟨a, b, c⟩ := w
    by_cases h1 : c = p
    · by_cases h2 : b = k
      · simp [h1, h2]
      · simp [h1, h2]
    · simp [h1]
  rw [e]
  unfold goneL
  refine List.filter_congr fun w hw => ?_
  by_cases hs : w.2 = (k, p)
  · have := h w.1 (by rw [← hs]; exact hw)
    simp [hs, this]
  · simp [hs]
theorem filter_or_perm {α : Type} (f g : α → Bool) (h : ∀ x, f x = true → g x = false) (l : List α) : (l.filter fun x => f x || g x).Perm (l.filter f ++ l.filter g) := by
  induction l with
  | nil => simp
  | cons a l ih =>
    cases hf : f a with
    | true => simp [hf, h a hf]; exact ih
    | false =>
      cases hg : g a with
      | true =>
        simp [hf, hg]
        exact (List.Perm.cons a ih).trans List.perm_middle.symm
      | false => simp [hf, hg]; exact ih
/-- One kind more: the ids of its spot. -/
theorem idsK_step (ω : List Wt) (p : Bs) {ks : List Int} {k : Int} (hk : k ∉ ks) : (idsK ω p (ks ++ [k])).Perm (idsK ω p ks ++ ((outK ω p ks).filter fun w => decide (w.2 = (k, p))).map (·.1)) := by
  have e : ((outK ω p ks).filter fun w => decide (w.2 = (k, p))) = ω.filter fun w => decide (w.2 = (k, p)) := by
    unfold outK
    rw [List.filter_filter]
    refine List.filter_congr fun w _ => ?_
    obtain ⟨a, b, c⟩ := w
    by_cases h2 : b = k
    · simp [h2, hk]
    · simp [h2]
  rw [e]
  unfold idsK
  rw [← List.map_append]
  refine List.Perm.map _ ?_
  refine List.Perm.trans (List.Perm.of_eq ?_) (filter_or_perm (fun w : Wt => decide (w.2.2 = p) && decide (w.2.1 ∈ ks)) (fun w => decide (w.2 = (k, p))) ?_ ω)
  · refine List.filter_congr fun w _ => ?_
    obtain ⟨a, b, c⟩ := w
    by_cases h1 : c = p
    · by_cases h2 : b = k
      · simp [h1, h2]
      · simp [h1, h2]
    · simp [h1]
  · rintro ⟨a, b, c⟩ h
    simp at h ⊢
    intro hb hc
    exact hk (hb ▸ h.2)
theorem out_all (ω : List Wt) (k : Int) (p : Bs) : outK ω p (kindsZ k) = leftW ω k p := by
  unfold outK leftW meetW; rfl
theorem ids_all (ω : List Wt) (k : Int) (p : Bs) : idsK ω p (kindsZ k) = (ω.filter (meetW k p)).map (·.1) := by
  unfold idsK meetW; rfl
theorem kinds_nodup (k : Int) : (kindsZ k).Nodup := by
  unfold kindsZ
  split
  · simp
  · split
    · decide
    · split
      · decide
      · split <;> simp
theorem kinds_len (k : Int) : (kindsZ k).length ≤ 3 := by
  unfold kindsZ
  split
  · simp
  · split
    · simp
    · split
      · simp
      · split <;> simp
/-- The ids at a spot, as the map has them. -/
theorem spot_ids {ω : List Wt} {m : By} {n : List (Int × Int)} (h : TbI ω m n) {sp : Spot} {y : Nat × List (Int × Int)} (hy : alook m sp = some y) : (y.2.map (·.1)).Perm ((ω.filter fun w => decide (w.2 = sp)).map (·.1)) := by
  refine (List.perm_ext_iff_of_nodup (h.inn sp y hy).1 ?_).2 fun i => ?_
  · refine List.pairwise_map.2 (List.Pairwise.imp_of_mem ?_ (h.nod.filter _))
    intro a b ha hb hne e
    apply hne
    have h1 := (List.mem_filter.1 ha).2
    have h2 := (List.mem_filter.1 hb).2
    simp at h1 h2
    obtain ⟨a1, a2⟩ := a; obtain ⟨b1, b2⟩ := b
    dsimp only at *
    rw [e, h1, h2]
  · constructor
    · intro hi
      exact List.mem_map.2 ⟨(i, sp), List.mem_filter.2 ⟨(h.mem i sp).2 ⟨y, hy, hi⟩, by simp⟩, rfl⟩
    · intro hi
      obtain ⟨w, hw, rfl⟩ := List.mem_map.1 hi
      obtain ⟨h1, h2⟩ := List.mem_filter.1 hw
      have h2 : w.2 = sp := by simpa using h2
      obtain ⟨z, hz, hzi⟩ := (h.mem w.1 sp).1 (by rw [← h2]; exact h1)
      rw [hy] at hz; cases hz
      exact hzi
theorem spot_none {ω : List Wt} {m : By} {n : List (Int × Int)} (h : TbI ω m n) {sp : Spot} (hy : alook m sp = none) : (ω.filter fun w => decide (w.2 = sp)) = [] := by
  rw [List.filter_eq_nil_iff]
  intro w hw
  simp only [decide_eq_true_eq]
  intro e
  obtain ⟨z, hz, -⟩ := (h.mem w.1 sp).1 (by rw [← e]; exact hw)
  rw [hy] at hz; cases hz
/-- Dropping. -/
def hasW (s : Int) (x : Spot × (Nat × List (Int × Int))) : Bool := decide (s ∈ x.2.2.map (·.1))
def dropL (ω : List Wt) (s : Int) (sps : List Spot) : List Wt := ω.filter fun w => !(decide (w.1 = s) && decide (w.2 ∈ sps))
theorem dropL_nil (ω : List Wt) (s : Int) : dropL ω s [] = ω := by unfold dropL; simp
theorem dropL_step (ω : List Wt) (s : Int) (sps : List Spot) (sp : Spot) : rmW (dropL ω s sps) (s, sp) = dropL ω s (sps ++ [sp]) := by
  unfold rmW dropL
  rw [List.filter_filter]
  refine List.filter_congr fun w _ => ?_
  obtain ⟨a, b⟩ := w
  by_cases h1 : a = s
  · by_cases h2 : b = sp
    · simp [h1, h2]
    · simp [h1, h2]
  · simp [h1]
theorem dropL_mem {ω : List Wt} {s : Int} {sps : List Spot} {sp : Spot} (h : (s, sp) ∈ ω) (hi : sp ∉ sps) : (s, sp) ∈ dropL ω s sps := by
  unfold dropL; exact List.mem_filter.2 ⟨h, by simp [hi]⟩
theorem dropL_all {ω : List Wt} {s : Int} {sps : List Spot} (h : ∀ sp, (s, sp) ∈ ω → sp ∈ sps) : dropL ω s sps = dropW ω s := by
  unfold dropL dropW
  refine List.filter_congr fun w hw => ?_
  obtain ⟨a, b⟩ := w
  by_cases h1 : a = s
  · subst h1; simp [h b hw]
  · simp [h1]
theorem has_mem {ω : List Wt} {m : By} {n : List (Int × Int)} (h : TbI ω m n) {s : Int} {sp : Spot} : (s, sp) ∈ ω ↔ sp ∈ (m.filter (hasW s)).map (·.1) := by
  rw [h.mem]
  constructor
  · rintro ⟨y, hy, hs⟩
    exact List.mem_map.2 ⟨(sp, y), List.mem_filter.2 ⟨al_mem hy, by simpa [hasW] using hs⟩, rfl⟩
  · intro hm
    obtain ⟨x, hx, rfl⟩ := List.mem_map.1 hm
    obtain ⟨h1, h2⟩ := List.mem_filter.1 hx
    exact ⟨x.2, al_of_mem h.keys h1, by simpa [hasW] using h2⟩
theorem take_not {α : Type} {l : List α} (h : l.Nodup) {i : Nat} (hi : i < l.length) : l[i] ∉ l.take i := by
  have e : l.take i ++ l[i] :: l.drop (i + 1) = l := by rw [← List.drop_eq_getElem_cons hi]; exact List.take_append_drop i l
  have h2 : (l.take i ++ l[i] :: l.drop (i + 1)).Nodup := by rw [e]; exact h
  intro hm
  exact (List.nodup_append.1 h2).2.2 _ hm _ List.mem_cons_self rfl
theorem acc_few {ω : List Wt} {m ss rest : By} {n : List (Int × Int)} (h : TbI ω m n) (hp : m.Perm (ss ++ rest)) (s : Int) : ((ss.filter (hasW s)).map (·.1)).length ≤ 64 ∧ ((ss.filter (hasW s)).map (·.1)).Nodup := by
  have hk : ((ss ++ rest).map (·.1)).Nodup := ((hp.map _).nodup_iff).1 h.keys
  have hn : ((ss.filter (hasW s)).map (·.1)).Nodup := (((List.filter_sublist).trans (List.sublist_append_left ss rest)).map _).nodup hk
  refine ⟨?_, hn⟩
  have h1 : (((ss.filter (hasW s)).map (·.1)).map fun sp => ((s, sp) : Wt)).length ≤ (ω.filter fun w => decide (w.1 = s)).length := by
    refine nodup_len ?_ fun w hw => ?_
    · exact List.pairwise_map.2 (hn.imp fun hne e => hne (by simpa using e))
    · obtain ⟨sp, hsp, rfl⟩ := List.mem_map.1 hw
      refine List.mem_filter.2 ⟨(has_mem h).2 ?_, by simp⟩
      obtain ⟨x, hx, rfl⟩ := List.mem_map.1 hsp
      obtain ⟨x1, x2⟩ := List.mem_filter.1 hx
      exact List.mem_map.2 ⟨x, List.mem_filter.2 ⟨hp.mem_iff.2 (List.mem_append_left _ x1), x2⟩, rfl⟩
  rw [List.length_map] at h1
  exact Nat.le_trans h1 (h.few s)
theorem ids_len (ω : List Wt) (p : Bs) (ks : List Int) : (idsK ω p ks).length ≤ ω.length := by unfold idsK; rw [List.length_map]; exact List.length_filter_le _ _
theorem comp_len (l : List Int) : (compI l).length ≤ l.length := Lib.compact_length_le l
theorem tell_len (ω : List Wt) (k : Int) (p : Bs) : (tellW ω k p).length ≤ ω.length := by
  unfold tellW
  refine Nat.le_trans (comp_len _) ?_
  rw [sortI_length, List.length_map]; exact List.length_filter_le _ _
theorem sortI_perm_eq {l m : List Int} (h : l.Perm m) : sortI l = sortI m :=
  List.Perm.eq_of_pairwise (le := fun a b : Int => a ≤ b) (fun a b _ _ h1 h2 => by omega) (sortI_sorted l) (sortI_sorted m) ((sortI_perm l).trans (h.trans (sortI_perm m).symm))
theorem fire_succ {ω : List Wt} {es : List Ev} {i : Nat} {e : Ev} (h : es.getD i (0, ([], 0)) = e) : fireTo ω es (i + 1) = (leftW (fireTo ω es i).1 e.1 e.2.1, (fireTo ω es i).2 ++ (tellW (fireTo ω es i).1 e.1 e.2.1).map fun j => (j, e)) := by
  rw [fireTo, h]
theorem fire_len (ω : List Wt) (es : List Ev) : ∀ i, (fireTo ω es i).1.length ≤ ω.length ∧ (fireTo ω es i).2.length ≤ i * ω.length := by
  intro i
  induction i with
  | zero => exact ⟨Nat.le_refl _, by simp [fireTo]⟩
  | succ i ih =>
    rw [fire_succ rfl]
    refine ⟨Nat.le_trans (List.length_filter_le _ _) ih.1, ?_⟩
    have := tell_len (fireTo ω es i).1 (es.getD i (0, ([], 0))).1 (es.getD i (0, ([], 0))).2.1
    dsimp only
    rw [List.length_append, List.length_map, Nat.add_mul, Nat.one_mul]
    omega
end Go.Proofs.YtnnbelmpbmfdnaaGreatDoor

/- Own work: WatchOnce, WatchApart, WatchGone in plain words. -/

namespace Go.Proofs.YtnnbelmpbmfdnaaGreatDoor
open Go

theorem add_cases (ω : List Wt) (s k : Int) (p : Bs) : addW ω s k p = (ω, 1) ∨ addW ω s k p = (ω, 0) ∨ addW ω s k p = (ω, 91) ∨ (¬ s < 1 ∧ isWt k p ∧ (s, (k, p)) ∉ ω ∧ addW ω s k p = (ω ++ [(s, (k, p))], 0)) := by
  unfold addW
  split
  · exact .inl rfl
  · rename_i h
    split
    · exact .inr (.inl rfl)
    · rename_i h2
      split
      · exact .inr (.inr (.inl rfl))
      · have h1 : ¬ s < 1 := fun e => h (.inl e)
        have h3 : isWt k p := Decidable.byContradiction fun e => h (.inr e)
        exact .inr (.inr (.inr ⟨h1, h3, h2, rfl⟩))
theorem add_len (ω : List Wt) (s k : Int) (p : Bs) : (addW ω s k p).1.length ≤ ω.length + 1 := by
  rcases add_cases ω s k p with h | h | h | ⟨-, -, -, h⟩ <;> rw [h] <;> simp
theorem left_len (ω : List Wt) (k : Int) (p : Bs) : (leftW ω k p).length ≤ ω.length := List.length_filter_le _ _
theorem left_mem {ω : List Wt} {k : Int} {p : Bs} {w : Wt} (h : w ∈ leftW ω k p) : w ∈ ω := (List.mem_filter.1 h).1
/-! ### Told of one session alone -/
theorem tell_one {ω : List Wt} {s : Int} (h : ∀ w ∈ ω, w.1 = s) (k : Int) (p : Bs) : (tellW ω k p = [] ∧ leftW ω k p = ω) ∨ (tellW ω k p = [s] ∧ ∃ w ∈ ω, meetW k p w = true) := by
  by_cases hm : ∃ w ∈ ω, meetW k p w = true
  · right
    refine ⟨sorted_ext (tell_sorted _ _ _) (by simp) fun x => ?_, hm⟩
    rw [tell_mem]
    constructor
    · rintro ⟨w, hw, -, rfl⟩; simp [h w hw]
    · intro hx
      obtain ⟨w, hw, hm⟩ := hm
      exact ⟨w, hw, hm, by have hx : x = s := (by simpa using hx); rw [h w hw, hx]⟩
  · left
    refine ⟨?_, ?_⟩
    · rw [List.eq_nil_iff_forall_not_mem]
      intro x hx
      obtain ⟨w, hw, hm2, -⟩ := tell_mem.1 hx
      exact hm ⟨w, hw, hm2⟩
    · unfold leftW
      exact List.filter_eq_self.2 fun w hw => by
        cases e : meetW k p w with
        | true => exact absurd ⟨w, hw, e⟩ hm
        | false => rfl
theorem left_again (ω : List Wt) (k : Int) (p : Bs) : tellW (leftW ω k p) k p = [] ∧ leftW (leftW ω k p) k p = leftW ω k p := by
  have hno : ∀ w ∈ leftW ω k p, meetW k p w = false := fun w hw => by
    have := (List.mem_filter.1 hw).2; simpa using this
  refine ⟨?_, ?_⟩
  · rw [List.eq_nil_iff_forall_not_mem]
    intro x hx
    obtain ⟨w, hw, hm2, -⟩ := tell_mem.1 hx
    rw [hno w hw] at hm2; cases hm2
  · exact List.filter_eq_self.2 fun w hw => by rw [hno w hw]; rfl
theorem nodup_range3 {l : List Int} (hn : l.Nodup) (h : ∀ x ∈ l, x = 1 ∨ x = 2 ∨ x = 3) : l.length ≤ 3 :=
  nodup_len (m := [1, 2, 3]) hn fun x hx => by have := h x hx; simp; omega
theorem filt_sum {α : Type} (f : α → Bool) (l : List α) : (l.filter f).length + (l.filter fun x => !f x).length = l.length := by
  induction l with
  | nil => rfl
  | cons a l ih => cases h : f a <;> simp [h] <;> omega
/-- At most three watches of one session meet an event; at least one, if it is told. -/
theorem met_few {ω : List Wt} {s k : Int} {p : Bs} (hn : ω.Nodup) (h : ∀ w ∈ ω, w.1 = s ∧ 1 ≤ w.2.1 ∧ w.2.1 ≤ 3) : ω.length - (leftW ω k p).length ≤ 3 ∧ (leftW ω k p).length ≤ ω.length ∧ ((∃ w ∈ ω, meetW k p w = true) → (leftW ω k p).length < ω.length) := by
  have hsum : (ω.filter (meetW k p)).length + (leftW ω k p).length = ω.length :=
    filt_sum (meetW k p) ω
  have hmet : (ω.filter (meetW k p)).length ≤ 3 := by
    have : ((ω.filter (meetW k p)).map (·.2.1)).length ≤ 3 := by
      refine nodup_range3 ?_ ?_
      · refine List.pairwise_map.2 (List.Pairwise.imp_of_mem ?_ (hn.filter _))
        intro x y hx hy hne e
        apply hne
        have hx2 := List.mem_filter.1 hx
        have hy2 := List.mem_filter.1 hy
        have a1 := h x hx2.1
        have a2 := h y hy2.1
        have b1 := hx2.2
        have b2 := hy2.2
        simp [meetW] at b1 b2
        obtain ⟨x1, x2, x3⟩ := x
        obtain ⟨y1, y2, y3⟩ := y
        dsimp only at *
        rw [a1.1, a2.1, e, b1.1, b2.1]
      · intro x hx
        obtain ⟨w, hw, rfl⟩ := List.mem_map.1 hx
        have := h w (List.mem_filter.1 hw).1
        omega
    simpa using this
  refine ⟨by omega, by omega, fun ⟨w, hw, hm⟩ => ?_⟩
  have : 0 < (ω.filter (meetW k p)).length := List.length_pos_of_mem (List.mem_filter.2 ⟨hw, hm⟩)
  omega
/-! ### With others -/
end Go.Proofs.YtnnbelmpbmfdnaaGreatDoor

/- Own work, by program: package watch: walked. -/

namespace Go.Proofs.YtnnbelmpbmfdnaaGreatDoor
open Go
theorem spot_eq (a b : Spot) : EqAt Tryz.prog 10000 154 (spotV a) (spotV b) (decide (a = b)) := by
  have h := EqAt.struct (d := 9999) (xs := [vint a.1, vstr a.2]) (ys := [vint b.1, vstr b.2]) Tryz.underlying154 (by kernel_rfl)
    (.cons (FEq.cell (by decide) ag_3 rfl rfl (EqAt.int Tryz.underlying3 a.1 b.1)) (.cons (FEq.cell (by decide) ag_9 rfl rfl (EqAt.str Tryz.underlying9 a.2 b.2)) .nil))
  have e : ([decide (a.1 = b.1), decide (a.2 = b.2)].all id) = decide (a = b) := by
    obtain ⟨a1, a2⟩ := a; obtain ⟨b1, b2⟩ := b
    simp [Bool.decide_and]
  rw [← e]; exact h
theorem spotK : KeyLaw Tryz.prog 154 spotV := by
  refine KeyLaw.struct Tryz.underlying154 spot_eq (fun a e w => ?_) (fun a => ?_)
  · refine check_struct (d := 9999) Tryz.underlying154 (xs := [vint a.1, vstr a.2].toArray) (fun f hf => ?_) w
    simp only [List.mem_cons, List.not_mem_nil, or_false] at hf
    rcases hf with rfl | rfl
    · exact FCk.cell (d := 9998) (by decide) ag_3 rfl Tryz.underlying3 (.inr (.inl ⟨_, rfl⟩))
    · exact FCk.cell (d := 9998) (by decide) ag_9 rfl Tryz.underlying9 (.inl rfl)
  · rw [show (10000 : Nat) = 9999 + 1 from rfl]
    simp [spotV, Instr.sameBits, bs_beq]
theorem sortI_spec (v : Value) (n : Nat) (xs : List Int) (hn : n < 4611686018427387904) : Fn Tryz.prog 84 #[v] [slR 3 1 v n (ints xs)] fun u L => u = .tuple #[] ∧ L = [slR 3 1 v n (ints (sortI xs))] :=
  sort_fn Tryz.sortA 3 v n xs hn
theorem compI_spec (v : Value) (n : Nat) (xs : List Int) (hn : n < 4611686018427387904) : Fn Tryz.prog 85 #[v] [slR 3 1 v n (ints xs)] fun u L => (∃ a c, u = .slice a (compI xs).length c) ∧ L = [slR 3 1 u (compI xs).length (ints (compI xs))] :=
  compact_fn Tryz.compactA 3 v n xs hn
set_option maxRecDepth 100000 in
theorem wnew_spec : Fn Tryz.prog 32 #[] [] fun v L => ∃ t, v = vptr t ∧ L = [tbR t []] := by
 refine Fn.intro (vs := []) Tryz.func32 rfl rfl ?_
 intro F W
 refine G.seq (G.region (G.q (Quiet.assign rfl) rfl (G.nil (G.then_n (G.seq (G.region ?_))))))
 refine G.op (OpSpec.makeMap Tryz.underlying148) (by (repeat' constructor)) rfl ?nx2
 rintro v L' ⟨rb, rfl, rfl⟩
 refine G.op (OpSpec.makeMap Tryz.underlying149) (by (repeat' constructor)) rfl ?nx4
 rintro v L' ⟨rm, rfl, rfl⟩
 refine G.q (Quiet.build (us := [(0, _), (1, _)]) fl_151 ze_151 rfl rfl (by simp [isCell])) rfl ?_
 refine G.op (OpSpec.box rfl) (by (repeat' constructor)) rfl ?nx7
 rintro v L' ⟨t, rfl, rfl⟩
 refine G.q (Quiet.assign rfl) rfl (G.nil (G.then_n (G.ret ?_)))
 refine G.fold (p := mapR rb []) (.cons (p := pt rb (.map #[] 0)) (by (repeat' constructor)) .nil) (fun h hp => mapR_new (sep_pt hp)) ?_
 refine G.fold (p := mapR rm []) (.cons (p := pt rm (.map #[] 0)) (by (repeat' constructor)) .nil) (fun h hp => mapR_new (sep_pt hp)) ?_
 refine G.add (p := bigR inW []) big_nil ?_
 have hI : TbI [] [] [] := ⟨by simp, by simp, fun s => Nat.zero_le _, by simp, fun sp y h => (by cases h), fun id sp => ⟨fun h => (by cases h), fun ⟨y, h, _⟩ => (by cases h)⟩, by simp, fun s => rfl⟩
 refine G.tbFold hI (by (repeat' constructor)) rfl rfl rfl ?_
 exact G.done (l := [.tmp 0]) rfl rfl ⟨_, rfl, rfl⟩ (by (repeat' constructor)) (by (repeat' constructor))

set_option maxRecDepth 100000 in
theorem wis_spec (k : Int) (p : Bs) (hs : p.length ≤ 1048576) : Fn Tryz.prog 79 #[vint k, vstr p] [] fun v L => v = .bool (decide (isWt k p)) ∧ L = [] := by
 refine Fn.intro (vs := [vint k, vstr p]) Tryz.func79 rfl rfl ?_
 intro F W
 refine G.seq (G.region (G.q (Quiet.assign rfl) rfl (G.nil (G.then_n (G.seq (G.region (G.q (Quiet.move rfl) rfl (G.q (Quiet.int rfl rfl rfl) rfl (G.q (Quiet.move rfl) rfl ?_)))))))))
 refine G.dec (t := 7) rfl (fun h1_7 => ?_) (fun h1_7 => ?_)
 ·refine G.kDT (t := 6) rfl h1_7 (G.grun (t := 7) rfl rfl rfl (G.q (Quiet.move rfl) rfl (G.grun (t := 7) rfl rfl rfl (G.q (Quiet.int rfl rfl rfl) rfl (G.q (Quiet.pickT rfl rfl) rfl (G.q (Quiet.move rfl) rfl ?_))))))
  refine G.dec (t := 11) rfl (fun h1_11 => ?_) (fun h1_11 => ?_)
  ·refine G.kDT (t := 9) rfl h1_11 (G.kDT (t := 10) rfl h1_11 (G.grun (t := 11) rfl rfl rfl (G.q (Quiet.move rfl) rfl (G.grun (t := 11) rfl rfl rfl ?_))))
   refine G.op (OpSpec.call Tryz.func110 rfl rfl (vs := [_]) rfl (check_spec p hs)) (by (repeat' constructor)) rfl ?nx7
   rintro v L' ⟨rfl, rfl⟩
   refine G.grun (t := 11) rfl rfl rfl (G.q (Quiet.int rfl rfl rfl) rfl (G.q (Quiet.pickT rfl rfl) rfl (G.q (Quiet.assign rfl) rfl (G.nil (G.then_n (G.ret ?_))))))
   exact G.done (l := [.tmp 4]) rfl rfl ⟨congrArg Value.bool (decide_eq_decide.2 (by unfold isWt; omega)), rfl⟩ (by (repeat' constructor)) (by (repeat' constructor))
  ·refine G.kDF (t := 9) rfl h1_11 (G.kDF (t := 10) rfl h1_11 (G.gskip (t := 11) rfl rfl rfl rfl (G.gskip (t := 11) rfl rfl rfl rfl (G.gskip (t := 11) rfl rfl rfl rfl (G.q (Quiet.pickF rfl rfl) rfl (G.q (Quiet.assign rfl) rfl (G.nil (G.then_n (G.ret ?_)))))))))
   exact G.done (l := [.tmp 4]) rfl rfl ⟨by rw [decide_eq_false (by unfold isWt; omega)], rfl⟩ (by (repeat' constructor)) (by (repeat' constructor))
 ·refine G.kDF (t := 6) rfl h1_7 (G.gskip (t := 7) rfl rfl rfl rfl (G.gskip (t := 7) rfl rfl rfl rfl (G.q (Quiet.pickF rfl rfl) rfl (G.q (Quiet.move rfl) rfl (G.gskip (t := 11) rfl rfl rfl rfl (G.gskip (t := 11) rfl rfl rfl rfl (G.gskip (t := 11) rfl rfl rfl rfl (G.q (Quiet.pickF rfl rfl) rfl (G.q (Quiet.assign rfl) rfl (G.nil (G.then_n (G.ret ?_))))))))))))
  exact G.done (l := [.tmp 4]) rfl rfl ⟨by rw [decide_eq_false (by unfold isWt; omega)], rfl⟩ (by (repeat' constructor)) (by (repeat' constructor))

set_option maxRecDepth 100000 in
theorem wkinds_spec (k : Int) : Fn Tryz.prog 82 #[vint k] [] fun v L => (∃ a c, v = .slice a (kindsZ k).length c) ∧ L = [slR 3 1 v (kindsZ k).length (ints (kindsZ k))] := by
 refine Fn.intro (vs := [vint k]) Tryz.func82 rfl rfl ?_
 intro F W
 refine G.seq (G.region (G.q (Quiet.assign rfl) rfl (G.nil (G.then_n (G.seq (G.seq (G.region (G.q (Quiet.move rfl) rfl (G.nil (G.then_n (G.block (G.seq (G.region (G.q (Quiet.int rfl rfl rfl) rfl (G.q (Quiet.assign rfl) rfl (G.nil (G.then_n ?_)))))))))))))))))
 refine G.condD rfl (fun h4 => ?_) (fun h4 => ?_)
 ·refine G.seq (G.region ?_)
  refine G.op (OpSpec.buildSlice1 (vs := [_]) el_52 ze_3 rfl rfl rfl rfl rfl (by decide)) (by (repeat' constructor)) rfl ?nx4
  rintro v L' ⟨bk, rfl, rfl⟩
  refine G.q (Quiet.assign rfl) rfl (G.nil ?_)
  refine G.slMake (b := bk) (n := 1) (c := 1) (xs := ints [2]) (by (repeat' constructor)) (Nat.le_refl _) (by decide) rfl ?_
  refine G.then_n (G.ret (G.blk_r (G.then_r ?_)))
  have e : kindsZ k = [2] := by unfold kindsZ; rw [if_pos h4]
  rw [e]
  exact G.done (l := [.tmp 2]) rfl rfl ⟨⟨_, _, rfl⟩, rfl⟩ (by (repeat' constructor)) (by (repeat' constructor))
 ·refine G.seq (G.region (G.q (Quiet.int rfl rfl rfl) rfl (G.q (Quiet.assign rfl) rfl (G.nil (G.then_n ?_)))))
  refine G.condD rfl (fun h7 => ?_) (fun h7 => ?_)
  ·refine G.seq (G.region ?_)
   refine G.op (OpSpec.buildSlice1 (vs := [_, _, _]) el_52 ze_3 rfl rfl rfl rfl rfl (by decide)) (by (repeat' constructor)) rfl ?nx7
   rintro v L' ⟨bk, rfl, rfl⟩
   refine G.q (Quiet.assign rfl) rfl (G.nil ?_)
   refine G.slMake (b := bk) (n := 3) (c := 3) (xs := ints [1, 2, 3]) (by (repeat' constructor)) (Nat.le_refl _) (by decide) rfl ?_
   refine G.then_n (G.ret (G.blk_r (G.then_r ?_)))
   have e : kindsZ k = [1, 2, 3] := by unfold kindsZ; rw [if_neg h4, if_pos h7]
   rw [e]
   exact G.done (l := [.tmp 2]) rfl rfl ⟨⟨_, _, rfl⟩, rfl⟩ (by (repeat' constructor)) (by (repeat' constructor))
  ·refine G.seq (G.region (G.q (Quiet.int rfl rfl rfl) rfl (G.q (Quiet.assign rfl) rfl (G.nil (G.then_n ?_)))))
   refine G.condD rfl (fun h10 => ?_) (fun h10 => ?_)
   ·refine G.seq (G.region ?_)
    refine G.op (OpSpec.buildSlice1 (vs := [_, _]) el_52 ze_3 rfl rfl rfl rfl rfl (by decide)) (by (repeat' constructor)) rfl ?nx10
    rintro v L' ⟨bk, rfl, rfl⟩
    refine G.q (Quiet.assign rfl) rfl (G.nil ?_)
    refine G.slMake (b := bk) (n := 2) (c := 2) (xs := ints [1, 2]) (by (repeat' constructor)) (Nat.le_refl _) (by decide) rfl ?_
    refine G.then_n (G.ret (G.blk_r (G.then_r ?_)))
    have e : kindsZ k = [1, 2] := by unfold kindsZ; rw [if_neg h4, if_neg h7, if_pos h10]
    rw [e]
    exact G.done (l := [.tmp 2]) rfl rfl ⟨⟨_, _, rfl⟩, rfl⟩ (by (repeat' constructor)) (by (repeat' constructor))
   ·refine G.seq (G.region (G.q (Quiet.int rfl rfl rfl) rfl (G.q (Quiet.assign rfl) rfl (G.nil (G.then_n ?_)))))
    refine G.condD rfl (fun h13 => ?_) (fun h13 => ?_)
    ·refine G.seq (G.region ?_)
     refine G.op (OpSpec.buildSlice1 (vs := [_]) el_52 ze_3 rfl rfl rfl rfl rfl (by decide)) (by (repeat' constructor)) rfl ?nx13
     rintro v L' ⟨bk, rfl, rfl⟩
     refine G.q (Quiet.assign rfl) rfl (G.nil ?_)
     refine G.slMake (b := bk) (n := 1) (c := 1) (xs := ints [3]) (by (repeat' constructor)) (Nat.le_refl _) (by decide) rfl ?_
     refine G.then_n (G.ret (G.blk_r (G.then_r ?_)))
     have e : kindsZ k = [3] := by unfold kindsZ; rw [if_neg h4, if_neg h7, if_neg h10, if_pos h13]
     rw [e]
     exact G.done (l := [.tmp 2]) rfl rfl ⟨⟨_, _, rfl⟩, rfl⟩ (by (repeat' constructor)) (by (repeat' constructor))
    ·refine G.skip (G.blk_n (G.then_n (G.seq (G.add (slR_nil 3 1) (G.region (G.q (Quiet.assign rfl) rfl (G.nil (G.then_n (G.ret ?_)))))))))
     have e : kindsZ k = [] := by unfold kindsZ; rw [if_neg h4, if_neg h7, if_neg h10, if_neg h13]
     rw [e]
     exact G.done (l := [.tmp 2]) rfl rfl ⟨⟨_, _, rfl⟩, rfl⟩ (by (repeat' constructor)) (by (repeat' constructor))

set_option maxRecDepth 100000 in
theorem wcount_spec (t : Nat) (ω : List Wt) (s : Int) : Fn Tryz.prog 35 #[vptr t, vint s] [tbR t ω] fun v L => v = vint (cntW ω s : Nat) ∧ L = [tbR t ω] := by
 refine Fn.intro (vs := [vptr t, vint s]) Tryz.func35 rfl rfl ?_
 intro F W
 refine G.tbOpen (ω := ω) (by (repeat' constructor)) fun rb rm m q hI => ?_
 refine G.seq (G.region (G.q (Quiet.assign rfl) rfl (G.nil (G.then_n (G.seq (G.region (G.q (Quiet.move rfl) rfl (G.q (Quiet.nilp rfl) rfl (G.q (Quiet.fieldAddr rfl fo_151_1) rfl ?_)))))))))
 refine G.q (Quiet.load rfl ag_149 (by (repeat' constructor)) (rfl)) rfl ?_
 refine G.q (Quiet.move rfl) rfl ?_
 refine G.q (Quiet.lookupV (m := q) (enc := idV) (KeyLaw.int Tryz.underlying3) (v := vint (cntW ω s : Nat)) (many_some hI s) (many_none hI s) rfl rfl Tryz.underlying149 ze_3 (by (repeat' constructor)) rfl) rfl ?_
 refine G.q (Quiet.assign rfl) rfl (G.nil (G.then_n (G.ret ?_)))
 refine G.tbFold hI (by (repeat' constructor)) rfl rfl rfl ?_
 exact G.done (l := [.tmp 4]) rfl rfl ⟨rfl, rfl⟩ (by (repeat' constructor)) (by (repeat' constructor))

set_option maxRecDepth 100000 in
theorem wadd_spec (t : Nat) (ω : List Wt) (s k : Int) (p : Bs) (hsm : s ≤ 9223372036854775807) (hs : p.length ≤ 1048576) : Fn Tryz.prog 34 #[vptr t, vint s, vint k, vstr p] [tbR t ω] fun v L => v = vint (addW ω s k p).2 ∧ L = [tbR t (addW ω s k p).1] := by
 refine Fn.intro (vs := [vptr t, vint s, vint k, vstr p]) Tryz.func34 rfl rfl ?_
 intro F W
 refine G.tbOpen (ω := ω) (by (repeat' constructor)) fun rb rm m q hI => ?_
 refine G.seq (G.region (G.q (Quiet.assign rfl) rfl (G.nil (G.then_n (G.seq (G.seq (G.region (G.q (Quiet.move rfl) rfl (G.q (Quiet.int rfl rfl rfl) rfl (G.q (Quiet.move rfl) rfl ?_))))))))))
 refine G.dec (t := 12) rfl (fun h1_12 => ?_) (fun h1_12 => ?_)
 ·refine G.kDT (t := 11) rfl h1_12 (G.gskip (t := 12) rfl rfl rfl rfl (G.gskip (t := 12) rfl rfl rfl rfl (G.gskip (t := 12) rfl rfl rfl rfl (G.gskip (t := 12) rfl rfl rfl rfl (G.q (Quiet.pickT rfl rfl) rfl (G.nil (G.then_n (G.condT rfl (G.seq (G.region (G.q (Quiet.assign rfl) rfl (G.nil (G.then_n (G.ret (G.then_r ?_)))))))))))))))
  have e : addW ω s k p = (ω, 1) := by unfold addW; rw [if_pos (by first | exact .inl h1_12 | exact .inr (by simpa using h17))]
  rw [e]
  refine G.tbFold hI (by (repeat' constructor)) rfl rfl rfl ?_
  exact G.done (l := [.tmp 8]) rfl rfl ⟨rfl, rfl⟩ (by (repeat' constructor)) (by (repeat' constructor))
 ·refine G.kDF (t := 11) rfl h1_12 (G.grun (t := 12) rfl rfl rfl (G.q (Quiet.move rfl) rfl (G.grun (t := 12) rfl rfl rfl (G.q (Quiet.move rfl) rfl (G.grun (t := 12) rfl rfl rfl ?_)))))
  refine G.op (OpSpec.call Tryz.func79 rfl rfl (vs := [_, _]) rfl (wis_spec k p hs)) (by (repeat' constructor)) rfl ?nx8
  rintro v L' ⟨rfl, rfl⟩
  refine G.grun (t := 12) rfl rfl rfl (G.q (Quiet.not rfl) rfl (G.q (Quiet.pickF rfl rfl) rfl (G.nil (G.then_n ?_))))
  refine G.condN rfl (fun h17 => ?_) (fun h17 => ?_)
  ·refine G.seq (G.region (G.q (Quiet.assign rfl) rfl (G.nil (G.then_n (G.ret (G.then_r ?_))))))
   have e : addW ω s k p = (ω, 1) := by unfold addW; rw [if_pos (by first | exact .inl h1_12 | exact .inr (by simpa using h17))]
   rw [e]
   refine G.tbFold hI (by (repeat' constructor)) rfl rfl rfl ?_
   exact G.done (l := [.tmp 8]) rfl rfl ⟨rfl, rfl⟩ (by (repeat' constructor)) (by (repeat' constructor))
  ·refine G.skip (G.then_n (G.seq (G.region ?_)))
   rcases hal : alook m (k, p) with _ | ⟨pb, l⟩; rotate_left; rcases hin : alook l s with _ | z; rotate_right
   ·have hnot : ¬ (s < 1 ∨ ¬ isWt k p) := by rintro (h | h); omega; exact h (by simpa using h17)
    have hmem : (s, (k, p)) ∉ ω := fun g => by obtain ⟨y, hy, -⟩ := (hI.mem _ _).1 g; rw [hal] at hy; cases hy
    refine G.q (Quiet.move rfl) rfl (G.q (Quiet.move rfl) rfl ?_)
    refine G.q (Quiet.build (us := [(0, _), (1, _)]) fl_154 ze_154 rfl rfl (by simp [isCell])) rfl ?_
    refine G.op (OpSpec.allocA ze_154) (by (repeat' constructor)) rfl ?nx15
    rintro v L' ⟨bsp, rfl, rfl⟩
    refine G.op (OpSpec.storeA rfl rfl ?c17 sz_154 ?c20 ?c18 ?c19) (by (repeat' constructor)) rfl ?nx21
    case c17 => (first | (simp [isCell]; done) | (simp [isCell, setAll, Value.cells]; done))
    case c20 => (first | (simp; done) | (simp [setAll, spl, Value.cells]; done))
    case c18 => (first | (simp; done) | (simp [setAll, spl, Value.cells]; done))
    case c19 => exact nfz0 _ _
    rintro v L' rfl
    refine G.nil ?_
    refine G.ptCast (b := bsp) (l' := [vint k, vstr p]) (by (repeat' constructor)) rfl ?_
    refine G.then_n (G.seq (G.seq ?_))
    refine G.draw [] [[0, 1, 2, 3, 4, 5, 6, 7, 8]] mixed (by kernel_rfl) ?_
    refine Phases.go [] (by (repeat' constructor)) ?_
    refine D.qw [1, 2, 3, 5, 7, 8] rfl (by kernel_rfl) (Quiet.move rfl) ?_
    refine D.qw [2, 3, 5, 7, 8] rfl (by kernel_rfl) (Quiet.nilp rfl) ?_
    refine D.qw [3, 5, 7, 8] rfl (by kernel_rfl) (Quiet.fieldAddr rfl fo_151_0) ?_
    refine D.qw [5, 7, 8] rfl (by kernel_rfl) (Quiet.load rfl ag_148 (by (repeat' constructor)) (rfl)) ?_
    refine D.qw [5, 7, 8] rfl (by kernel_rfl) (Quiet.loadAs (vs := [vint k, vstr p]) rfl ag_154 (by (repeat' constructor)) (by simp) rfl) ?_
    refine D.qw [7, 8] rfl (by kernel_rfl) (Quiet.lookupN (m := m) (enc := byV) spotK (hal) rfl rfl Tryz.underlying148 ze_149 (by (repeat' constructor)) rfl) ?_
    refine D.qw [7, 8] rfl (by kernel_rfl) (Quiet.move rfl) ?_
    refine D.qw [8] rfl (by kernel_rfl) (Quiet.lookupNil (KeyLaw.int Tryz.underlying3) rfl rfl Tryz.underlying149 ze_3) ?_
    refine D.qw [] rfl (by kernel_rfl) (Quiet.as (v' := .bool false) (by rfl) (Quiet.int rfl rfl rfl)) ?_
    refine D.ph (Phases.fin (G.then_n (G.condF rfl (G.skip (G.then_n (G.seq (G.seq ?_)))))))
    have hkw : isWt k p := Decidable.byContradiction fun e => hnot (.inr e)
    refine G.region (G.q (Quiet.move rfl) rfl (G.q (Quiet.nilp rfl) rfl (G.q (Quiet.fieldAddr rfl fo_151_1) rfl ?_)))
    refine G.q (Quiet.load rfl ag_149 (by (repeat' constructor)) (rfl)) rfl ?_
    refine G.q (Quiet.move rfl) rfl ?_
    refine G.q (Quiet.lookupV (m := q) (enc := idV) (KeyLaw.int Tryz.underlying3) (v := vint (cntW ω s : Nat)) (many_some hI s) (many_none hI s) rfl rfl Tryz.underlying149 ze_3 (by (repeat' constructor)) rfl) rfl ?_
    refine G.q (Quiet.int rfl rfl rfl) rfl (G.nil (G.then_n ?_))
    refine G.condD rfl (fun h36 => ?_) (fun h36 => ?_)
    ·refine G.seq (G.region (G.q (Quiet.assign rfl) rfl (G.nil (G.then_n (G.ret (G.then_r ?_))))))
     have e : addW ω s k p = (ω, 91) := by unfold addW; rw [if_neg hnot, if_neg hmem, if_pos (by omega)]
     rw [e]
     refine G.tbFold hI (by (repeat' constructor)) rfl rfl rfl ?_
     exact G.done (l := [.tmp 8]) rfl rfl ⟨rfl, rfl⟩ (by (repeat' constructor)) (by (repeat' constructor))
    ·refine G.skip (G.then_n (G.seq (G.seq ?_)))
     refine G.draw [] [[0, 1, 2, 3, 4, 5, 6]] mixed (by kernel_rfl) ?_
     refine Phases.go [] (by (repeat' constructor)) ?_
     refine D.qw [1, 2, 3, 5, 6] rfl (by kernel_rfl) (Quiet.move rfl) ?_
     refine D.qw [2, 3, 5, 6] rfl (by kernel_rfl) (Quiet.nilp rfl) ?_
     refine D.qw [3, 5, 6] rfl (by kernel_rfl) (Quiet.fieldAddr rfl fo_151_0) ?_
     refine D.qw [5, 6] rfl (by kernel_rfl) (Quiet.load rfl ag_148 (by (repeat' constructor)) (rfl)) ?_
     refine D.qw [5, 6] rfl (by kernel_rfl) (Quiet.loadAs (vs := [vint k, vstr p]) rfl ag_154 (by (repeat' constructor)) (by simp) rfl) ?_
     refine D.qw [6] rfl (by kernel_rfl) (Quiet.lookupN (m := m) (enc := byV) spotK (hal) rfl rfl Tryz.underlying148 ze_149 (by (repeat' constructor)) rfl) ?_
     refine D.qw [] rfl (by kernel_rfl) (Quiet.mapeq rfl rfl Tryz.underlying149) ?_
     refine D.ph (Phases.fin (G.then_n (G.condT rfl ?_)))
     refine G.draw [5, 6] [[0, 1, 2, 3, 4, 5], [6]] mixed (by kernel_rfl) ?_
     refine Phases.go [ptc bsp _ _, ptc t _ _] (by (repeat' constructor)) ?_
     refine D.q rfl (by kernel_rfl) (Quiet.move rfl) ?_
     refine D.q rfl (by kernel_rfl) (Quiet.nilp rfl) ?_
     refine D.q rfl (by kernel_rfl) (Quiet.fieldAddr rfl fo_151_0) ?_
     refine D.q rfl (by kernel_rfl) (Quiet.load rfl ag_148 (by (repeat' constructor)) (rfl)) ?_
     refine D.q rfl (by kernel_rfl) (Quiet.loadAs (vs := [vint k, vstr p]) rfl ag_154 (by (repeat' constructor)) (by simp) rfl) ?_
     refine D.h rfl (by kernel_rfl) (OpSpec.makeMap Tryz.underlying149) (by (repeat' constructor)) ?nx51
     rintro v L' ⟨pb, rfl, rfl⟩
     refine D.ph ?_
     refine Phases.go [] (by (repeat' constructor)) ?_
     refine D.h rfl (by kernel_rfl) (OpSpec.mapSet (m := m) (enc := byV) (v := (pb, [])) (k := (k, p)) spotK rfl rfl rfl Tryz.underlying148 ?he53) (by (repeat' constructor)) ?nx54
     case he53 => rfl
     rintro v L' rfl
     refine D.ph (Phases.fin ?_)
     refine G.fold (p := mapR pb []) (.cons (p := pt pb (.map #[] 0)) (by (repeat' constructor)) .nil) (fun h hp => mapR_new (sep_pt hp)) ?_
     refine G.then_n (G.seq ?_)
     refine G.draw [8] [[0, 1, 2, 3, 4, 5, 6, 7, 8]] mixed (by kernel_rfl) ?_
     refine Phases.go [] (by (repeat' constructor)) ?_
     refine D.qw [1, 2, 3, 5, 8] rfl (by kernel_rfl) (Quiet.move rfl) ?_
     refine D.qw [2, 3, 5, 8] rfl (by kernel_rfl) (Quiet.nilp rfl) ?_
     refine D.qw [3, 5, 8] rfl (by kernel_rfl) (Quiet.fieldAddr rfl fo_151_0) ?_
     refine D.qw [5, 8] rfl (by kernel_rfl) (Quiet.load rfl ag_148 (by (repeat' constructor)) (rfl)) ?_
     refine D.qw [5, 8] rfl (by kernel_rfl) (Quiet.loadAs (vs := [vint k, vstr p]) rfl ag_154 (by (repeat' constructor)) (by simp) rfl) ?_
     refine D.qw [8] rfl (by kernel_rfl) (Quiet.lookupY (m := aset m (k, p) (pb, [])) (enc := byV) spotK (by rw [al_aset, if_pos rfl]) rfl rfl Tryz.underlying148 ze_149 (by (repeat' constructor)) rfl) ?_
     refine D.qw [8] rfl (by kernel_rfl) (Quiet.move rfl) ?_
     refine D.qw [8] rfl (by kernel_rfl) (Quiet.move rfl) ?_
     refine D.h rfl (by kernel_rfl) (OpSpec.mapSet (m := []) (enc := idV) (v := s) (k := s) (KeyLaw.int Tryz.underlying3) rfl rfl rfl Tryz.underlying149 ?he63) (by (repeat' constructor)) ?nx64
     case he63 => rfl
     rintro v L' rfl
     refine D.ph (Phases.fin (G.then_n (G.seq ?_)))
     have hfew := hI.few s
     refine G.region (G.q (Quiet.move rfl) rfl (G.q (Quiet.nilp rfl) rfl (G.q (Quiet.fieldAddr rfl fo_151_1) rfl ?_)))
     refine G.q (Quiet.load rfl ag_149 (by (repeat' constructor)) (rfl)) rfl ?_
     refine G.q (Quiet.move rfl) rfl ?_
     refine G.q (Quiet.lookupV (m := q) (enc := idV) (KeyLaw.int Tryz.underlying3) (v := vint (cntW ω s : Nat)) (many_some hI s) (many_none hI s) rfl rfl Tryz.underlying149 ze_3 (by (repeat' constructor)) rfl) rfl ?_
     refine G.q (Quiet.add rfl rfl (by omega)) rfl ?_
     refine G.op (OpSpec.mapSet (m := q) (enc := idV) (v := ((cntW ω s : Nat) : Int) + 1) (k := s) (KeyLaw.int Tryz.underlying3) rfl rfl rfl Tryz.underlying149 ?he72) (by (repeat' constructor)) rfl ?nx73
     case he72 => rfl
     rintro v L' rfl
     refine G.nil (G.then_n (G.seq (G.region (G.q (Quiet.assign rfl) rfl (G.nil (G.then_n (G.ret ?_)))))))
     have e : addW ω s k p = (ω ++ [(s, (k, p))], 0) := by unfold addW; rw [if_neg hnot, if_neg hmem, if_neg (by omega)]
     rw [e]
     have hI2 := hI.ins (y := (pb, [])) hmem ⟨by omega, hsm⟩ ⟨hkw.1, hkw.2.1⟩ (by omega) (.inl ⟨hal, rfl⟩) rfl rfl
     refine G.bigPut (f := inW) (m := m) (k, p) (pb, aset [] s s) rfl (by rw [adel_none hal]; (repeat' constructor)) ?_
     refine G.tbFold hI2 (by (repeat' constructor)) rfl (by show byM (aset m (k, p) (pb, [])) = byM (aset m (k, p) (pb, aset [] s s)); rw [← aset_aset (v := (pb, [])) (w := (pb, aset [] s s))]; exact (byM_set (y := (pb, [])) (y' := (pb, aset [] s s)) (by rw [al_aset, if_pos rfl]) rfl).symm) rfl ?_
     exact G.done (l := [.tmp 8]) rfl rfl ⟨rfl, rfl⟩ (by (repeat' constructor)) (by (repeat' constructor))
   ·have hnot : ¬ (s < 1 ∨ ¬ isWt k p) := by rintro (h | h); omega; exact h (by simpa using h17)
    have hmem : (s, (k, p)) ∉ ω := fun g => by obtain ⟨y, hy, hm⟩ := (hI.mem _ _).1 g; rw [hal] at hy; cases hy; exact al_none.1 hin hm
    refine G.bigTake hal (by (repeat' constructor)) ?_
    refine G.q (Quiet.move rfl) rfl (G.q (Quiet.move rfl) rfl ?_)
    refine G.q (Quiet.build (us := [(0, _), (1, _)]) fl_154 ze_154 rfl rfl (by simp [isCell])) rfl ?_
    refine G.op (OpSpec.allocA ze_154) (by (repeat' constructor)) rfl ?nx78
    rintro v L' ⟨bsp, rfl, rfl⟩
    refine G.op (OpSpec.storeA rfl rfl ?c80 sz_154 ?c83 ?c81 ?c82) (by (repeat' constructor)) rfl ?nx84
    case c80 => (first | (simp [isCell]; done) | (simp [isCell, setAll, Value.cells]; done))
    case c83 => (first | (simp; done) | (simp [setAll, spl, Value.cells]; done))
    case c81 => (first | (simp; done) | (simp [setAll, spl, Value.cells]; done))
    case c82 => exact nfz0 _ _
    rintro v L' rfl
    refine G.nil ?_
    refine G.ptCast (b := bsp) (l' := [vint k, vstr p]) (by (repeat' constructor)) rfl ?_
    refine G.then_n (G.seq (G.seq ?_))
    refine G.draw [] [[0, 1, 2, 3, 4, 5, 6, 7, 8]] mixed (by kernel_rfl) ?_
    refine Phases.go [] (by (repeat' constructor)) ?_
    refine D.qw [1, 2, 3, 5, 7, 8] rfl (by kernel_rfl) (Quiet.move rfl) ?_
    refine D.qw [2, 3, 5, 7, 8] rfl (by kernel_rfl) (Quiet.nilp rfl) ?_
    refine D.qw [3, 5, 7, 8] rfl (by kernel_rfl) (Quiet.fieldAddr rfl fo_151_0) ?_
    refine D.qw [5, 7, 8] rfl (by kernel_rfl) (Quiet.load rfl ag_148 (by (repeat' constructor)) (rfl)) ?_
    refine D.qw [5, 7, 8] rfl (by kernel_rfl) (Quiet.loadAs (vs := [vint k, vstr p]) rfl ag_154 (by (repeat' constructor)) (by simp) rfl) ?_
    refine D.qw [7, 8] rfl (by kernel_rfl) (Quiet.lookupY (m := m) (enc := byV) spotK (hal) rfl rfl Tryz.underlying148 ze_149 (by (repeat' constructor)) rfl) ?_
    refine D.qw [7, 8] rfl (by kernel_rfl) (Quiet.move rfl) ?_
    refine D.qw [8] rfl (by kernel_rfl) (Quiet.lookupN (m := l) (enc := idV) (KeyLaw.int Tryz.underlying3) (hin) rfl rfl Tryz.underlying149 ze_3 (by (repeat' constructor)) rfl) ?_
    refine D.qw [] rfl (by kernel_rfl) (Quiet.as (v' := .bool false) (by rfl) (Quiet.int rfl rfl rfl)) ?_
    refine D.ph (Phases.fin (G.then_n (G.condF rfl (G.skip (G.then_n (G.seq (G.seq ?_)))))))
    have hkw : isWt k p := Decidable.byContradiction fun e => hnot (.inr e)
    refine G.region (G.q (Quiet.move rfl) rfl (G.q (Quiet.nilp rfl) rfl (G.q (Quiet.fieldAddr rfl fo_151_1) rfl ?_)))
    refine G.q (Quiet.load rfl ag_149 (by (repeat' constructor)) (rfl)) rfl ?_
    refine G.q (Quiet.move rfl) rfl ?_
    refine G.q (Quiet.lookupV (m := q) (enc := idV) (KeyLaw.int Tryz.underlying3) (v := vint (cntW ω s : Nat)) (many_some hI s) (many_none hI s) rfl rfl Tryz.underlying149 ze_3 (by (repeat' constructor)) rfl) rfl ?_
    refine G.q (Quiet.int rfl rfl rfl) rfl (G.nil (G.then_n ?_))
    refine G.condD rfl (fun h36 => ?_) (fun h36 => ?_)
    ·refine G.seq (G.region (G.q (Quiet.assign rfl) rfl (G.nil (G.then_n (G.ret (G.then_r ?_))))))
     have e : addW ω s k p = (ω, 91) := by unfold addW; rw [if_neg hnot, if_neg hmem, if_pos (by omega)]
     rw [e]
     refine G.bigPut (f := inW) (m := m) (k, p) (pb, l) rfl (by (repeat' constructor)) ?_
     rw [aset_self hal]
     refine G.tbFold hI (by (repeat' constructor)) rfl rfl rfl ?_
     exact G.done (l := [.tmp 8]) rfl rfl ⟨rfl, rfl⟩ (by (repeat' constructor)) (by (repeat' constructor))
    ·refine G.skip (G.then_n (G.seq (G.seq ?_)))
     refine G.draw [] [[0, 1, 2, 3, 4, 5, 6]] mixed (by kernel_rfl) ?_
     refine Phases.go [] (by (repeat' constructor)) ?_
     refine D.qw [1, 2, 3, 5, 6] rfl (by kernel_rfl) (Quiet.move rfl) ?_
     refine D.qw [2, 3, 5, 6] rfl (by kernel_rfl) (Quiet.nilp rfl) ?_
     refine D.qw [3, 5, 6] rfl (by kernel_rfl) (Quiet.fieldAddr rfl fo_151_0) ?_
     refine D.qw [5, 6] rfl (by kernel_rfl) (Quiet.load rfl ag_148 (by (repeat' constructor)) (rfl)) ?_
     refine D.qw [5, 6] rfl (by kernel_rfl) (Quiet.loadAs (vs := [vint k, vstr p]) rfl ag_154 (by (repeat' constructor)) (by simp) rfl) ?_
     refine D.qw [6] rfl (by kernel_rfl) (Quiet.lookupY (m := m) (enc := byV) spotK (hal) rfl rfl Tryz.underlying148 ze_149 (by (repeat' constructor)) rfl) ?_
     refine D.qw [] rfl (by kernel_rfl) (Quiet.mapeq rfl rfl Tryz.underlying149) ?_
     refine D.ph (Phases.fin (G.then_n (G.condF rfl (G.skip (G.then_n (G.seq ?_))))))
     refine G.draw [8] [[0, 1, 2, 3, 4, 5, 6, 7, 8]] mixed (by kernel_rfl) ?_
     refine Phases.go [] (by (repeat' constructor)) ?_
     refine D.qw [1, 2, 3, 5, 8] rfl (by kernel_rfl) (Quiet.move rfl) ?_
     refine D.qw [2, 3, 5, 8] rfl (by kernel_rfl) (Quiet.nilp rfl) ?_
     refine D.qw [3, 5, 8] rfl (by kernel_rfl) (Quiet.fieldAddr rfl fo_151_0) ?_
     refine D.qw [5, 8] rfl (by kernel_rfl) (Quiet.load rfl ag_148 (by (repeat' constructor)) (rfl)) ?_
     refine D.qw [5, 8] rfl (by kernel_rfl) (Quiet.loadAs (vs := [vint k, vstr p]) rfl ag_154 (by (repeat' constructor)) (by simp) rfl) ?_
     refine D.qw [8] rfl (by kernel_rfl) (Quiet.lookupY (m := m) (enc := byV) spotK (hal) rfl rfl Tryz.underlying148 ze_149 (by (repeat' constructor)) rfl) ?_
     refine D.qw [8] rfl (by kernel_rfl) (Quiet.move rfl) ?_
     refine D.qw [8] rfl (by kernel_rfl) (Quiet.move rfl) ?_
     refine D.h rfl (by kernel_rfl) (OpSpec.mapSet (m := l) (enc := idV) (v := s) (k := s) (KeyLaw.int Tryz.underlying3) rfl rfl rfl Tryz.underlying149 ?he117) (by (repeat' constructor)) ?nx118
     case he117 => rfl
     rintro v L' rfl
     refine D.ph (Phases.fin (G.then_n (G.seq ?_)))
     have hfew := hI.few s
     refine G.region (G.q (Quiet.move rfl) rfl (G.q (Quiet.nilp rfl) rfl (G.q (Quiet.fieldAddr rfl fo_151_1) rfl ?_)))
     refine G.q (Quiet.load rfl ag_149 (by (repeat' constructor)) (rfl)) rfl ?_
     refine G.q (Quiet.move rfl) rfl ?_
     refine G.q (Quiet.lookupV (m := q) (enc := idV) (KeyLaw.int Tryz.underlying3) (v := vint (cntW ω s : Nat)) (many_some hI s) (many_none hI s) rfl rfl Tryz.underlying149 ze_3 (by (repeat' constructor)) rfl) rfl ?_
     refine G.q (Quiet.add rfl rfl (by omega)) rfl ?_
     refine G.op (OpSpec.mapSet (m := q) (enc := idV) (v := ((cntW ω s : Nat) : Int) + 1) (k := s) (KeyLaw.int Tryz.underlying3) rfl rfl rfl Tryz.underlying149 ?he126) (by (repeat' constructor)) rfl ?nx127
     case he126 => rfl
     rintro v L' rfl
     refine G.nil (G.then_n (G.seq (G.region (G.q (Quiet.assign rfl) rfl (G.nil (G.then_n (G.ret ?_)))))))
     have e : addW ω s k p = (ω ++ [(s, (k, p))], 0) := by unfold addW; rw [if_neg hnot, if_neg hmem, if_neg (by omega)]
     rw [e]
     have hI2 := hI.ins (y := (pb, l)) hmem ⟨by omega, hsm⟩ ⟨hkw.1, hkw.2.1⟩ (by omega) (.inr hal) rfl rfl
     refine G.bigPut (f := inW) (m := m) (k, p) (pb, aset l s s) rfl (by (repeat' constructor)) ?_
     refine G.tbFold hI2 (by (repeat' constructor)) rfl (byM_set (y' := (pb, aset l s s)) hal rfl).symm rfl ?_
     exact G.done (l := [.tmp 8]) rfl rfl ⟨rfl, rfl⟩ (by (repeat' constructor)) (by (repeat' constructor))
   ·have hnot : ¬ (s < 1 ∨ ¬ isWt k p) := by rintro (h | h); omega; exact h (by simpa using h17)
    have hmem : (s, (k, p)) ∈ ω := (hI.mem _ _).2 ⟨_, hal, al_isSome.1 (by rw [hin]; rfl)⟩
    have hzs : s = z := ((hI.inn _ _ hal).2.2 _ (al_mem hin)).symm
    subst hzs
    refine G.bigTake hal (by (repeat' constructor)) ?_
    refine G.q (Quiet.move rfl) rfl (G.q (Quiet.move rfl) rfl ?_)
    refine G.q (Quiet.build (us := [(0, _), (1, _)]) fl_154 ze_154 rfl rfl (by simp [isCell])) rfl ?_
    refine G.op (OpSpec.allocA ze_154) (by (repeat' constructor)) rfl ?nx132
    rintro v L' ⟨bsp, rfl, rfl⟩
    refine G.op (OpSpec.storeA rfl rfl ?c134 sz_154 ?c137 ?c135 ?c136) (by (repeat' constructor)) rfl ?nx138
    case c134 => (first | (simp [isCell]; done) | (simp [isCell, setAll, Value.cells]; done))
    case c137 => (first | (simp; done) | (simp [setAll, spl, Value.cells]; done))
    case c135 => (first | (simp; done) | (simp [setAll, spl, Value.cells]; done))
    case c136 => exact nfz0 _ _
    rintro v L' rfl
    refine G.nil ?_
    refine G.ptCast (b := bsp) (l' := [vint k, vstr p]) (by (repeat' constructor)) rfl ?_
    refine G.then_n (G.seq (G.seq ?_))
    refine G.draw [] [[0, 1, 2, 3, 4, 5, 6, 7, 8]] mixed (by kernel_rfl) ?_
    refine Phases.go [] (by (repeat' constructor)) ?_
    refine D.qw [1, 2, 3, 5, 7, 8] rfl (by kernel_rfl) (Quiet.move rfl) ?_
    refine D.qw [2, 3, 5, 7, 8] rfl (by kernel_rfl) (Quiet.nilp rfl) ?_
    refine D.qw [3, 5, 7, 8] rfl (by kernel_rfl) (Quiet.fieldAddr rfl fo_151_0) ?_
    refine D.qw [5, 7, 8] rfl (by kernel_rfl) (Quiet.load rfl ag_148 (by (repeat' constructor)) (rfl)) ?_
    refine D.qw [5, 7, 8] rfl (by kernel_rfl) (Quiet.loadAs (vs := [vint k, vstr p]) rfl ag_154 (by (repeat' constructor)) (by simp) rfl) ?_
    refine D.qw [7, 8] rfl (by kernel_rfl) (Quiet.lookupY (m := m) (enc := byV) spotK (hal) rfl rfl Tryz.underlying148 ze_149 (by (repeat' constructor)) rfl) ?_
    refine D.qw [7, 8] rfl (by kernel_rfl) (Quiet.move rfl) ?_
    refine D.qw [8] rfl (by kernel_rfl) (Quiet.lookupY (m := l) (enc := idV) (KeyLaw.int Tryz.underlying3) (hin) rfl rfl Tryz.underlying149 ze_3 (by (repeat' constructor)) rfl) ?_
    refine D.qw [] rfl (by kernel_rfl) (Quiet.as (v' := .bool true) (by simp; omega) (Quiet.int rfl rfl rfl)) ?_
    refine D.ph (Phases.fin (G.then_n (G.condT rfl (G.seq (G.region (G.q (Quiet.assign rfl) rfl (G.nil (G.then_n (G.ret (G.then_r ?_))))))))))
    have e : addW ω s k p = (ω, 0) := by unfold addW; rw [if_neg hnot, if_pos hmem]
    rw [e]
    refine G.bigPut (f := inW) (m := m) (k, p) (pb, l) rfl (by (repeat' constructor)) ?_
    rw [aset_self hal]
    refine G.tbFold hI (by (repeat' constructor)) rfl rfl rfl ?_
    exact G.done (l := [.tmp 8]) rfl rfl ⟨rfl, rfl⟩ (by (repeat' constructor)) (by (repeat' constructor))

end Go.Proofs.YtnnbelmpbmfdnaaGreatDoor

/- Own work, by program: package watch: gone, Drop, Fire: walked. -/
namespace Go.Proofs.YtnnbelmpbmfdnaaGreatDoor
open Go
set_option maxRecDepth 100000 in
theorem wgone_spec (t : Nat) (ω : List Wt) (sp : Spot) (id : Int) (hm : (id, sp) ∈ ω) : Fn Tryz.prog 83 #[vptr t, .agg #[vint sp.1, vstr sp.2], vint id] [tbR t ω] fun v L => v = .tuple #[] ∧ L = [tbR t (rmW ω (id, sp))] := by
 refine Fn.intro (vs := [vptr t, .agg #[vint sp.1, vstr sp.2], vint id]) Tryz.func83 rfl rfl ?_
 intro F W
 refine G.tbOpen (ω := ω) (by (repeat' constructor)) fun rb rm m q hI => ?_
 obtain ⟨⟨pb, l⟩, hb, hin⟩ := (hI.mem id sp).1 hm
 dsimp only at hin
 have hfew := hI.few id
 refine G.bigTake hb (by (repeat' constructor)) ?_
 refine G.seq (G.region ?_)
 refine G.op (OpSpec.box rfl) (by (repeat' constructor)) rfl ?nx1
 rintro v L' ⟨bsp, rfl, rfl⟩
 refine G.nil ?_
 refine G.ptCast (b := bsp) (l' := [vint sp.1, vstr sp.2]) (by (repeat' constructor)) rfl ?_
 refine G.then_n (G.seq ?_)
 refine G.draw [7] [[0, 1, 2, 3, 4, 5, 6, 7]] mixed (by kernel_rfl) ?_
 refine Phases.go [] (by (repeat' constructor)) ?_
 refine D.qw [1, 2, 3, 5, 7] rfl (by kernel_rfl) (Quiet.move rfl) ?_
 refine D.qw [2, 3, 5, 7] rfl (by kernel_rfl) (Quiet.nilp rfl) ?_
 refine D.qw [3, 5, 7] rfl (by kernel_rfl) (Quiet.fieldAddr rfl fo_151_0) ?_
 refine D.qw [5, 7] rfl (by kernel_rfl) (Quiet.load rfl ag_148 (by (repeat' constructor)) (rfl)) ?_
 refine D.qw [5, 7] rfl (by kernel_rfl) (Quiet.loadAs (vs := [vint sp.1, vstr sp.2]) rfl ag_154 (by (repeat' constructor)) (by simp) rfl) ?_
 refine D.qw [7] rfl (by kernel_rfl) (Quiet.lookupY (m := m) (enc := byV) spotK (hb) rfl rfl Tryz.underlying148 ze_149 (by (repeat' constructor)) rfl) ?_
 refine D.qw [7] rfl (by kernel_rfl) (Quiet.move rfl) ?_
 refine D.h rfl (by kernel_rfl) (OpSpec.mapDel (m := l) (enc := idV) (k := id) (KeyLaw.int Tryz.underlying3) rfl rfl rfl Tryz.underlying149 ?he10) (by (repeat' constructor)) ?nx11
 case he10 => rfl
 rintro v L' rfl
 refine D.ph (Phases.fin (G.then_n (G.seq (G.seq ?_))))
 refine G.draw [] [[0, 1, 2, 3, 4, 5, 6, 7]] mixed (by kernel_rfl) ?_
 refine Phases.go [] (by (repeat' constructor)) ?_
 refine D.qw [1, 2, 3, 5, 6, 7] rfl (by kernel_rfl) (Quiet.move rfl) ?_
 refine D.qw [2, 3, 5, 6, 7] rfl (by kernel_rfl) (Quiet.nilp rfl) ?_
 refine D.qw [3, 5, 6, 7] rfl (by kernel_rfl) (Quiet.fieldAddr rfl fo_151_0) ?_
 refine D.qw [5, 6, 7] rfl (by kernel_rfl) (Quiet.load rfl ag_148 (by (repeat' constructor)) (rfl)) ?_
 refine D.qw [5, 6, 7] rfl (by kernel_rfl) (Quiet.loadAs (vs := [vint sp.1, vstr sp.2]) rfl ag_154 (by (repeat' constructor)) (by simp) rfl) ?_
 refine D.qw [6, 7] rfl (by kernel_rfl) (Quiet.lookupY (m := m) (enc := byV) spotK (hb) rfl rfl Tryz.underlying148 ze_149 (by (repeat' constructor)) rfl) ?_
 refine D.qw [7] rfl (by kernel_rfl) (Quiet.maplen rfl Tryz.underlying149 rfl (by (repeat' constructor))) ?_
 refine D.qw [] rfl (by kernel_rfl) (Quiet.int rfl rfl rfl) ?_
 refine D.ph (Phases.fin (G.then_n ?_))
 refine G.condD rfl (fun h20 => ?_) (fun h20 => ?_)
 ·refine G.draw [5] [[0, 1, 2, 3, 4, 5]] mixed (by kernel_rfl) ?_
  refine Phases.go [] (by (repeat' constructor)) ?_
  refine D.qw [1, 2, 3, 5] rfl (by kernel_rfl) (Quiet.move rfl) ?_
  refine D.qw [2, 3, 5] rfl (by kernel_rfl) (Quiet.nilp rfl) ?_
  refine D.qw [3, 5] rfl (by kernel_rfl) (Quiet.fieldAddr rfl fo_151_0) ?_
  refine D.qw [5] rfl (by kernel_rfl) (Quiet.load rfl ag_148 (by (repeat' constructor)) (rfl)) ?_
  refine D.qw [5] rfl (by kernel_rfl) (Quiet.loadAs (vs := [vint sp.1, vstr sp.2]) rfl ag_154 (by (repeat' constructor)) (by simp) rfl) ?_
  refine D.h rfl (by kernel_rfl) (OpSpec.mapDel (m := m) (enc := byV) (k := sp) spotK rfl rfl rfl Tryz.underlying148 ?he25) (by (repeat' constructor)) ?nx26
  case he25 => rfl
  rintro v L' rfl
  refine D.ph (Phases.fin (G.then_n (G.seq (G.region (G.q (Quiet.move rfl) rfl (G.q (Quiet.nilp rfl) rfl (G.q (Quiet.fieldAddr rfl fo_151_1) rfl ?_)))))))
  refine G.q (Quiet.load rfl ag_149 (by (repeat' constructor)) (rfl)) rfl ?_
  refine G.q (Quiet.move rfl) rfl ?_
  refine G.q (Quiet.lookupV (m := q) (enc := idV) (KeyLaw.int Tryz.underlying3) (v := vint (cntW ω id : Nat)) (many_some hI id) (many_none hI id) rfl rfl Tryz.underlying149 ze_3 (by (repeat' constructor)) rfl) rfl ?_
  refine G.q (Quiet.sub rfl rfl (by omega)) rfl ?_
  refine G.op (OpSpec.mapSet (m := q) (enc := idV) (v := ((cntW ω id : Nat) : Int) - 1) (k := id) (KeyLaw.int Tryz.underlying3) rfl rfl rfl Tryz.underlying149 ?he34) (by (repeat' constructor)) rfl ?nx35
  case he34 => rfl
  rintro v L' rfl
  refine G.nil (G.then_n (G.seq (G.region (G.q (Quiet.move rfl) rfl (G.q (Quiet.nilp rfl) rfl (G.q (Quiet.fieldAddr rfl fo_151_1) rfl ?_))))))
  refine G.q (Quiet.load rfl ag_149 (by (repeat' constructor)) (rfl)) rfl ?_
  refine G.q (Quiet.move rfl) rfl ?_
  refine G.q (Quiet.lookupY (m := aset q id (((cntW ω id : Nat) : Int) - 1)) (enc := idV) (KeyLaw.int Tryz.underlying3) (by rw [al_aset, if_pos rfl]) rfl rfl Tryz.underlying149 ze_3 (by (repeat' constructor)) rfl) rfl ?_
  refine G.q (Quiet.int rfl rfl rfl) rfl (G.nil (G.then_n ?_))
  refine G.condD rfl (fun h39 => ?_) (fun h39 => ?_)
  ·refine G.region (G.q (Quiet.move rfl) rfl (G.q (Quiet.nilp rfl) rfl (G.q (Quiet.fieldAddr rfl fo_151_1) rfl ?_)))
   refine G.q (Quiet.load rfl ag_149 (by (repeat' constructor)) (rfl)) rfl ?_
   refine G.q (Quiet.move rfl) rfl ?_
   refine G.op (OpSpec.mapDel (m := aset q id (((cntW ω id : Nat) : Int) - 1)) (enc := idV) (k := id) (KeyLaw.int Tryz.underlying3) rfl rfl rfl Tryz.underlying149 ?he48) (by (repeat' constructor)) rfl ?nx49
   case he48 => rfl
   rintro v L' rfl
   refine G.nil (G.done_n ?_)
   have hnil : adel l id = [] := by exact List.length_eq_zero_iff.1 (by simpa using h20)
   have hI2 := hI.gone hm hb (m' := adel m sp) (n' := adel (aset q id (((cntW ω id : Nat) : Int) - 1)) id) (by rw [if_pos hnil]) (by rw [if_pos (by omega)])
   refine G.tbFold hI2 (by (repeat' constructor)) rfl rfl rfl ?_
   exact G.done (l := []) rfl rfl ⟨rfl, rfl⟩ (by (repeat' constructor)) (by (repeat' constructor))
  ·refine G.skip (G.done_n ?_)
   have hnil : adel l id = [] := by exact List.length_eq_zero_iff.1 (by simpa using h20)
   have hI2 := hI.gone hm hb (m' := adel m sp) (n' := aset q id (((cntW ω id : Nat) : Int) - 1)) (by rw [if_pos hnil]) (by rw [if_neg (by omega)])
   refine G.tbFold hI2 (by (repeat' constructor)) rfl rfl rfl ?_
   exact G.done (l := []) rfl rfl ⟨rfl, rfl⟩ (by (repeat' constructor)) (by (repeat' constructor))
 ·refine G.skip (G.then_n (G.seq (G.region (G.q (Quiet.move rfl) rfl (G.q (Quiet.nilp rfl) rfl (G.q (Quiet.fieldAddr rfl fo_151_1) rfl ?_))))))
  refine G.q (Quiet.load rfl ag_149 (by (repeat' constructor)) (rfl)) rfl ?_
  refine G.q (Quiet.move rfl) rfl ?_
  refine G.q (Quiet.lookupV (m := q) (enc := idV) (KeyLaw.int Tryz.underlying3) (v := vint (cntW ω id : Nat)) (many_some hI id) (many_none hI id) rfl rfl Tryz.underlying149 ze_3 (by (repeat' constructor)) rfl) rfl ?_
  refine G.q (Quiet.sub rfl rfl (by omega)) rfl ?_
  refine G.op (OpSpec.mapSet (m := q) (enc := idV) (v := ((cntW ω id : Nat) : Int) - 1) (k := id) (KeyLaw.int Tryz.underlying3) rfl rfl rfl Tryz.underlying149 ?he57) (by (repeat' constructor)) rfl ?nx58
  case he57 => rfl
  rintro v L' rfl
  refine G.nil (G.then_n (G.seq (G.region (G.q (Quiet.move rfl) rfl (G.q (Quiet.nilp rfl) rfl (G.q (Quiet.fieldAddr rfl fo_151_1) rfl ?_))))))
  refine G.q (Quiet.load rfl ag_149 (by (repeat' constructor)) (rfl)) rfl ?_
  refine G.q (Quiet.move rfl) rfl ?_
  refine G.q (Quiet.lookupY (m := aset q id (((cntW ω id : Nat) : Int) - 1)) (enc := idV) (KeyLaw.int Tryz.underlying3) (by rw [al_aset, if_pos rfl]) rfl rfl Tryz.underlying149 ze_3 (by (repeat' constructor)) rfl) rfl ?_
  refine G.q (Quiet.int rfl rfl rfl) rfl (G.nil (G.then_n ?_))
  refine G.condD rfl (fun h39 => ?_) (fun h39 => ?_)
  ·refine G.region (G.q (Quiet.move rfl) rfl (G.q (Quiet.nilp rfl) rfl (G.q (Quiet.fieldAddr rfl fo_151_1) rfl ?_)))
   refine G.q (Quiet.load rfl ag_149 (by (repeat' constructor)) (rfl)) rfl ?_
   refine G.q (Quiet.move rfl) rfl ?_
   refine G.op (OpSpec.mapDel (m := aset q id (((cntW ω id : Nat) : Int) - 1)) (enc := idV) (k := id) (KeyLaw.int Tryz.underlying3) rfl rfl rfl Tryz.underlying149 ?he71) (by (repeat' constructor)) rfl ?nx72
   case he71 => rfl
   rintro v L' rfl
   refine G.nil (G.done_n ?_)
   have hnil : ¬ adel l id = [] := by intro e; apply h20; rw [e]; rfl
   have hI2 := hI.gone hm hb (m' := aset m sp (pb, adel l id)) (n' := adel (aset q id (((cntW ω id : Nat) : Int) - 1)) id) (by rw [if_neg hnil]) (by rw [if_pos (by omega)])
   refine G.bigPut (f := inW) (m := m) sp (pb, adel l id) rfl (by (repeat' constructor)) ?_
   refine G.tbFold hI2 (by (repeat' constructor)) rfl (byM_set (y' := (pb, adel l id)) hb rfl).symm rfl ?_
   exact G.done (l := []) rfl rfl ⟨rfl, rfl⟩ (by (repeat' constructor)) (by (repeat' constructor))
  ·refine G.skip (G.done_n ?_)
   have hnil : ¬ adel l id = [] := by intro e; apply h20; rw [e]; rfl
   have hI2 := hI.gone hm hb (m' := aset m sp (pb, adel l id)) (n' := aset q id (((cntW ω id : Nat) : Int) - 1)) (by rw [if_neg hnil]) (by rw [if_neg (by omega)])
   refine G.bigPut (f := inW) (m := m) sp (pb, adel l id) rfl (by (repeat' constructor)) ?_
   refine G.tbFold hI2 (by (repeat' constructor)) rfl (byM_set (y' := (pb, adel l id)) hb rfl).symm rfl ?_
   exact G.done (l := []) rfl rfl ⟨rfl, rfl⟩ (by (repeat' constructor)) (by (repeat' constructor))

theorem G.tbCast {W : World} {n : Nat} {ds : List Deferred} {E : Env} {L R : List HP} {X : Act → World → Prop} {t : Nat} {ω ω' : List Wt} (hL : Pick (tbR t ω) L R) (hw : ω' = ω) (h : G W n ds E (tbR t ω' :: R) X) : G W n ds E L X := by
  subst hw; exact G.focus hL h
set_option maxRecDepth 100000 in
theorem wdrop_spec (t : Nat) (ω : List Wt) (s : Int) (hlen : ω.length ≤ 1048576) : Fn Tryz.prog 89 #[vptr t, vint s] [tbR t ω] fun v L => v = .tuple #[] ∧ L = [tbR t (dropW ω s)] := by
 refine Fn.intro (vs := [vptr t, vint s]) Tryz.func89 rfl rfl ?_
 intro F W
 refine G.tbOpen (ω := ω) (by (repeat' constructor)) fun rb rm m q hI => ?_
 have hnd := hI.keys
 refine G.seq (G.region (G.q (Quiet.assign rfl) rfl (G.nil (G.then_n (G.seq (G.seq (G.add (slR_nil 154 2) (G.region (G.q (Quiet.move rfl) rfl (G.q (Quiet.nilp rfl) rfl (G.q (Quiet.fieldAddr rfl fo_151_0) rfl ?_)))))))))))
 refine G.q (Quiet.load rfl ag_148 (by (repeat' constructor)) (rfl)) rfl ?_
 refine G.op (OpSpec.range (f := fun x : Spot × (Nat × List (Int × Int)) => (spotV x.1, byV x.2)) (m := m) rfl Tryz.underlying148 ?he6) (by (repeat' constructor)) rfl ?nx7
 case he6 => rfl
 rintro v L' ⟨it, rfl, rfl⟩
 refine G.nil (G.then_n (G.block ?_))
 refine G.loopK (ι := By × Value × (List Spot)) (fun q E => (4, q.2.1) :: E) (fun q => [rangeR (fun x : Spot × (Nat × List (Int × Int)) => (spotV x.1, byV x.2)) it rb m q.1, bigR inW m, slR 154 2 q.2.1 q.2.2.length (q.2.2.flatMap spotC)]) (fun q => q.2.2 = (q.1.filter (hasW s)).map (·.1) ∧ (∃ rest, m.Perm (q.1 ++ rest)) ∧ ∃ a c, q.2.1 = .slice a q.2.2.length c) (fun q => m.length - q.1.length) (([], .slice none 0 0, [])) (ts := [0, 1, 13]) (.cons rfl (.cons rfl (.cons rfl (.nil)))) (⟨rfl, ⟨m, .refl _⟩, none, 0, rfl⟩) ⟨rfl, rfl, rfl, rfl, trivial⟩ (by (repeat' constructor)) ?_
 rintro ⟨ss, u, acc⟩ ⟨hacc, ⟨rest, hm⟩, au, cu, hu⟩
 dsimp only
 dsimp only at hacc hm hu
 subst hu
 have hml := hm.length_eq
 rw [List.length_append] at hml
 obtain ⟨hafew, hanod⟩ := acc_few hI hm s
 rw [← hacc] at hafew hanod
 refine G.seq (G.region ?_)
 refine G.op (OpSpec.next rfl) (by (repeat' constructor)) rfl ?nx9
 rintro v L' (⟨rfl, hp2, rfl⟩ | ⟨x, rest2, rfl, hp2, rfl⟩)
 ·refine G.rangeDone (by (repeat' constructor)) ?_
  refine G.tbFold hI (by (repeat' constructor)) rfl rfl rfl ?_
  have hacc2 : ∀ sp, (s, sp) ∈ ω ↔ sp ∈ acc := fun sp => by rw [has_mem hI, hacc]; exact ((hp2.filter _).map _).mem_iff
  refine G.q (Quiet.extract rfl rfl) rfl (G.nil (G.then_n (G.seq (G.condF rfl (G.exit (G.then_e (G.then_e (G.blk_e (G.then_n (G.seq (G.region (G.q (Quiet.move rfl) rfl (G.q (Quiet.slen rfl Tryz.underlying188 rfl) rfl (G.q (Quiet.move rfl) rfl (G.nil (G.then_n (G.block ?_)))))))))))))))))
  refine G.tbCast (ω' := dropL ω s (acc.take 0)) (by (repeat' constructor)) (by rw [List.take_zero, dropL_nil]) ?_
  refine G.loopK (ι := Nat) (fun q E => (29, vint q) :: E) (fun q => [tbR t (dropL ω s (acc.take q))]) (fun q => q ≤ acc.length) (fun q => acc.length - q) (0) (ts := [0, 1, 27, 28]) (.cons rfl (.cons rfl (.cons rfl (.cons rfl (.nil))))) (Nat.zero_le _) ⟨rfl, rfl, rfl, rfl, rfl, trivial⟩ (by (repeat' constructor)) ?_
  rintro i hi
  refine G.seq (G.region (G.q (Quiet.int rfl rfl rfl) rfl (G.nil (G.then_n (G.seq ?_)))))
  refine G.condD rfl (fun h30 => ?_) (fun h30 => ?_)
  ·have hi2 : i < acc.length := by omega
   refine G.slShape (v := .slice au _ cu) (by (repeat' constructor)) (by omega) fun b4 c4' e m4 _ => ?_
   simp only [Value.slice.injEq, true_and] at e
   obtain ⟨rfl, rfl⟩ := e
   have hnot : acc[i] ∉ acc.take i := take_not hanod hi2
   refine G.skip (G.then_n (G.seq (G.block (G.seq (G.region ?_)))))
   refine G.q (Quiet.indexAddr rfl rfl el_188 (by omega)) rfl ?_
   refine G.q (Quiet.loadRdA (sz := 2) (j := i * 2) (k := 2) (p := slR 154 2 _ acc.length (acc.flatMap spotC)) (vs := [vint acc[i].1, vstr acc[i].2]) rfl ag_154 (by (repeat' constructor)) (fun h hp => slR_rd hp) (by simp) (by omega) (by omega) (flatMap_at (f := spotC) (sz := 2) (fun _ _ => rfl) hi2)) rfl ?_
   refine G.op (OpSpec.allocA ze_154) (by (repeat' constructor)) rfl ?nx18
   rintro v L' ⟨b8, rfl, rfl⟩
   refine G.op (OpSpec.storeA rfl rfl ?c20 sz_154 ?c23 ?c21 ?c22) (by (repeat' constructor)) rfl ?nx24
   case c20 => (first | (simp [isCell]; done) | (simp [isCell, setAll, Value.cells]; done))
   case c23 => (first | (simp; done) | (simp [setAll, spl, Value.cells]; done))
   case c21 => (first | (simp; done) | (simp [setAll, spl, Value.cells]; done))
   case c22 => exact nfz0 _ _
   rintro v L' rfl
   refine G.nil ?_
   refine G.ptCast (b := b8) (l' := [vint acc[i].1, vstr acc[i].2]) (by (repeat' constructor)) rfl ?_
   refine G.then_n (G.region (G.q (Quiet.move rfl) rfl ?_))
   refine G.q (Quiet.loadAs (vs := [vint acc[i].1, vstr acc[i].2]) rfl ag_154 (by (repeat' constructor)) (by simp) rfl) rfl ?_
   refine G.q (Quiet.move rfl) rfl ?_
   refine G.op (OpSpec.call Tryz.func83 rfl rfl (vs := [_, _, _]) rfl (wgone_spec t (dropL ω s (acc.take i)) acc[i] s (dropL_mem ((hacc2 _).2 (List.getElem_mem hi2)) hnot))) (by (repeat' constructor)) rfl ?nx28
   rintro v L' ⟨rfl, rfl⟩
   refine G.nil (G.blk_n (G.then_n (G.region ?_)))
   refine G.q (Quiet.add rfl rfl (by omega)) rfl ?_
   refine G.q (Quiet.move rfl) rfl (G.nil (G.then_n ?_))
   rw [dropL_step, ← List.take_succ_eq_append_getElem hi2]
   exact G.roundK (i + 1) (by omega) (by omega) ⟨rfl, rfl, rfl, rfl, rfl, trivial⟩ (by (repeat' constructor)) (by ((repeat (apply Have.cons; (repeat (first | exact Pick.here | apply Pick.there)))); apply Have.base; repeat' constructor))
  ·have hii : i = acc.length := by omega
   rw [hii, List.take_length, dropL_all (fun sp h => (hacc2 sp).1 h)]
   refine G.exit (G.then_e (G.then_e (G.blk_e (G.done_n ?_))))
   exact G.done (l := []) rfl rfl ⟨rfl, rfl⟩ (by (repeat' constructor)) (by (repeat' constructor))
 ·refine G.q (Quiet.extract rfl rfl) rfl (G.nil (G.then_n (G.seq (G.condT rfl (G.skip (G.then_n (G.block (G.seq (G.region ?_)))))))))
  refine G.q (Quiet.entryE (v := .tuple #[spotV x.1, byV x.2]) rfl (by (repeat' constructor)) rfl) rfl ?_
  refine G.q (Quiet.extract rfl rfl) rfl (G.q (Quiet.extract rfl rfl) rfl ?_)
  refine G.op (OpSpec.allocA ze_154) (by (repeat' constructor)) rfl ?nx36
  rintro v L' ⟨bs5, rfl, rfl⟩
  refine G.op (OpSpec.storeA rfl rfl ?c38 sz_154 ?c41 ?c39 ?c40) (by (repeat' constructor)) rfl ?nx42
  case c38 => (first | (simp [isCell]; done) | (simp [isCell, setAll, Value.cells]; done))
  case c41 => (first | (simp; done) | (simp [setAll, spl, Value.cells]; done))
  case c39 => (first | (simp; done) | (simp [setAll, spl, Value.cells]; done))
  case c40 => exact nfz0 _ _
  rintro v L' rfl
  refine G.q (Quiet.assign rfl) rfl (G.nil ?_)
  refine G.ptCast (b := bs5) (l' := [vint x.1.1, vstr x.1.2]) (by (repeat' constructor)) rfl ?_
  have hxm : x ∈ m := hp2.mem_iff.2 (by simp)
  have hxb : alook m x.1 = some x.2 := al_of_mem hnd hxm
  refine G.bigTake hxb (by (repeat' constructor)) ?_
  refine G.then_n (G.seq (G.region (G.q (Quiet.move rfl) rfl (G.q (Quiet.move rfl) rfl ?_))))
  refine G.q (Quiet.lookupV (m := x.2.2) (enc := idV) (v := vint (if s ∈ x.2.2.map (·.1) then s else 0)) (KeyLaw.int Tryz.underlying3) (fun b hb => by rw [if_pos (al_isSome.1 (by rw [hb]; rfl))]; exact congrArg vint ((hI.inn _ _ hxb).2.2 _ (al_mem hb))) (fun h0 => by rw [if_neg (al_none.1 h0)]) rfl rfl Tryz.underlying149 ze_3 (by (repeat' constructor)) rfl) rfl ?_
  refine G.q (Quiet.int rfl rfl rfl) rfl (G.nil (G.then_n ?_))
  refine G.condN rfl (fun h22 => ?_) (fun h22 => ?_)
  ·have hin : s ∈ x.2.2.map (·.1) := Decidable.byContradiction fun e => by rw [if_neg e] at h22; exact h22 rfl
   refine G.region (G.q (Quiet.move rfl) rfl ?_)
   refine G.q (Quiet.loadAs (vs := [vint x.1.1, vstr x.1.2]) rfl ag_154 (by (repeat' constructor)) (by simp) rfl) rfl ?_
   refine G.op (OpSpec.buildSlice (vs := [_]) el_188 ze_154 rfl rfl rfl rfl (by first | (simp [Value.cells]; done) | (intro v hv; simp only [List.mem_cons, List.not_mem_nil, or_false] at hv; (repeat (first | (subst hv; rfl) | (rcases hv with hv | hv; (subst hv; rfl)))))) (by decide)) (by (repeat' constructor)) rfl ?nx48
   rintro v L' ⟨b5_2, rfl, rfl⟩
   refine G.op (OpSpec.append1 rfl rfl rfl el_188 ze_154 rfl rfl ?c50 ?c51 (Nat.le_refl _) ?c52 (by decide)) (by (repeat' constructor)) rfl ?nx53
   case c50 => (first | (simp [isCell]; done) | (simp [isCell, setAll, Value.cells]; done))
   case c51 => rfl
   case c52 => omega
   rintro v L' ⟨⟨a5_3, c5_3, rfl⟩, rfl⟩
   refine G.q (Quiet.assign rfl) rfl (G.nil (G.blk_n (G.then_n ?_)))
   have hl := hp2.length_eq
   simp at hl
   refine G.bigPut (f := inW) (m := m) x.1 x.2 (p := mapR x.2.1 (intM x.2.2)) rfl (by (repeat' constructor)) ?_
   rw [aset_self hxb]
   rw [show acc.flatMap spotC ++ (List.map (fun v => v.cells.toList) [Value.agg #[vint x.1.1, vstr x.1.2]]).flatten = (acc ++ [x.1]).flatMap spotC by simp [spotC, Value.cells], show acc.length + 1 = (acc ++ [x.1]).length by simp]
   exact G.roundK ((ss ++ [x], .slice a5_3 (acc ++ [x.1]).length c5_3, acc ++ [x.1])) (⟨by dsimp only; rw [hacc, List.filter_append]; simp [hasW, hin], ⟨_, by simpa using hp2⟩, _, _, rfl⟩) (by dsimp only; simp; omega) ⟨rfl, rfl, rfl, rfl, trivial⟩ (by (repeat' constructor)) (by ((repeat (apply Have.cons; (repeat (first | exact Pick.here | apply Pick.there)))); apply Have.base; repeat' constructor))
  ·have hin : ¬ s ∈ x.2.2.map (·.1) := fun e => by rw [if_pos e] at h22; have := (hI.fit (s, x.1) ((hI.mem _ _).2 ⟨_, hxb, e⟩)).1; dsimp only at this; omega
   refine G.skip (G.blk_n (G.then_n ?_))
   have hl := hp2.length_eq
   simp at hl
   refine G.bigPut (f := inW) (m := m) x.1 x.2 (p := mapR x.2.1 (intM x.2.2)) rfl (by (repeat' constructor)) ?_
   rw [aset_self hxb]
   exact G.roundK ((ss ++ [x], _, acc)) (⟨by dsimp only; rw [hacc, List.filter_append]; simp [hasW, hin], ⟨_, by simpa using hp2⟩, _, _, rfl⟩) (by dsimp only; simp; omega) ⟨rfl, rfl, rfl, rfl, trivial⟩ (by (repeat' constructor)) (by ((repeat (apply Have.cons; (repeat (first | exact Pick.here | apply Pick.there)))); apply Have.base; repeat' constructor))

end Go.Proofs.YtnnbelmpbmfdnaaGreatDoor

