/- Own work, by program: package tree: erase, part, Apply and what is told of a tree: walked. -/
import Derived.Test.YtnnbelmpbmfdnaaDoorTree
namespace Go.Proofs.YtnnbelmpbmfdnaaDoor
open Go
theorem trkeys_spec (mb : Option Nat) : Fn Tryd.prog 72 #[.map mb] [] fun v L => ∃ b, v = .func (.func 90) #[] #[vptr b] ∧ L = [ptc b [.map mb] 87] :=
  keysS_fn Tryd.keysS mb
theorem trsorted_spec {b r : Nat} {T : TypeId} (m : NmM) (hnd : (m.map (·.1)).Nodup) (hbd : ∀ x ∈ m, x.1.length ≤ 60) (hlen : m.length ≤ 1099511627776) :
    Fn Tryd.prog 71 #[.func (.func 90) #[] #[vptr b]] [ptc b [.map (some r)] T, mapR r (ndE m)] fun v L => (∃ a c, v = .slice a m.length c) ∧ L = [slR 9 1 v m.length (strs (sortS (m.map (·.1)))), mapR r (ndE m)] :=
  sortedS_fn Tryd.keysS Tryd.sortedS Tryd.sortS rfl (enters_of Tryd.func57 rfl rfl) (enters_of Tryd.func90 rfl rfl) Tryd.underlying9 (enc := ndV) (b := b) (r := r) (T := T) m hnd (fun x hx => Nat.le_trans (hbd x hx) (by decide)) hlen
theorem sortstr_spec (v : Value) (n : Nat) (xs : List Bs) (hn : n < 4611686018427387904) : Fn Tryd.prog 57 #[v] [slR 9 1 v n (strs xs)] fun u L => u = .tuple #[] ∧ L = [slR 9 1 v n (strs (sortS xs))] :=
  sortS_fn Tryd.sortS 9 v n xs hn
set_option maxRecDepth 100000 in
theorem trkids0_spec (t rn : Nat) (vs vz : Value) (m : NmM) (p : Bs) (hlen : ∀ x ∈ m, x.1.length ≤ 60) (hm0 : m.length ≤ 1099511627776) : Fn Tryd.prog 38 #[vptr t, vstr p] [ptc t [.map (some rn), vs, vz] 90, mapR rn (ndE m)] fun v L => (∃ a c, v = .slice a (kidsM m p).length c) ∧ L = [ptc t [.map (some rn), vs, vz] 90, mapR rn (ndE m), slR 9 1 v (kidsM m p).length (strs (sortS (kidsM m p)))] := by
  refine Fn.intro (vs := [vptr t, vstr p]) Tryd.func38 rfl rfl ?_
  intro F W
  refine G.seq ?_
  refine G.region ?_
  refine G.q (Quiet.assign rfl) rfl ?_
  refine G.nil ?_
  refine G.then_n ?_
  refine G.seq ?_
  refine G.add (slR_nil 9 1) ?_
  refine G.region ?_
  refine G.q (Quiet.assign rfl) rfl ?_
  refine G.nil ?_
  refine G.then_n ?_
  refine G.seq ?_
  refine G.seq ?_
  refine G.region ?_
  refine G.q (Quiet.move rfl) rfl ?_
  refine G.q (Quiet.nilp rfl) rfl ?_
  refine G.q (Quiet.fieldAddr rfl fo_90_0) rfl ?_
  refine G.q (Quiet.load rfl ag_87 (by (repeat (first | exact Pick.here | apply Pick.there))) (rfl)) rfl ?_
  refine G.op (OpSpec.range (f := fun x : Bs × Nm => (vstr x.1, ndV x.2)) (m := m) rfl Tryd.underlying87 ?he7) (by (repeat (first | exact Picks.nil | (apply Picks.cons; (repeat (first | exact Pick.here | apply Pick.there)))))) rfl ?nx8
  case he7 => rfl
  rintro v L' ⟨it, rfl, rfl⟩
  refine G.nil ?_
  refine G.then_n ?_
  refine G.block ?_
  refine G.loopK (ι := NmM × Value × (List Bs)) (fun q E => (5, q.2.1) :: E) (fun q => [rangeR (fun x : Bs × Nm => (vstr x.1, ndV x.2)) it rn m q.1, slR 9 1 q.2.1 q.2.2.length (strs q.2.2)]) (fun q => q.2.2 = kidsM q.1 p ∧ (∃ rest, m.Perm (q.1 ++ rest)) ∧ ∃ a c, q.2.1 = .slice a q.2.2.length c) (fun q => m.length - q.1.length) ([], .slice none 0 0, []) (ts := [1, 4, 11]) (.cons rfl (.cons rfl (.cons rfl (.nil)))) (⟨rfl, ⟨m, .refl _⟩, none, 0, rfl⟩) ⟨rfl, rfl, rfl, rfl, trivial⟩ (by (repeat (first | exact Picks.nil | (apply Picks.cons; (repeat (first | exact Pick.here | apply Pick.there)))))) ?_
  rintro ⟨ss, u, acc⟩ ⟨hacc, ⟨rest, hm⟩, au, cu, hu⟩
  dsimp only
  dsimp only at hacc hm hu
  subst hu
  have hml := hm.length_eq
  rw [List.length_append] at hml
  have hkl := kidsM_len ss p
  rw [← hacc] at hkl
  refine G.seq ?_
  refine G.region ?_
  refine G.op (OpSpec.next rfl) (by (repeat (first | exact Picks.nil | (apply Picks.cons; (repeat (first | exact Pick.here | apply Pick.there)))))) rfl ?nx10
  rintro v L' (⟨rfl, hp3, rfl⟩ | ⟨x, rest3, rfl, hp3, rfl⟩)
  · refine G.rangeDone (by (repeat (first | exact Pick.here | apply Pick.there))) ?_
    have hperm : acc.Perm (kidsM m p) := by rw [hacc]; unfold kidsM; exact ((hp3.symm.filter _).map _)
    have hpl := hperm.length_eq
    have hsp := sortS_of_perm hperm
    have hkm := kidsM_len m p
    refine G.q (Quiet.extract rfl rfl) rfl ?_
    refine G.nil ?_
    refine G.then_n ?_
    refine G.seq ?_
    refine G.condF rfl ?_
    refine G.exit ?_
    refine G.then_e ?_
    refine G.then_e ?_
    refine G.blk_e ?_
    refine G.then_n ?_
    refine G.seq ?_
    refine G.region ?_
    refine G.q (Quiet.move rfl) rfl ?_
    refine G.op (OpSpec.call Tryd.func57 rfl rfl (vs := [_]) rfl (sortstr_spec _ acc.length acc (by omega))) (by (repeat (first | exact Picks.nil | (apply Picks.cons; (repeat (first | exact Pick.here | apply Pick.there)))))) rfl ?nx14
    rintro v L' ⟨rfl, rfl⟩; rw [hsp, hpl]
    refine G.nil ?_
    refine G.then_n ?_
    refine G.seq ?_
    refine G.region ?_
    refine G.q (Quiet.move rfl) rfl ?_
    refine G.q (Quiet.assign rfl) rfl ?_
    refine G.nil ?_
    refine G.then_n ?_
    refine G.ret ?_
    exact G.done (l := [.tmp 4]) rfl rfl ⟨⟨_, _, rfl⟩, rfl⟩ (by (repeat (first | exact Picks.nil | (apply Picks.cons; (repeat (first | exact Pick.here | apply Pick.there)))))) (by (repeat (first | exact Suff.here | apply Suff.there)))
  · refine G.q (Quiet.extract rfl rfl) rfl ?_
    refine G.nil ?_
    refine G.then_n ?_
    refine G.seq ?_
    refine G.condT rfl ?_
    refine G.skip ?_
    refine G.then_n ?_
    refine G.block ?_
    refine G.seq ?_
    refine G.region ?_
    refine G.q (Quiet.entryE (v := .tuple #[vstr x.1, ndV x.2]) rfl (by (repeat (first | exact Pick.here | apply Pick.there))) rfl) rfl ?_
    refine G.q (Quiet.extract rfl rfl) rfl ?_
    refine G.q (Quiet.assign rfl) rfl ?_
    refine G.nil ?_
    have hxm : x ∈ m := hp3.mem_iff.2 (by simp)
    have hxl := hlen x hxm
    refine G.then_n ?_
    refine G.seq ?_
    refine G.region ?_
    refine G.q (Quiet.move rfl) rfl ?_
    refine G.q (Quiet.strne rfl rfl) rfl ?_
    refine G.q (Quiet.move rfl) rfl ?_
    refine G.ndec (t := 18) rfl (fun h5_18 => ?_) (fun h5_18 => ?_)
    · refine G.kNT (t := 17) rfl h5_18 ?_
      refine G.grun (t := 18) rfl rfl rfl ?_
      refine G.q (Quiet.move rfl) rfl ?_
      refine G.grun (t := 18) rfl rfl rfl ?_
      refine G.op (OpSpec.call Tryd.func55 rfl rfl (vs := [_]) rfl (parent_spec x.1 (by omega))) (by (repeat (first | exact Picks.nil | (apply Picks.cons; (repeat (first | exact Pick.here | apply Pick.there)))))) rfl ?nx22
      rintro v L' ⟨rfl, rfl⟩
      refine G.grun (t := 18) rfl rfl rfl ?_
      refine G.q (Quiet.move rfl) rfl ?_
      refine G.grun (t := 18) rfl rfl rfl ?_
      refine G.q (Quiet.streq rfl rfl) rfl ?_
      refine G.q (Quiet.pickT rfl rfl) rfl ?_
      refine G.nil ?_
      refine G.then_n ?_
      refine G.condD rfl (fun h23 => ?_) (fun h23 => ?_)
      · refine G.region ?_
        refine G.q (Quiet.move rfl) rfl ?_
        refine G.q (Quiet.move rfl) rfl ?_
        refine G.op (OpSpec.call Tryd.func56 rfl rfl (vs := [_]) rfl (base_spec x.1 (by omega))) (by (repeat (first | exact Picks.nil | (apply Picks.cons; (repeat (first | exact Pick.here | apply Pick.there)))))) rfl ?nx27
        rintro v L' ⟨rfl, rfl⟩
        refine G.op (OpSpec.buildSlice1 (vs := [_]) el_78 ze_9 rfl rfl rfl rfl rfl (by decide)) (by (repeat (first | exact Picks.nil | (apply Picks.cons; (repeat (first | exact Pick.here | apply Pick.there)))))) rfl ?nx29
        rintro v L' ⟨b6_3, rfl, rfl⟩
        refine G.op (OpSpec.append1 rfl rfl rfl el_78 ze_9 rfl rfl ?c31 ?c32 (Nat.le_refl _) ?c33 (by decide)) (by (repeat (first | exact Picks.nil | (apply Picks.cons; (repeat (first | exact Pick.here | apply Pick.there)))))) rfl ?nx34
        case c31 => (first | (simp [isCell]; done) | (simp [isCell, setAll, Value.cells]; done))
        case c32 => rfl
        case c33 => omega
        rintro v L' ⟨⟨a6_4, c6_4, rfl⟩, rfl⟩
        refine G.q (Quiet.assign rfl) rfl ?_
        refine G.nil ?_
        refine G.blk_n ?_
        refine G.then_n ?_
        have hl := hp3.length_eq
        simp at hl
        have hsel : ¬ x.1 = [47] ∧ parentZ x.1 = p := ⟨h5_18, h23⟩
        rw [show strs acc ++ [vstr (baseZ x.1)] = strs (acc ++ [baseZ x.1]) by simp [strs], show acc.length + 1 = (acc ++ [baseZ x.1]).length by simp]
        exact G.roundK ((ss ++ [x], .slice a6_4 (acc ++ [baseZ x.1]).length c6_4, acc ++ [baseZ x.1])) (⟨by dsimp only; rw [hacc]; unfold kidsM; rw [List.filter_append, List.map_append]; simp [hsel], ⟨_, by simpa using hp3⟩, _, _, rfl⟩) (by dsimp only; simp; omega) ⟨rfl, rfl, rfl, rfl, trivial⟩ (by (repeat (first | exact Picks.nil | (apply Picks.cons; (repeat (first | exact Pick.here | apply Pick.there)))))) (by ((repeat (apply Have.cons; (repeat (first | exact Pick.here | apply Pick.there)))); apply Have.base; repeat (first | exact Suff.here | apply Suff.there)))
      · refine G.skip ?_
        refine G.blk_n ?_
        refine G.then_n ?_
        have hl := hp3.length_eq
        simp at hl
        have hsel : ¬ x.1 = [47] → ¬ parentZ x.1 = p := fun g1 g2 => h23 g2
        exact G.roundK ((ss ++ [x], .slice au acc.length cu, acc)) (⟨by dsimp only; rw [hacc]; unfold kidsM; rw [List.filter_append, List.map_append]; simp; exact hsel, ⟨_, by simpa using hp3⟩, _, _, rfl⟩) (by dsimp only; simp; omega) ⟨rfl, rfl, rfl, rfl, trivial⟩ (by (repeat (first | exact Picks.nil | (apply Picks.cons; (repeat (first | exact Pick.here | apply Pick.there)))))) (by ((repeat (apply Have.cons; (repeat (first | exact Pick.here | apply Pick.there)))); apply Have.base; repeat (first | exact Suff.here | apply Suff.there)))
    · refine G.kNF (t := 17) rfl h5_18 ?_
      refine G.gskip (t := 18) rfl rfl rfl rfl ?_
      refine G.gskip (t := 18) rfl rfl rfl rfl ?_
      refine G.gskip (t := 18) rfl rfl rfl rfl ?_
      refine G.gskip (t := 18) rfl rfl rfl rfl ?_
      refine G.q (Quiet.pickF rfl rfl) rfl ?_
      refine G.nil ?_
      refine G.then_n ?_
      refine G.condF rfl ?_
      refine G.skip ?_
      refine G.blk_n ?_
      refine G.then_n ?_
      have hl := hp3.length_eq
      simp at hl
      have hsel : ¬ x.1 = [47] → ¬ parentZ x.1 = p := fun g1 g2 => g1 h5_18
      exact G.roundK ((ss ++ [x], .slice au acc.length cu, acc)) (⟨by dsimp only; rw [hacc]; unfold kidsM; rw [List.filter_append, List.map_append]; simp; exact hsel, ⟨_, by simpa using hp3⟩, _, _, rfl⟩) (by dsimp only; simp; omega) ⟨rfl, rfl, rfl, rfl, trivial⟩ (by (repeat (first | exact Picks.nil | (apply Picks.cons; (repeat (first | exact Pick.here | apply Pick.there)))))) (by ((repeat (apply Have.cons; (repeat (first | exact Pick.here | apply Pick.there)))); apply Have.base; repeat (first | exact Suff.here | apply Suff.there)))

set_option maxRecDepth 100000 in
theorem trpaths_spec (t : Nat) (τ : Tr) (N : Nat) (ho : τ.Ok N) (hN : N ≤ 1099511627776) : Fn Tryd.prog 60 #[vptr t] [treeR t τ] fun v L => (∃ a c, v = .slice a (pathsZ τ).length c) ∧ L = [treeR t τ, slR 9 1 v (pathsZ τ).length (strs (pathsZ τ))] := by
  refine Fn.intro (vs := [vptr t]) Tryd.func60 rfl rfl ?_
  intro F W
  refine G.trOpen (τ := τ) (by (repeat (first | exact Pick.here | apply Pick.there))) fun rn rs m s hI => ?_
  have hlen := hI.len ho
  have hfew := ho.few
  have hpz : (pathsZ τ).length = τ.nodes.length := List.length_map _
  refine G.seq ?_
  refine G.region ?_
  refine G.q (Quiet.assign rfl) rfl ?_
  refine G.nil ?_
  refine G.then_n ?_
  refine G.seq ?_
  refine G.region ?_
  refine G.q (Quiet.move rfl) rfl ?_
  refine G.q (Quiet.nilp rfl) rfl ?_
  refine G.q (Quiet.fieldAddr rfl fo_90_0) rfl ?_
  refine G.q (Quiet.load rfl ag_87 (by (repeat (first | exact Pick.here | apply Pick.there))) (rfl)) rfl ?_
  refine G.op (OpSpec.call Tryd.func72 rfl rfl (vs := [_]) rfl (trkeys_spec _)) (by (repeat (first | exact Picks.nil | (apply Picks.cons; (repeat (first | exact Pick.here | apply Pick.there)))))) rfl ?nx6
  rintro v L' ⟨bk, rfl, rfl⟩
  refine G.op (OpSpec.call Tryd.func71 rfl rfl (vs := [_]) rfl (trsorted_spec m hI.keys (hI.plen ho) (by omega))) (by (repeat (first | exact Picks.nil | (apply Picks.cons; (repeat (first | exact Pick.here | apply Pick.there)))))) rfl ?nx8
  rintro v L' ⟨⟨ap, cp, rfl⟩, rfl⟩; rw [hI.paths ho, show m.length = (pathsZ τ).length by omega]
  refine G.q (Quiet.assign rfl) rfl ?_
  refine G.nil ?_
  refine G.then_n ?_
  refine G.ret ?_
  refine G.trFold (τ := τ) hI (by (repeat (first | exact Picks.nil | (apply Picks.cons; (repeat (first | exact Pick.here | apply Pick.there)))))) rfl rfl rfl ?_
  exact G.done (l := [.tmp 2]) rfl rfl ⟨⟨_, _, rfl⟩, rfl⟩ (by (repeat (first | exact Picks.nil | (apply Picks.cons; (repeat (first | exact Pick.here | apply Pick.there)))))) (by (repeat (first | exact Suff.here | apply Suff.there)))

set_option maxRecDepth 100000 in
theorem trlayzx_spec (t : Nat) (τ : Tr) (z : Int) : Fn Tryd.prog 18 #[vptr t, vint z] [treeR t τ] fun v L => v = .tuple #[] ∧ L = [treeR t (zxT τ z)] := by
  refine Fn.intro (vs := [vptr t, vint z]) Tryd.func18 rfl rfl ?_
  intro F W
  refine G.trOpen (τ := τ) (by (repeat (first | exact Pick.here | apply Pick.there))) fun rn rs m s hI => ?_
  refine G.region ?_
  refine G.q (Quiet.move rfl) rfl ?_
  refine G.q (Quiet.move rfl) rfl ?_
  refine G.q (Quiet.nilp rfl) rfl ?_
  refine G.q (Quiet.fieldAddr rfl fo_90_2) rfl ?_
  refine G.op (OpSpec.store rfl rfl rfl sz_3 ?c5 ?c6) (by (repeat (first | exact Picks.nil | (apply Picks.cons; (repeat (first | exact Pick.here | apply Pick.there)))))) rfl ?nx7
  case c5 => first | decide | (simp; omega) | simp
  case c6 => exact nfz0 _ _
  rintro v L' rfl
  refine G.nil ?_
  refine G.done_n ?_
  refine G.trFold (τ := (zxT τ z)) (hI.zx z) (by (repeat (first | exact Picks.nil | (apply Picks.cons; (repeat (first | exact Pick.here | apply Pick.there)))))) rfl rfl rfl ?_
  exact G.done (l := []) rfl rfl ⟨rfl, rfl⟩ (by (repeat (first | exact Picks.nil | (apply Picks.cons; (repeat (first | exact Pick.here | apply Pick.there)))))) (by (repeat (first | exact Suff.here | apply Suff.there)))

set_option maxRecDepth 100000 in
theorem trzxid_spec (t : Nat) (τ : Tr) : Fn Tryd.prog 28 #[vptr t] [treeR t τ] fun v L => v = vint τ.zx ∧ L = [treeR t τ] := by
  refine Fn.intro (vs := [vptr t]) Tryd.func28 rfl rfl ?_
  intro F W
  refine G.trOpen (τ := τ) (by (repeat (first | exact Pick.here | apply Pick.there))) fun rn rs m s hI => ?_
  refine G.seq ?_
  refine G.region ?_
  refine G.q (Quiet.assign rfl) rfl ?_
  refine G.nil ?_
  refine G.then_n ?_
  refine G.seq ?_
  refine G.region ?_
  refine G.q (Quiet.move rfl) rfl ?_
  refine G.q (Quiet.nilp rfl) rfl ?_
  refine G.q (Quiet.fieldAddr rfl fo_90_2) rfl ?_
  refine G.q (Quiet.load rfl ag_3 (by (repeat (first | exact Pick.here | apply Pick.there))) (rfl)) rfl ?_
  refine G.q (Quiet.assign rfl) rfl ?_
  refine G.nil ?_
  refine G.then_n ?_
  refine G.ret ?_
  refine G.trFold (τ := τ) hI (by (repeat (first | exact Picks.nil | (apply Picks.cons; (repeat (first | exact Pick.here | apply Pick.there)))))) rfl rfl rfl ?_
  exact G.done (l := [.tmp 2]) rfl rfl ⟨rfl, rfl⟩ (by (repeat (first | exact Picks.nil | (apply Picks.cons; (repeat (first | exact Pick.here | apply Pick.there)))))) (by (repeat (first | exact Suff.here | apply Suff.there)))

set_option maxRecDepth 100000 in
theorem trerase_spec (t : Nat) (τ : Tr) (x : Pt) (zx : Int) (p : HP) (hx : PtA p x) (N : Nat) (ho : τ.Ok N) (hN : N ≤ 1099511627776) : Fn Tryd.prog 40 #[vptr t, .agg (ptC x).toArray, vint zx] [treeR t τ] fun v L => ∃ a c, v = .slice a (eraseZ τ x zx).2.length c ∧ L = [treeR t (eraseZ τ x zx).1, slR 35 3 v (eraseZ τ x zx).2.length ((eraseZ τ x zx).2.flatMap evC)] := by
  refine Fn.intro (vs := [vptr t, .agg (ptC x).toArray, vint zx]) Tryd.func40 rfl rfl ?_
  intro F W
  have hfew := hx.few
  have hpl := hx.plen
  have hpar := parent_len x.path
  have hpz : (pathsZ τ).length = τ.nodes.length := List.length_map _
  have hofew := ho.few
  refine G.seq ?_
  refine G.region ?_
  refine G.op (OpSpec.box rfl) (by (repeat (first | exact Picks.nil | (apply Picks.cons; (repeat (first | exact Pick.here | apply Pick.there)))))) rfl ?nx1
  rintro v L' ⟨bx, rfl, rfl⟩
  refine G.q (Quiet.assign rfl) rfl ?_
  refine G.nil ?_
  refine G.ptCast (b := bx) (l' := ptC x) (by (repeat (first | exact Pick.here | apply Pick.there))) rfl ?_
  refine G.then_n ?_
  refine G.seq ?_
  refine G.seq ?_
  refine G.region ?_
  refine G.q (Quiet.fieldAddr rfl fo_50_1) rfl ?_
  refine G.q (Quiet.load rfl ag_9 (by (repeat (first | exact Pick.here | apply Pick.there))) (rfl)) rfl ?_
  refine G.op (OpSpec.call Tryd.func58 rfl rfl (vs := [_]) rfl (able_spec x.path hpl)) (by (repeat (first | exact Picks.nil | (apply Picks.cons; (repeat (first | exact Pick.here | apply Pick.there)))))) rfl ?nx6
  rintro v L' ⟨rfl, rfl⟩
  refine G.q (Quiet.not rfl) rfl ?_
  refine G.nil ?_
  refine G.then_n ?_
  refine G.condN rfl (fun h16 => ?_) (fun h16 => ?_)
  · refine G.seq ?_
    refine G.region ?_
    refine G.q (Quiet.assign rfl) rfl ?_
    refine G.nil ?_
    refine G.then_n ?_
    refine G.ret ?_
    refine G.then_r ?_
    refine G.add (slR_nil 35 3) ?_
    have hc : eraseZ τ x zx = (τ, []) := by unfold eraseZ; rw [if_neg h16]
    refine G.trCast (τ' := (eraseZ τ x zx).1) (by (repeat (first | exact Pick.here | apply Pick.there))) (by rw [hc]) ?_
    refine G.slCast (T := 35) (sz := 3) (m' := (eraseZ τ x zx).2.length) (xs' := (eraseZ τ x zx).2.flatMap evC) (by (repeat (first | exact Pick.here | apply Pick.there))) (by (rw [hc]; try rfl)) (by (rw [hc]; try rfl)) ?_
    exact G.done (l := [.tmp 6]) rfl rfl ⟨_, _, by (rw [hc]; try rfl), rfl⟩ (by (repeat (first | exact Picks.nil | (apply Picks.cons; (repeat (first | exact Pick.here | apply Pick.there)))))) (by (repeat (first | exact Suff.here | apply Suff.there)))
  · refine G.skip ?_
    refine G.then_n ?_
    refine G.seq ?_
    refine G.region ?_
    refine G.q (Quiet.fieldAddr rfl fo_50_1) rfl ?_
    refine G.q (Quiet.load rfl ag_9 (by (repeat (first | exact Pick.here | apply Pick.there))) (rfl)) rfl ?_
    refine G.op (OpSpec.call Tryd.func55 rfl rfl (vs := [_]) rfl (parent_spec x.path (by omega))) (by (repeat (first | exact Picks.nil | (apply Picks.cons; (repeat (first | exact Pick.here | apply Pick.there)))))) rfl ?nx12
    rintro v L' ⟨rfl, rfl⟩
    refine G.q (Quiet.assign rfl) rfl ?_
    refine G.nil ?_
    refine G.then_n ?_
    refine G.seq ?_
    refine G.trOpen (τ := τ) (by (repeat (first | exact Pick.here | apply Pick.there))) fun rn rs m s hI => ?_
    refine G.draw [] [[0, 1, 2, 3, 4, 5, 6, 7, 8, 9, 10, 11]] mixed (by kernel_rfl) ?_
    refine Phases.go [] (by (repeat (first | exact Picks.nil | (apply Picks.cons; (repeat (first | exact Pick.here | apply Pick.there)))))) ?_
    rcases hal : alook m x.path with _ | px
    · have hth : ¬ thereT τ x.path := hI.none_iff.1 hal
      refine D.qw [1, 2, 3, 6, 7, 8, 9, 10, 11] rfl (by kernel_rfl) (Quiet.move rfl) ?_
      refine D.qw [2, 3, 6, 7, 8, 9, 10, 11] rfl (by kernel_rfl) (Quiet.nilp rfl) ?_
      refine D.qw [3, 6, 7, 8, 9, 10, 11] rfl (by kernel_rfl) (Quiet.fieldAddr rfl fo_90_0) ?_
      refine D.qw [6, 7, 8, 9, 10, 11] rfl (by kernel_rfl) (Quiet.load rfl ag_87 (by (repeat (first | exact Pick.here | apply Pick.there))) (rfl)) ?_
      refine D.qw [5, 6, 7, 8, 9, 10, 11] rfl (by kernel_rfl) (Quiet.fieldAddr rfl fo_50_1) ?_
      refine D.qw [6, 7, 8, 9, 10, 11] rfl (by kernel_rfl) (Quiet.load rfl ag_9 (by (repeat (first | exact Pick.here | apply Pick.there))) (rfl)) ?_
      refine D.qw [7, 8, 9, 10, 11] rfl (by kernel_rfl) (Quiet.lookupOkN (m := m) (enc := ndV) (KeyLaw.str Tryd.underlying9) hal rfl rfl Tryd.underlying87 ze_82 (by (repeat (first | exact Pick.here | apply Pick.there))) rfl) ?_
      refine D.qw [8, 9, 10, 11] rfl (by kernel_rfl) (Quiet.move rfl) ?_
      refine D.qw [10, 11] rfl (by kernel_rfl) (Quiet.extract rfl rfl) ?_
      refine D.qw [11] rfl (by kernel_rfl) (Quiet.extract rfl rfl) ?_
      refine D.qw [11] rfl (by kernel_rfl) (Quiet.assign rfl) ?_
      refine D.qw [] rfl (by kernel_rfl) (Quiet.assign rfl) ?_
      refine D.ph ?_
      refine Phases.fin ?_
      refine G.trFold (τ := τ) hI (by (repeat (first | exact Picks.nil | (apply Picks.cons; (repeat (first | exact Pick.here | apply Pick.there)))))) rfl rfl rfl ?_
      refine G.then_n ?_
      refine G.seq ?_
      refine G.seq ?_
      refine G.region ?_
      refine G.q (Quiet.move rfl) rfl ?_
      refine G.op (OpSpec.call Tryd.func60 rfl rfl (vs := [_]) rfl (trpaths_spec t τ N ho hN)) (by (repeat (first | exact Picks.nil | (apply Picks.cons; (repeat (first | exact Pick.here | apply Pick.there)))))) rfl ?nx24
      rintro v L' ⟨⟨ap, cp, rfl⟩, rfl⟩
      refine G.q (Quiet.slen rfl Tryd.underlying78 rfl) rfl ?_
      refine G.q (Quiet.move rfl) rfl ?_
      refine G.nil ?_
      refine G.then_n ?_
      refine G.block ?_
      refine G.trCast (τ' := cutL τ x.path ((pathsZ τ).take 0)) (by (repeat (first | exact Pick.here | apply Pick.there))) (by rw [List.take_zero, cutL_nil]) ?_
      refine G.loopK (ι := Nat) (fun q E => (33, vint q) :: E) (fun q => [treeR t (cutL τ x.path ((pathsZ τ).take q))]) (fun q => q ≤ (pathsZ τ).length) (fun q => (pathsZ τ).length - q) (0) (ts := [0, 2, 4, 6, 7, 9, 31, 32]) (.cons rfl (.cons rfl (.cons rfl (.cons rfl (.cons rfl (.cons rfl (.cons rfl (.cons rfl (.nil))))))))) (Nat.zero_le _) ⟨rfl, rfl, rfl, rfl, rfl, rfl, rfl, rfl, rfl, trivial⟩ (by (repeat (first | exact Picks.nil | (apply Picks.cons; (repeat (first | exact Pick.here | apply Pick.there)))))) ?_
      rintro i hi
      refine G.seq ?_
      refine G.region ?_
      refine G.q (Quiet.int rfl rfl rfl) rfl ?_
      refine G.nil ?_
      refine G.then_n ?_
      refine G.seq ?_
      refine G.condD rfl (fun h34 => ?_) (fun h34 => ?_)
      · have hi2 : i < (pathsZ τ).length := by omega
        refine G.slShape (v := .slice ap _ cp) (by (repeat (first | exact Pick.here | apply Pick.there))) (by omega) fun bp cp' e0 mp _ => ?_
        simp only [Value.slice.injEq, true_and] at e0
        obtain ⟨rfl, rfl⟩ := e0
        refine G.skip ?_
        refine G.then_n ?_
        refine G.seq ?_
        refine G.block ?_
        refine G.seq ?_
        refine G.region ?_
        refine G.q (Quiet.indexAddr rfl rfl el_78 (by omega)) rfl ?_
        refine G.q (Quiet.loadSl (v := vstr (pathsZ τ)[i]) (i := i * 1) rfl ag_9 (by (repeat (first | exact Pick.here | apply Pick.there))) (by simp [hi2])) rfl ?_
        refine G.q (Quiet.assign rfl) rfl ?_
        refine G.nil ?_
        refine G.then_n ?_
        refine G.seq ?_
        refine G.region ?_
        refine G.q (Quiet.move rfl) rfl ?_
        refine G.q (Quiet.fieldAddr rfl fo_50_1) rfl ?_
        refine G.q (Quiet.load rfl ag_9 (by (repeat (first | exact Pick.here | apply Pick.there))) (rfl)) rfl ?_
        refine G.q (Quiet.streq rfl rfl) rfl ?_
        refine G.q (Quiet.move rfl) rfl ?_
        refine G.dec (t := 41) rfl (fun h8_41 => ?_) (fun h8_41 => ?_)
        · refine G.kDT (t := 40) rfl h8_41 ?_
          refine G.gskip (t := 41) rfl rfl rfl rfl ?_
          refine G.gskip (t := 41) rfl rfl rfl rfl ?_
          refine G.gskip (t := 41) rfl rfl rfl rfl ?_
          refine G.gskip (t := 41) rfl rfl rfl rfl ?_
          refine G.q (Quiet.pickT rfl rfl) rfl ?_
          refine G.nil ?_
          refine G.then_n ?_
          refine G.condT rfl ?_
          have hhit : hitT (pathsZ τ)[i] x.path = true := by unfold hitT; rw [decide_eq_true h8_41]; rfl
          refine G.trOpen (τ := (cutL τ x.path ((pathsZ τ).take i))) (by (repeat (first | exact Pick.here | apply Pick.there))) fun rn rs m s hI => ?_
          refine G.region ?_
          refine G.q (Quiet.move rfl) rfl ?_
          refine G.q (Quiet.nilp rfl) rfl ?_
          refine G.q (Quiet.fieldAddr rfl fo_90_0) rfl ?_
          refine G.q (Quiet.load rfl ag_87 (by (repeat (first | exact Pick.here | apply Pick.there))) (rfl)) rfl ?_
          refine G.q (Quiet.move rfl) rfl ?_
          refine G.op (OpSpec.mapDel (m := m) (enc := ndV) (k := (pathsZ τ)[i]) (KeyLaw.str Tryd.underlying9) rfl rfl rfl Tryd.underlying87 ?he39) (by (repeat (first | exact Picks.nil | (apply Picks.cons; (repeat (first | exact Pick.here | apply Pick.there)))))) rfl ?nx40
          case he39 => rfl
          rintro v L' rfl
          refine G.nil ?_
          refine G.bigDel (f := inN) (pathsZ τ)[i] (by (repeat (first | exact Pick.here | apply Pick.there))) ?_
          refine G.trFold (τ := ({ (cutL τ x.path ((pathsZ τ).take i)) with nodes := (cutL τ x.path ((pathsZ τ).take i)).nodes.filter fun y => !decide (y.1 = (pathsZ τ)[i]) } : Tr)) (hI.del (pathsZ τ)[i]) (by (repeat (first | exact Picks.nil | (apply Picks.cons; (repeat (first | exact Pick.here | apply Pick.there)))))) rfl rfl rfl ?_
          refine G.blk_n ?_
          refine G.then_n ?_
          refine G.region ?_
          refine G.q (Quiet.add rfl rfl (by omega)) rfl ?_
          refine G.q (Quiet.move rfl) rfl ?_
          refine G.nil ?_
          refine G.then_n ?_
          refine G.trCast (τ' := cutL τ x.path ((pathsZ τ).take (i + 1))) (by (repeat (first | exact Pick.here | apply Pick.there))) (by rw [List.take_succ_eq_append_getElem hi2, cutL_hit τ _ hhit]) ?_
          exact G.roundK (i + 1) (by omega) (by omega) ⟨rfl, rfl, rfl, rfl, rfl, rfl, rfl, rfl, rfl, trivial⟩ (by (repeat (first | exact Picks.nil | (apply Picks.cons; (repeat (first | exact Pick.here | apply Pick.there)))))) (by ((repeat (apply Have.cons; (repeat (first | exact Pick.here | apply Pick.there)))); apply Have.base; repeat (first | exact Suff.here | apply Suff.there)))
        · refine G.kDF (t := 40) rfl h8_41 ?_
          refine G.grun (t := 41) rfl rfl rfl ?_
          refine G.q (Quiet.move rfl) rfl ?_
          refine G.grun (t := 41) rfl rfl rfl ?_
          refine G.q (Quiet.fieldAddr rfl fo_50_1) rfl ?_
          refine G.grun (t := 41) rfl rfl rfl ?_
          refine G.q (Quiet.load rfl ag_9 (by (repeat (first | exact Pick.here | apply Pick.there))) (rfl)) rfl ?_
          refine G.grun (t := 41) rfl rfl rfl ?_
          refine G.op (OpSpec.call Tryd.func61 rfl rfl (vs := [_, _]) rfl (under_spec (pathsZ τ)[i] x.path (by omega))) (by (repeat (first | exact Picks.nil | (apply Picks.cons; (repeat (first | exact Pick.here | apply Pick.there)))))) rfl ?nx44
          rintro v L' ⟨rfl, rfl⟩
          refine G.q (Quiet.pickF rfl rfl) rfl ?_
          refine G.nil ?_
          refine G.then_n ?_
          refine G.condD rfl (fun h46 => ?_) (fun h46 => ?_)
          · have hhit : hitT (pathsZ τ)[i] x.path = true := by unfold hitT; rw [decide_eq_true h46, Bool.or_true]
            refine G.trOpen (τ := (cutL τ x.path ((pathsZ τ).take i))) (by (repeat (first | exact Pick.here | apply Pick.there))) fun rn rs m s hI => ?_
            refine G.region ?_
            refine G.q (Quiet.move rfl) rfl ?_
            refine G.q (Quiet.nilp rfl) rfl ?_
            refine G.q (Quiet.fieldAddr rfl fo_90_0) rfl ?_
            refine G.q (Quiet.load rfl ag_87 (by (repeat (first | exact Pick.here | apply Pick.there))) (rfl)) rfl ?_
            refine G.q (Quiet.move rfl) rfl ?_
            refine G.op (OpSpec.mapDel (m := m) (enc := ndV) (k := (pathsZ τ)[i]) (KeyLaw.str Tryd.underlying9) rfl rfl rfl Tryd.underlying87 ?he50) (by (repeat (first | exact Picks.nil | (apply Picks.cons; (repeat (first | exact Pick.here | apply Pick.there)))))) rfl ?nx51
            case he50 => rfl
            rintro v L' rfl
            refine G.nil ?_
            refine G.bigDel (f := inN) (pathsZ τ)[i] (by (repeat (first | exact Pick.here | apply Pick.there))) ?_
            refine G.trFold (τ := ({ (cutL τ x.path ((pathsZ τ).take i)) with nodes := (cutL τ x.path ((pathsZ τ).take i)).nodes.filter fun y => !decide (y.1 = (pathsZ τ)[i]) } : Tr)) (hI.del (pathsZ τ)[i]) (by (repeat (first | exact Picks.nil | (apply Picks.cons; (repeat (first | exact Pick.here | apply Pick.there)))))) rfl rfl rfl ?_
            refine G.blk_n ?_
            refine G.then_n ?_
            refine G.region ?_
            refine G.q (Quiet.add rfl rfl (by omega)) rfl ?_
            refine G.q (Quiet.move rfl) rfl ?_
            refine G.nil ?_
            refine G.then_n ?_
            refine G.trCast (τ' := cutL τ x.path ((pathsZ τ).take (i + 1))) (by (repeat (first | exact Pick.here | apply Pick.there))) (by rw [List.take_succ_eq_append_getElem hi2, cutL_hit τ _ hhit]) ?_
            exact G.roundK (i + 1) (by omega) (by omega) ⟨rfl, rfl, rfl, rfl, rfl, rfl, rfl, rfl, rfl, trivial⟩ (by (repeat (first | exact Picks.nil | (apply Picks.cons; (repeat (first | exact Pick.here | apply Pick.there)))))) (by ((repeat (apply Have.cons; (repeat (first | exact Pick.here | apply Pick.there)))); apply Have.base; repeat (first | exact Suff.here | apply Suff.there)))
          · have hhit : hitT (pathsZ τ)[i] x.path = false := by unfold hitT; rw [decide_eq_false h8_41, decide_eq_false h46]; rfl
            refine G.skip ?_
            refine G.blk_n ?_
            refine G.then_n ?_
            refine G.region ?_
            refine G.q (Quiet.add rfl rfl (by omega)) rfl ?_
            refine G.q (Quiet.move rfl) rfl ?_
            refine G.nil ?_
            refine G.then_n ?_
            refine G.trCast (τ' := cutL τ x.path ((pathsZ τ).take (i + 1))) (by (repeat (first | exact Pick.here | apply Pick.there))) (by rw [List.take_succ_eq_append_getElem hi2, cutL_skip τ _ hhit]) ?_
            exact G.roundK (i + 1) (by omega) (by omega) ⟨rfl, rfl, rfl, rfl, rfl, rfl, rfl, rfl, rfl, trivial⟩ (by (repeat (first | exact Picks.nil | (apply Picks.cons; (repeat (first | exact Pick.here | apply Pick.there)))))) (by ((repeat (apply Have.cons; (repeat (first | exact Pick.here | apply Pick.there)))); apply Have.base; repeat (first | exact Suff.here | apply Suff.there)))
      · have hii : i = (pathsZ τ).length := by omega
        rw [hii, List.take_length, cutL_all]
        refine G.exit ?_
        refine G.then_e ?_
        refine G.then_e ?_
        refine G.blk_e ?_
        refine G.then_n ?_
        refine G.seq ?_
        refine G.region ?_
        refine G.q (Quiet.move rfl) rfl ?_
        refine G.q (Quiet.move rfl) rfl ?_
        refine G.q (Quiet.fieldAddr rfl fo_50_5) rfl ?_
        refine G.q (Quiet.load rfl ag_3 (by (repeat (first | exact Pick.here | apply Pick.there))) (rfl)) rfl ?_
        refine G.q (Quiet.move rfl) rfl ?_
        refine G.op (OpSpec.call Tryd.func59 rfl rfl (vs := [_, _, _, _]) rfl (trkid_spec t (cutT τ x.path) (parentZ x.path) x.num zx)) (by (repeat (first | exact Picks.nil | (apply Picks.cons; (repeat (first | exact Pick.here | apply Pick.there)))))) rfl ?nx59
        rintro v L' ⟨rfl, rfl⟩
        refine G.nil ?_
        refine G.then_n ?_
        refine G.seq ?_
        refine G.seq ?_
        refine G.region ?_
        refine G.q (Quiet.move rfl) rfl ?_
        refine G.q (Quiet.not rfl) rfl ?_
        refine G.nil ?_
        refine G.then_n ?_
        refine G.condT rfl ?_
        refine G.seq ?_
        refine G.region ?_
        refine G.q (Quiet.assign rfl) rfl ?_
        refine G.nil ?_
        refine G.then_n ?_
        refine G.ret ?_
        refine G.then_r ?_
        refine G.add (slR_nil 35 3) ?_
        have hc : eraseZ τ x zx = ((kidT (cutT τ x.path) (parentZ x.path) x.num zx), []) := by unfold eraseZ; rw [if_pos h16, if_neg hth]
        refine G.trCast (τ' := (eraseZ τ x zx).1) (by (repeat (first | exact Pick.here | apply Pick.there))) (by rw [hc]) ?_
        refine G.slCast (T := 35) (sz := 3) (m' := (eraseZ τ x zx).2.length) (xs' := (eraseZ τ x zx).2.flatMap evC) (by (repeat (first | exact Pick.here | apply Pick.there))) (by (rw [hc]; try rfl)) (by (rw [hc]; try rfl)) ?_
        exact G.done (l := [.tmp 6]) rfl rfl ⟨_, _, by (rw [hc]; try rfl), rfl⟩ (by (repeat (first | exact Picks.nil | (apply Picks.cons; (repeat (first | exact Pick.here | apply Pick.there)))))) (by (repeat (first | exact Suff.here | apply Suff.there)))
    · have hth : thereT τ x.path := hI.some_iff hal
      refine D.qw [1, 2, 3, 6, 7, 8, 9, 10, 11] rfl (by kernel_rfl) (Quiet.move rfl) ?_
      refine D.qw [2, 3, 6, 7, 8, 9, 10, 11] rfl (by kernel_rfl) (Quiet.nilp rfl) ?_
      refine D.qw [3, 6, 7, 8, 9, 10, 11] rfl (by kernel_rfl) (Quiet.fieldAddr rfl fo_90_0) ?_
      refine D.qw [6, 7, 8, 9, 10, 11] rfl (by kernel_rfl) (Quiet.load rfl ag_87 (by (repeat (first | exact Pick.here | apply Pick.there))) (rfl)) ?_
      refine D.qw [5, 6, 7, 8, 9, 10, 11] rfl (by kernel_rfl) (Quiet.fieldAddr rfl fo_50_1) ?_
      refine D.qw [6, 7, 8, 9, 10, 11] rfl (by kernel_rfl) (Quiet.load rfl ag_9 (by (repeat (first | exact Pick.here | apply Pick.there))) (rfl)) ?_
      refine D.qw [7, 8, 9, 10, 11] rfl (by kernel_rfl) (Quiet.lookupOkY (m := m) (enc := ndV) (KeyLaw.str Tryd.underlying9) hal rfl rfl Tryd.underlying87 ze_82 (by (repeat (first | exact Pick.here | apply Pick.there))) rfl) ?_
      refine D.qw [8, 9, 10, 11] rfl (by kernel_rfl) (Quiet.move rfl) ?_
      refine D.qw [10, 11] rfl (by kernel_rfl) (Quiet.extract rfl rfl) ?_
      refine D.qw [11] rfl (by kernel_rfl) (Quiet.extract rfl rfl) ?_
      refine D.qw [11] rfl (by kernel_rfl) (Quiet.assign rfl) ?_
      refine D.qw [] rfl (by kernel_rfl) (Quiet.assign rfl) ?_
      refine D.ph ?_
      refine Phases.fin ?_
      refine G.trFold (τ := τ) hI (by (repeat (first | exact Picks.nil | (apply Picks.cons; (repeat (first | exact Pick.here | apply Pick.there)))))) rfl rfl rfl ?_
      refine G.then_n ?_
      refine G.seq ?_
      refine G.seq ?_
      refine G.region ?_
      refine G.q (Quiet.move rfl) rfl ?_
      refine G.op (OpSpec.call Tryd.func60 rfl rfl (vs := [_]) rfl (trpaths_spec t τ N ho hN)) (by (repeat (first | exact Picks.nil | (apply Picks.cons; (repeat (first | exact Pick.here | apply Pick.there)))))) rfl ?nx74
      rintro v L' ⟨⟨ap, cp, rfl⟩, rfl⟩
      refine G.q (Quiet.slen rfl Tryd.underlying78 rfl) rfl ?_
      refine G.q (Quiet.move rfl) rfl ?_
      refine G.nil ?_
      refine G.then_n ?_
      refine G.block ?_
      refine G.trCast (τ' := cutL τ x.path ((pathsZ τ).take 0)) (by (repeat (first | exact Pick.here | apply Pick.there))) (by rw [List.take_zero, cutL_nil]) ?_
      refine G.loopK (ι := Nat) (fun q E => (33, vint q) :: E) (fun q => [treeR t (cutL τ x.path ((pathsZ τ).take q))]) (fun q => q ≤ (pathsZ τ).length) (fun q => (pathsZ τ).length - q) (0) (ts := [0, 2, 4, 6, 7, 9, 31, 32]) (.cons rfl (.cons rfl (.cons rfl (.cons rfl (.cons rfl (.cons rfl (.cons rfl (.cons rfl (.nil))))))))) (Nat.zero_le _) ⟨rfl, rfl, rfl, rfl, rfl, rfl, rfl, rfl, rfl, trivial⟩ (by (repeat (first | exact Picks.nil | (apply Picks.cons; (repeat (first | exact Pick.here | apply Pick.there)))))) ?_
      rintro i hi
      refine G.seq ?_
      refine G.region ?_
      refine G.q (Quiet.int rfl rfl rfl) rfl ?_
      refine G.nil ?_
      refine G.then_n ?_
      refine G.seq ?_
      refine G.condD rfl (fun h34 => ?_) (fun h34 => ?_)
      · have hi2 : i < (pathsZ τ).length := by omega
        refine G.slShape (v := .slice ap _ cp) (by (repeat (first | exact Pick.here | apply Pick.there))) (by omega) fun bp cp' e0 mp _ => ?_
        simp only [Value.slice.injEq, true_and] at e0
        obtain ⟨rfl, rfl⟩ := e0
        refine G.skip ?_
        refine G.then_n ?_
        refine G.seq ?_
        refine G.block ?_
        refine G.seq ?_
        refine G.region ?_
        refine G.q (Quiet.indexAddr rfl rfl el_78 (by omega)) rfl ?_
        refine G.q (Quiet.loadSl (v := vstr (pathsZ τ)[i]) (i := i * 1) rfl ag_9 (by (repeat (first | exact Pick.here | apply Pick.there))) (by simp [hi2])) rfl ?_
        refine G.q (Quiet.assign rfl) rfl ?_
        refine G.nil ?_
        refine G.then_n ?_
        refine G.seq ?_
        refine G.region ?_
        refine G.q (Quiet.move rfl) rfl ?_
        refine G.q (Quiet.fieldAddr rfl fo_50_1) rfl ?_
        refine G.q (Quiet.load rfl ag_9 (by (repeat (first | exact Pick.here | apply Pick.there))) (rfl)) rfl ?_
        refine G.q (Quiet.streq rfl rfl) rfl ?_
        refine G.q (Quiet.move rfl) rfl ?_
        refine G.dec (t := 41) rfl (fun h8_41 => ?_) (fun h8_41 => ?_)
        · refine G.kDT (t := 40) rfl h8_41 ?_
          refine G.gskip (t := 41) rfl rfl rfl rfl ?_
          refine G.gskip (t := 41) rfl rfl rfl rfl ?_
          refine G.gskip (t := 41) rfl rfl rfl rfl ?_
          refine G.gskip (t := 41) rfl rfl rfl rfl ?_
          refine G.q (Quiet.pickT rfl rfl) rfl ?_
          refine G.nil ?_
          refine G.then_n ?_
          refine G.condT rfl ?_
          have hhit : hitT (pathsZ τ)[i] x.path = true := by unfold hitT; rw [decide_eq_true h8_41]; rfl
          refine G.trOpen (τ := (cutL τ x.path ((pathsZ τ).take i))) (by (repeat (first | exact Pick.here | apply Pick.there))) fun rn rs m s hI => ?_
          refine G.region ?_
          refine G.q (Quiet.move rfl) rfl ?_
          refine G.q (Quiet.nilp rfl) rfl ?_
          refine G.q (Quiet.fieldAddr rfl fo_90_0) rfl ?_
          refine G.q (Quiet.load rfl ag_87 (by (repeat (first | exact Pick.here | apply Pick.there))) (rfl)) rfl ?_
          refine G.q (Quiet.move rfl) rfl ?_
          refine G.op (OpSpec.mapDel (m := m) (enc := ndV) (k := (pathsZ τ)[i]) (KeyLaw.str Tryd.underlying9) rfl rfl rfl Tryd.underlying87 ?he89) (by (repeat (first | exact Picks.nil | (apply Picks.cons; (repeat (first | exact Pick.here | apply Pick.there)))))) rfl ?nx90
          case he89 => rfl
          rintro v L' rfl
          refine G.nil ?_
          refine G.bigDel (f := inN) (pathsZ τ)[i] (by (repeat (first | exact Pick.here | apply Pick.there))) ?_
          refine G.trFold (τ := ({ (cutL τ x.path ((pathsZ τ).take i)) with nodes := (cutL τ x.path ((pathsZ τ).take i)).nodes.filter fun y => !decide (y.1 = (pathsZ τ)[i]) } : Tr)) (hI.del (pathsZ τ)[i]) (by (repeat (first | exact Picks.nil | (apply Picks.cons; (repeat (first | exact Pick.here | apply Pick.there)))))) rfl rfl rfl ?_
          refine G.blk_n ?_
          refine G.then_n ?_
          refine G.region ?_
          refine G.q (Quiet.add rfl rfl (by omega)) rfl ?_
          refine G.q (Quiet.move rfl) rfl ?_
          refine G.nil ?_
          refine G.then_n ?_
          refine G.trCast (τ' := cutL τ x.path ((pathsZ τ).take (i + 1))) (by (repeat (first | exact Pick.here | apply Pick.there))) (by rw [List.take_succ_eq_append_getElem hi2, cutL_hit τ _ hhit]) ?_
          exact G.roundK (i + 1) (by omega) (by omega) ⟨rfl, rfl, rfl, rfl, rfl, rfl, rfl, rfl, rfl, trivial⟩ (by (repeat (first | exact Picks.nil | (apply Picks.cons; (repeat (first | exact Pick.here | apply Pick.there)))))) (by ((repeat (apply Have.cons; (repeat (first | exact Pick.here | apply Pick.there)))); apply Have.base; repeat (first | exact Suff.here | apply Suff.there)))
        · refine G.kDF (t := 40) rfl h8_41 ?_
          refine G.grun (t := 41) rfl rfl rfl ?_
          refine G.q (Quiet.move rfl) rfl ?_
          refine G.grun (t := 41) rfl rfl rfl ?_
          refine G.q (Quiet.fieldAddr rfl fo_50_1) rfl ?_
          refine G.grun (t := 41) rfl rfl rfl ?_
          refine G.q (Quiet.load rfl ag_9 (by (repeat (first | exact Pick.here | apply Pick.there))) (rfl)) rfl ?_
          refine G.grun (t := 41) rfl rfl rfl ?_
          refine G.op (OpSpec.call Tryd.func61 rfl rfl (vs := [_, _]) rfl (under_spec (pathsZ τ)[i] x.path (by omega))) (by (repeat (first | exact Picks.nil | (apply Picks.cons; (repeat (first | exact Pick.here | apply Pick.there)))))) rfl ?nx94
          rintro v L' ⟨rfl, rfl⟩
          refine G.q (Quiet.pickF rfl rfl) rfl ?_
          refine G.nil ?_
          refine G.then_n ?_
          refine G.condD rfl (fun h46 => ?_) (fun h46 => ?_)
          · have hhit : hitT (pathsZ τ)[i] x.path = true := by unfold hitT; rw [decide_eq_true h46, Bool.or_true]
            refine G.trOpen (τ := (cutL τ x.path ((pathsZ τ).take i))) (by (repeat (first | exact Pick.here | apply Pick.there))) fun rn rs m s hI => ?_
            refine G.region ?_
            refine G.q (Quiet.move rfl) rfl ?_
            refine G.q (Quiet.nilp rfl) rfl ?_
            refine G.q (Quiet.fieldAddr rfl fo_90_0) rfl ?_
            refine G.q (Quiet.load rfl ag_87 (by (repeat (first | exact Pick.here | apply Pick.there))) (rfl)) rfl ?_
            refine G.q (Quiet.move rfl) rfl ?_
            refine G.op (OpSpec.mapDel (m := m) (enc := ndV) (k := (pathsZ τ)[i]) (KeyLaw.str Tryd.underlying9) rfl rfl rfl Tryd.underlying87 ?he100) (by (repeat (first | exact Picks.nil | (apply Picks.cons; (repeat (first | exact Pick.here | apply Pick.there)))))) rfl ?nx101
            case he100 => rfl
            rintro v L' rfl
            refine G.nil ?_
            refine G.bigDel (f := inN) (pathsZ τ)[i] (by (repeat (first | exact Pick.here | apply Pick.there))) ?_
            refine G.trFold (τ := ({ (cutL τ x.path ((pathsZ τ).take i)) with nodes := (cutL τ x.path ((pathsZ τ).take i)).nodes.filter fun y => !decide (y.1 = (pathsZ τ)[i]) } : Tr)) (hI.del (pathsZ τ)[i]) (by (repeat (first | exact Picks.nil | (apply Picks.cons; (repeat (first | exact Pick.here | apply Pick.there)))))) rfl rfl rfl ?_
            refine G.blk_n ?_
            refine G.then_n ?_
            refine G.region ?_
            refine G.q (Quiet.add rfl rfl (by omega)) rfl ?_
            refine G.q (Quiet.move rfl) rfl ?_
            refine G.nil ?_
            refine G.then_n ?_
            refine G.trCast (τ' := cutL τ x.path ((pathsZ τ).take (i + 1))) (by (repeat (first | exact Pick.here | apply Pick.there))) (by rw [List.take_succ_eq_append_getElem hi2, cutL_hit τ _ hhit]) ?_
            exact G.roundK (i + 1) (by omega) (by omega) ⟨rfl, rfl, rfl, rfl, rfl, rfl, rfl, rfl, rfl, trivial⟩ (by (repeat (first | exact Picks.nil | (apply Picks.cons; (repeat (first | exact Pick.here | apply Pick.there)))))) (by ((repeat (apply Have.cons; (repeat (first | exact Pick.here | apply Pick.there)))); apply Have.base; repeat (first | exact Suff.here | apply Suff.there)))
          · have hhit : hitT (pathsZ τ)[i] x.path = false := by unfold hitT; rw [decide_eq_false h8_41, decide_eq_false h46]; rfl
            refine G.skip ?_
            refine G.blk_n ?_
            refine G.then_n ?_
            refine G.region ?_
            refine G.q (Quiet.add rfl rfl (by omega)) rfl ?_
            refine G.q (Quiet.move rfl) rfl ?_
            refine G.nil ?_
            refine G.then_n ?_
            refine G.trCast (τ' := cutL τ x.path ((pathsZ τ).take (i + 1))) (by (repeat (first | exact Pick.here | apply Pick.there))) (by rw [List.take_succ_eq_append_getElem hi2, cutL_skip τ _ hhit]) ?_
            exact G.roundK (i + 1) (by omega) (by omega) ⟨rfl, rfl, rfl, rfl, rfl, rfl, rfl, rfl, rfl, trivial⟩ (by (repeat (first | exact Picks.nil | (apply Picks.cons; (repeat (first | exact Pick.here | apply Pick.there)))))) (by ((repeat (apply Have.cons; (repeat (first | exact Pick.here | apply Pick.there)))); apply Have.base; repeat (first | exact Suff.here | apply Suff.there)))
      · have hii : i = (pathsZ τ).length := by omega
        rw [hii, List.take_length, cutL_all]
        refine G.exit ?_
        refine G.then_e ?_
        refine G.then_e ?_
        refine G.blk_e ?_
        refine G.then_n ?_
        refine G.seq ?_
        refine G.region ?_
        refine G.q (Quiet.move rfl) rfl ?_
        refine G.q (Quiet.move rfl) rfl ?_
        refine G.q (Quiet.fieldAddr rfl fo_50_5) rfl ?_
        refine G.q (Quiet.load rfl ag_3 (by (repeat (first | exact Pick.here | apply Pick.there))) (rfl)) rfl ?_
        refine G.q (Quiet.move rfl) rfl ?_
        refine G.op (OpSpec.call Tryd.func59 rfl rfl (vs := [_, _, _, _]) rfl (trkid_spec t (cutT τ x.path) (parentZ x.path) x.num zx)) (by (repeat (first | exact Picks.nil | (apply Picks.cons; (repeat (first | exact Pick.here | apply Pick.there)))))) rfl ?nx109
        rintro v L' ⟨rfl, rfl⟩
        refine G.nil ?_
        refine G.then_n ?_
        refine G.seq ?_
        refine G.seq ?_
        refine G.region ?_
        refine G.q (Quiet.move rfl) rfl ?_
        refine G.q (Quiet.not rfl) rfl ?_
        refine G.nil ?_
        refine G.then_n ?_
        refine G.condF rfl ?_
        refine G.skip ?_
        refine G.then_n ?_
        refine G.seq ?_
        refine G.region ?_
        refine G.q (Quiet.fieldAddr rfl fo_50_1) rfl ?_
        refine G.q (Quiet.load rfl ag_9 (by (repeat (first | exact Pick.here | apply Pick.there))) (rfl)) rfl ?_
        refine G.q (Quiet.move rfl) rfl ?_
        refine G.q (Quiet.build (us := [(0, _), (1, _), (2, _)]) fl_35 ze_35 rfl rfl (by simp [isCell])) rfl ?_
        refine G.op (OpSpec.buildSlice (vs := [_]) el_23 ze_35 rfl rfl rfl rfl (by first | (simp [Value.cells]; done) | (intro v hv; simp only [List.mem_cons, List.not_mem_nil, or_false] at hv; (repeat (first | (subst hv; rfl) | (rcases hv with hv | hv; (subst hv; rfl)))))) (by decide)) (by (repeat (first | exact Picks.nil | (apply Picks.cons; (repeat (first | exact Pick.here | apply Pick.there)))))) rfl ?nx117
        rintro v L' ⟨bo, rfl, rfl⟩
        refine G.q (Quiet.assign rfl) rfl ?_
        refine G.nil ?_
        refine G.slMakeN 3 1 (b := bo) (xs := ([(2, (x.path, zx))] : List Ev).flatMap evC) (by (repeat (first | exact Pick.here | apply Pick.there))) rfl rfl ?_
        refine G.then_n ?_
        refine G.seq ?_
        refine G.seq ?_
        refine G.trOpen (τ := (kidT (cutT τ x.path) (parentZ x.path) x.num zx)) (by (repeat (first | exact Pick.here | apply Pick.there))) fun rn rs m s hI => ?_
        refine G.region ?_
        rcases hup : alook m (parentZ x.path) with _ | pu
        · refine G.q (Quiet.move rfl) rfl ?_
          refine G.q (Quiet.nilp rfl) rfl ?_
          refine G.q (Quiet.fieldAddr rfl fo_90_0) rfl ?_
          refine G.q (Quiet.load rfl ag_87 (by (repeat (first | exact Pick.here | apply Pick.there))) (rfl)) rfl ?_
          refine G.q (Quiet.move rfl) rfl ?_
          refine G.q (Quiet.lookupN (m := m) (enc := ndV) (KeyLaw.str Tryd.underlying9) (hup) rfl rfl Tryd.underlying87 ze_82 (by (repeat (first | exact Pick.here | apply Pick.there))) rfl) rfl ?_
          refine G.q (Quiet.as (v' := .bool false) (by rfl) (Quiet.ptrne rfl rfl Tryd.underlying82)) rfl ?_
          refine G.nil ?_
          refine G.then_n ?_
          refine G.condF rfl ?_
          refine G.skip ?_
          refine G.then_n ?_
          refine G.seq ?_
          refine G.region ?_
          refine G.q (Quiet.move rfl) rfl ?_
          refine G.q (Quiet.assign rfl) rfl ?_
          refine G.nil ?_
          refine G.then_n ?_
          refine G.ret ?_
          have hc : eraseZ τ x zx = ((kidT (cutT τ x.path) (parentZ x.path) x.num zx), [(2, (x.path, zx))]) := by unfold eraseZ; rw [if_pos h16, if_pos hth, if_neg (fun g => hI.none_iff.1 hup (kid_there.2 g))]
          refine G.trFold (τ := (kidT (cutT τ x.path) (parentZ x.path) x.num zx)) hI (by (repeat (first | exact Picks.nil | (apply Picks.cons; (repeat (first | exact Pick.here | apply Pick.there)))))) rfl rfl rfl ?_
          refine G.trCast (τ' := (eraseZ τ x zx).1) (by (repeat (first | exact Pick.here | apply Pick.there))) (by rw [hc]) ?_
          refine G.slCast (T := 35) (sz := 3) (m' := (eraseZ τ x zx).2.length) (xs' := (eraseZ τ x zx).2.flatMap evC) (by (repeat (first | exact Pick.here | apply Pick.there))) (by (rw [hc]; try rfl)) (by (rw [hc]; try rfl)) ?_
          exact G.done (l := [.tmp 6]) rfl rfl ⟨_, _, by (rw [hc]; try rfl), rfl⟩ (by (repeat (first | exact Picks.nil | (apply Picks.cons; (repeat (first | exact Pick.here | apply Pick.there)))))) (by (repeat (first | exact Suff.here | apply Suff.there)))
        · refine G.q (Quiet.move rfl) rfl ?_
          refine G.q (Quiet.nilp rfl) rfl ?_
          refine G.q (Quiet.fieldAddr rfl fo_90_0) rfl ?_
          refine G.q (Quiet.load rfl ag_87 (by (repeat (first | exact Pick.here | apply Pick.there))) (rfl)) rfl ?_
          refine G.q (Quiet.move rfl) rfl ?_
          refine G.q (Quiet.lookupY (m := m) (enc := ndV) (KeyLaw.str Tryd.underlying9) (hup) rfl rfl Tryd.underlying87 ze_82 (by (repeat (first | exact Pick.here | apply Pick.there))) rfl) rfl ?_
          refine G.q (Quiet.as (v' := .bool true) (by rfl) (Quiet.ptrne rfl rfl Tryd.underlying82)) rfl ?_
          refine G.nil ?_
          refine G.then_n ?_
          refine G.condT rfl ?_
          refine G.region ?_
          refine G.q (Quiet.move rfl) rfl ?_
          refine G.q (Quiet.move rfl) rfl ?_
          refine G.q (Quiet.move rfl) rfl ?_
          refine G.q (Quiet.build (us := [(0, _), (1, _), (2, _)]) fl_35 ze_35 rfl rfl (by simp [isCell])) rfl ?_
          refine G.op (OpSpec.buildSlice (vs := [_]) el_23 ze_35 rfl rfl rfl rfl (by first | (simp [Value.cells]; done) | (intro v hv; simp only [List.mem_cons, List.not_mem_nil, or_false] at hv; (repeat (first | (subst hv; rfl) | (rcases hv with hv | hv; (subst hv; rfl)))))) (by decide)) (by (repeat (first | exact Picks.nil | (apply Picks.cons; (repeat (first | exact Pick.here | apply Pick.there)))))) rfl ?nx136
          rintro v L' ⟨b16_4, rfl, rfl⟩
          refine G.op (OpSpec.append1 rfl rfl rfl el_23 ze_35 rfl rfl ?c138 ?c139 (Nat.le_refl _) ?c140 (by decide)) (by (repeat (first | exact Picks.nil | (apply Picks.cons; (repeat (first | exact Pick.here | apply Pick.there)))))) rfl ?nx141
          case c138 => (first | (simp [isCell]; done) | (simp [isCell, setAll, Value.cells]; done))
          case c139 => rfl
          case c140 => omega
          rintro v L' ⟨⟨a16_5, c16_5, rfl⟩, rfl⟩
          refine G.q (Quiet.assign rfl) rfl ?_
          refine G.nil ?_
          refine G.then_n ?_
          refine G.seq ?_
          refine G.region ?_
          refine G.q (Quiet.move rfl) rfl ?_
          refine G.q (Quiet.assign rfl) rfl ?_
          refine G.nil ?_
          refine G.then_n ?_
          refine G.ret ?_
          have hc : eraseZ τ x zx = ((kidT (cutT τ x.path) (parentZ x.path) x.num zx), [(2, (x.path, zx)), (4, (parentZ x.path, zx))]) := by unfold eraseZ; rw [if_pos h16, if_pos hth, if_pos (kid_there.1 (hI.some_iff hup))]
          refine G.trFold (τ := (kidT (cutT τ x.path) (parentZ x.path) x.num zx)) hI (by (repeat (first | exact Picks.nil | (apply Picks.cons; (repeat (first | exact Pick.here | apply Pick.there)))))) rfl rfl rfl ?_
          refine G.trCast (τ' := (eraseZ τ x zx).1) (by (repeat (first | exact Pick.here | apply Pick.there))) (by rw [hc]) ?_
          refine G.slCast (T := 35) (sz := 3) (m' := (eraseZ τ x zx).2.length) (xs' := (eraseZ τ x zx).2.flatMap evC) (by (repeat (first | exact Pick.here | apply Pick.there))) (by (rw [hc]; try rfl)) (by (rw [hc]; try rfl)) ?_
          exact G.done (l := [.tmp 6]) rfl rfl ⟨_, _, by (rw [hc]; try rfl), rfl⟩ (by (repeat (first | exact Picks.nil | (apply Picks.cons; (repeat (first | exact Pick.here | apply Pick.there)))))) (by (repeat (first | exact Suff.here | apply Suff.there)))

set_option maxRecDepth 100000 in
theorem trpart_spec (t : Nat) (τ : Tr) (x : Pt) (zx : Int) (p : HP) (hx : PtA p x) (N : Nat) (ho : τ.Ok N) (hN : N ≤ 1099511627776) : Fn Tryd.prog 30 #[vptr t, .agg (ptC x).toArray, vint zx] [treeR t τ, p] fun v L => ∃ a c, v = .slice a (partZ τ x zx).2.length c ∧ L = [treeR t (partZ τ x zx).1, p, slR 35 3 v (partZ τ x zx).2.length ((partZ τ x zx).2.flatMap evC)] := by
  refine Fn.intro (vs := [vptr t, .agg (ptC x).toArray, vint zx]) Tryd.func30 rfl rfl ?_
  intro F W
  have hfew := hx.few
  have hpl := hx.plen
  refine G.seq ?_
  refine G.region ?_
  refine G.op (OpSpec.box rfl) (by (repeat (first | exact Picks.nil | (apply Picks.cons; (repeat (first | exact Pick.here | apply Pick.there)))))) rfl ?nx1
  rintro v L' ⟨bx, rfl, rfl⟩
  refine G.q (Quiet.assign rfl) rfl ?_
  refine G.nil ?_
  refine G.ptCast (b := bx) (l' := ptC x) (by (repeat (first | exact Pick.here | apply Pick.there))) rfl ?_
  refine G.then_n ?_
  refine G.seq ?_
  refine G.trOpen (τ := τ) (by (repeat (first | exact Pick.here | apply Pick.there))) fun rn rs m s hI => ?_
  refine G.draw [] [[0, 1, 2, 3, 4, 5, 6, 7]] mixed (by kernel_rfl) ?_
  refine Phases.go [] (by (repeat (first | exact Picks.nil | (apply Picks.cons; (repeat (first | exact Pick.here | apply Pick.there)))))) ?_
  rcases hal : alook m x.path with _ | px
  · refine D.qw [1, 2, 3, 6, 7] rfl (by kernel_rfl) (Quiet.move rfl) ?_
    refine D.qw [2, 3, 6, 7] rfl (by kernel_rfl) (Quiet.nilp rfl) ?_
    refine D.qw [3, 6, 7] rfl (by kernel_rfl) (Quiet.fieldAddr rfl fo_90_0) ?_
    refine D.qw [6, 7] rfl (by kernel_rfl) (Quiet.load rfl ag_87 (by (repeat (first | exact Pick.here | apply Pick.there))) (rfl)) ?_
    refine D.qw [5, 6, 7] rfl (by kernel_rfl) (Quiet.fieldAddr rfl fo_50_1) ?_
    refine D.qw [6, 7] rfl (by kernel_rfl) (Quiet.load rfl ag_9 (by (repeat (first | exact Pick.here | apply Pick.there))) (rfl)) ?_
    refine D.qw [7] rfl (by kernel_rfl) (Quiet.lookupN (m := m) (enc := ndV) (KeyLaw.str Tryd.underlying9) (hal) rfl rfl Tryd.underlying87 ze_82 (by (repeat (first | exact Pick.here | apply Pick.there))) rfl) ?_
    refine D.qw [] rfl (by kernel_rfl) (Quiet.assign rfl) ?_
    refine D.ph ?_
    refine Phases.fin ?_
    refine G.then_n ?_
    refine G.seq ?_
    refine G.block ?_
    refine G.seq ?_
    refine G.region ?_
    refine G.q (Quiet.fieldAddr rfl fo_50_0) rfl ?_
    refine G.q (Quiet.load rfl ag_3 (by (repeat (first | exact Pick.here | apply Pick.there))) (rfl)) rfl ?_
    refine G.q (Quiet.int rfl rfl rfl) rfl ?_
    refine G.q (Quiet.assign rfl) rfl ?_
    refine G.nil ?_
    refine G.then_n ?_
    refine G.condD rfl (fun h15 => ?_) (fun h15 => ?_)
    · refine G.trFold (τ := τ) hI (by (repeat (first | exact Picks.nil | (apply Picks.cons; (repeat (first | exact Pick.here | apply Pick.there)))))) rfl rfl rfl ?_
      refine G.seq ?_
      refine G.region ?_
      refine G.q (Quiet.move rfl) rfl ?_
      refine G.q (Quiet.loadAs (vs := ptC x) rfl ag_50 (by (repeat (first | exact Pick.here | apply Pick.there))) (by simp [ptC]) rfl) rfl ?_
      refine G.q (Quiet.move rfl) rfl ?_
      refine G.op (OpSpec.call Tryd.func39 rfl rfl (vs := [_, _, _]) rfl (trcreate_spec t τ x zx p hx)) (by (repeat (first | exact Picks.nil | (apply Picks.cons; (repeat (first | exact Pick.here | apply Pick.there)))))) rfl ?nx17
      rintro v L' ⟨a3, c3, rfl, rfl⟩
      refine G.q (Quiet.assign rfl) rfl ?_
      refine G.nil ?_
      refine G.then_n ?_
      refine G.ret ?_
      refine G.blk_r ?_
      refine G.then_r ?_
      have hc : partZ τ x zx = createZ τ x zx := by unfold partZ; rw [if_pos h15]
      refine G.trCast (τ' := (partZ τ x zx).1) (by (repeat (first | exact Pick.here | apply Pick.there))) (by rw [hc]) ?_
      refine G.slCast (T := 35) (sz := 3) (m' := (partZ τ x zx).2.length) (xs' := (partZ τ x zx).2.flatMap evC) (by (repeat (first | exact Pick.here | apply Pick.there))) (by (rw [hc]; try rfl)) (by (rw [hc]; try rfl)) ?_
      exact G.done (l := [.tmp 6]) rfl rfl ⟨_, _, by (rw [hc]; try rfl), rfl⟩ (by (repeat (first | exact Picks.nil | (apply Picks.cons; (repeat (first | exact Pick.here | apply Pick.there)))))) (by (repeat (first | exact Suff.here | apply Suff.there)))
    · refine G.seq ?_
      refine G.region ?_
      refine G.q (Quiet.fieldAddr rfl fo_50_0) rfl ?_
      refine G.q (Quiet.load rfl ag_3 (by (repeat (first | exact Pick.here | apply Pick.there))) (rfl)) rfl ?_
      refine G.q (Quiet.int rfl rfl rfl) rfl ?_
      refine G.q (Quiet.assign rfl) rfl ?_
      refine G.nil ?_
      refine G.then_n ?_
      refine G.condD rfl (fun h23 => ?_) (fun h23 => ?_)
      · refine G.trFold (τ := τ) hI (by (repeat (first | exact Picks.nil | (apply Picks.cons; (repeat (first | exact Pick.here | apply Pick.there)))))) rfl rfl rfl ?_
        refine G.seq ?_
        refine G.region ?_
        refine G.q (Quiet.move rfl) rfl ?_
        refine G.q (Quiet.loadAs (vs := ptC x) rfl ag_50 (by (repeat (first | exact Pick.here | apply Pick.there))) (by simp [ptC]) rfl) rfl ?_
        refine G.q (Quiet.move rfl) rfl ?_
        refine G.op (OpSpec.call Tryd.func40 rfl rfl (vs := [_, _, _]) rfl (trerase_spec t τ x zx p hx N ho hN)) (by (repeat (first | exact Picks.nil | (apply Picks.cons; (repeat (first | exact Pick.here | apply Pick.there)))))) rfl ?nx25
        rintro v L' ⟨a5, c5, rfl, rfl⟩
        refine G.q (Quiet.assign rfl) rfl ?_
        refine G.nil ?_
        refine G.then_n ?_
        refine G.ret ?_
        refine G.blk_r ?_
        refine G.then_r ?_
        have hc : partZ τ x zx = eraseZ τ x zx := by unfold partZ; rw [if_neg h15, if_pos h23]
        refine G.trCast (τ' := (partZ τ x zx).1) (by (repeat (first | exact Pick.here | apply Pick.there))) (by rw [hc]) ?_
        refine G.slCast (T := 35) (sz := 3) (m' := (partZ τ x zx).2.length) (xs' := (partZ τ x zx).2.flatMap evC) (by (repeat (first | exact Pick.here | apply Pick.there))) (by (rw [hc]; try rfl)) (by (rw [hc]; try rfl)) ?_
        exact G.done (l := [.tmp 6]) rfl rfl ⟨_, _, by (rw [hc]; try rfl), rfl⟩ (by (repeat (first | exact Picks.nil | (apply Picks.cons; (repeat (first | exact Pick.here | apply Pick.there)))))) (by (repeat (first | exact Suff.here | apply Suff.there)))
      · refine G.seq ?_
        refine G.region ?_
        refine G.q (Quiet.fieldAddr rfl fo_50_0) rfl ?_
        refine G.q (Quiet.load rfl ag_3 (by (repeat (first | exact Pick.here | apply Pick.there))) (rfl)) rfl ?_
        refine G.q (Quiet.int rfl rfl rfl) rfl ?_
        refine G.q (Quiet.move rfl) rfl ?_
        refine G.dec (t := 35) rfl (fun h6_35 => ?_) (fun h6_35 => ?_)
        · refine G.kDT (t := 34) rfl h6_35 ?_
          refine G.grun (t := 35) rfl rfl rfl ?_
          refine G.q (Quiet.move rfl) rfl ?_
          refine G.grun (t := 35) rfl rfl rfl ?_
          refine G.q (Quiet.as (v' := .bool false) (by rfl) (Quiet.ptrne rfl rfl Tryd.underlying82)) rfl ?_
          refine G.q (Quiet.pickT rfl rfl) rfl ?_
          refine G.q (Quiet.assign rfl) rfl ?_
          refine G.nil ?_
          refine G.then_n ?_
          refine G.condF rfl ?_
          refine G.seq ?_
          refine G.region ?_
          refine G.q (Quiet.fieldAddr rfl fo_50_0) rfl ?_
          refine G.q (Quiet.load rfl ag_3 (by (repeat (first | exact Pick.here | apply Pick.there))) (rfl)) rfl ?_
          refine G.q (Quiet.int rfl rfl rfl) rfl ?_
          refine G.q (Quiet.move rfl) rfl ?_
          refine G.dec (t := 64) rfl (fun h9_64 => ?_) (fun h9_64 => ?_)
          · refine G.kDT (t := 63) rfl h9_64 ?_
            refine G.grun (t := 64) rfl rfl rfl ?_
            refine G.q (Quiet.move rfl) rfl ?_
            refine G.grun (t := 64) rfl rfl rfl ?_
            refine G.q (Quiet.as (v' := .bool false) (by rfl) (Quiet.ptrne rfl rfl Tryd.underlying82)) rfl ?_
            refine G.q (Quiet.pickT rfl rfl) rfl ?_
            refine G.q (Quiet.assign rfl) rfl ?_
            refine G.nil ?_
            refine G.then_n ?_
            refine G.condF rfl ?_
            refine G.skip ?_
            refine G.blk_n ?_
            refine G.then_n ?_
            refine G.seq ?_
            refine G.region ?_
            refine G.q (Quiet.assign rfl) rfl ?_
            refine G.nil ?_
            refine G.then_n ?_
            refine G.ret ?_
            refine G.trFold (τ := τ) hI (by (repeat (first | exact Picks.nil | (apply Picks.cons; (repeat (first | exact Pick.here | apply Pick.there)))))) rfl rfl rfl ?_
            refine G.add (slR_nil 35 3) ?_
            have hc : partZ τ x zx = (τ, []) := by unfold partZ; rw [if_neg h15, if_neg h23, if_neg (fun g => hI.none_iff.1 hal g.2), if_neg (fun g => hI.none_iff.1 hal g.2)]
            refine G.trCast (τ' := (partZ τ x zx).1) (by (repeat (first | exact Pick.here | apply Pick.there))) (by rw [hc]) ?_
            refine G.slCast (T := 35) (sz := 3) (m' := (partZ τ x zx).2.length) (xs' := (partZ τ x zx).2.flatMap evC) (by (repeat (first | exact Pick.here | apply Pick.there))) (by (rw [hc]; try rfl)) (by (rw [hc]; try rfl)) ?_
            exact G.done (l := [.tmp 6]) rfl rfl ⟨_, _, by (rw [hc]; try rfl), rfl⟩ (by (repeat (first | exact Picks.nil | (apply Picks.cons; (repeat (first | exact Pick.here | apply Pick.there)))))) (by (repeat (first | exact Suff.here | apply Suff.there)))
          · refine G.kDF (t := 63) rfl h9_64 ?_
            refine G.gskip (t := 64) rfl rfl rfl rfl ?_
            refine G.gskip (t := 64) rfl rfl rfl rfl ?_
            refine G.q (Quiet.pickF rfl rfl) rfl ?_
            refine G.q (Quiet.assign rfl) rfl ?_
            refine G.nil ?_
            refine G.then_n ?_
            refine G.condF rfl ?_
            refine G.skip ?_
            refine G.blk_n ?_
            refine G.then_n ?_
            refine G.seq ?_
            refine G.region ?_
            refine G.q (Quiet.assign rfl) rfl ?_
            refine G.nil ?_
            refine G.then_n ?_
            refine G.ret ?_
            refine G.trFold (τ := τ) hI (by (repeat (first | exact Picks.nil | (apply Picks.cons; (repeat (first | exact Pick.here | apply Pick.there)))))) rfl rfl rfl ?_
            refine G.add (slR_nil 35 3) ?_
            have hc : partZ τ x zx = (τ, []) := by unfold partZ; rw [if_neg h15, if_neg h23, if_neg (fun g => hI.none_iff.1 hal g.2), if_neg (fun g => h9_64 g.1)]
            refine G.trCast (τ' := (partZ τ x zx).1) (by (repeat (first | exact Pick.here | apply Pick.there))) (by rw [hc]) ?_
            refine G.slCast (T := 35) (sz := 3) (m' := (partZ τ x zx).2.length) (xs' := (partZ τ x zx).2.flatMap evC) (by (repeat (first | exact Pick.here | apply Pick.there))) (by (rw [hc]; try rfl)) (by (rw [hc]; try rfl)) ?_
            exact G.done (l := [.tmp 6]) rfl rfl ⟨_, _, by (rw [hc]; try rfl), rfl⟩ (by (repeat (first | exact Picks.nil | (apply Picks.cons; (repeat (first | exact Pick.here | apply Pick.there)))))) (by (repeat (first | exact Suff.here | apply Suff.there)))
        · refine G.kDF (t := 34) rfl h6_35 ?_
          refine G.gskip (t := 35) rfl rfl rfl rfl ?_
          refine G.gskip (t := 35) rfl rfl rfl rfl ?_
          refine G.q (Quiet.pickF rfl rfl) rfl ?_
          refine G.q (Quiet.assign rfl) rfl ?_
          refine G.nil ?_
          refine G.then_n ?_
          refine G.condF rfl ?_
          refine G.seq ?_
          refine G.region ?_
          refine G.q (Quiet.fieldAddr rfl fo_50_0) rfl ?_
          refine G.q (Quiet.load rfl ag_3 (by (repeat (first | exact Pick.here | apply Pick.there))) (rfl)) rfl ?_
          refine G.q (Quiet.int rfl rfl rfl) rfl ?_
          refine G.q (Quiet.move rfl) rfl ?_
          refine G.dec (t := 64) rfl (fun h9_64 => ?_) (fun h9_64 => ?_)
          · refine G.kDT (t := 63) rfl h9_64 ?_
            refine G.grun (t := 64) rfl rfl rfl ?_
            refine G.q (Quiet.move rfl) rfl ?_
            refine G.grun (t := 64) rfl rfl rfl ?_
            refine G.q (Quiet.as (v' := .bool false) (by rfl) (Quiet.ptrne rfl rfl Tryd.underlying82)) rfl ?_
            refine G.q (Quiet.pickT rfl rfl) rfl ?_
            refine G.q (Quiet.assign rfl) rfl ?_
            refine G.nil ?_
            refine G.then_n ?_
            refine G.condF rfl ?_
            refine G.skip ?_
            refine G.blk_n ?_
            refine G.then_n ?_
            refine G.seq ?_
            refine G.region ?_
            refine G.q (Quiet.assign rfl) rfl ?_
            refine G.nil ?_
            refine G.then_n ?_
            refine G.ret ?_
            refine G.trFold (τ := τ) hI (by (repeat (first | exact Picks.nil | (apply Picks.cons; (repeat (first | exact Pick.here | apply Pick.there)))))) rfl rfl rfl ?_
            refine G.add (slR_nil 35 3) ?_
            have hc : partZ τ x zx = (τ, []) := by unfold partZ; rw [if_neg h15, if_neg h23, if_neg (fun g => h6_35 g.1), if_neg (fun g => hI.none_iff.1 hal g.2)]
            refine G.trCast (τ' := (partZ τ x zx).1) (by (repeat (first | exact Pick.here | apply Pick.there))) (by rw [hc]) ?_
            refine G.slCast (T := 35) (sz := 3) (m' := (partZ τ x zx).2.length) (xs' := (partZ τ x zx).2.flatMap evC) (by (repeat (first | exact Pick.here | apply Pick.there))) (by (rw [hc]; try rfl)) (by (rw [hc]; try rfl)) ?_
            exact G.done (l := [.tmp 6]) rfl rfl ⟨_, _, by (rw [hc]; try rfl), rfl⟩ (by (repeat (first | exact Picks.nil | (apply Picks.cons; (repeat (first | exact Pick.here | apply Pick.there)))))) (by (repeat (first | exact Suff.here | apply Suff.there)))
          · refine G.kDF (t := 63) rfl h9_64 ?_
            refine G.gskip (t := 64) rfl rfl rfl rfl ?_
            refine G.gskip (t := 64) rfl rfl rfl rfl ?_
            refine G.q (Quiet.pickF rfl rfl) rfl ?_
            refine G.q (Quiet.assign rfl) rfl ?_
            refine G.nil ?_
            refine G.then_n ?_
            refine G.condF rfl ?_
            refine G.skip ?_
            refine G.blk_n ?_
            refine G.then_n ?_
            refine G.seq ?_
            refine G.region ?_
            refine G.q (Quiet.assign rfl) rfl ?_
            refine G.nil ?_
            refine G.then_n ?_
            refine G.ret ?_
            refine G.trFold (τ := τ) hI (by (repeat (first | exact Picks.nil | (apply Picks.cons; (repeat (first | exact Pick.here | apply Pick.there)))))) rfl rfl rfl ?_
            refine G.add (slR_nil 35 3) ?_
            have hc : partZ τ x zx = (τ, []) := by unfold partZ; rw [if_neg h15, if_neg h23, if_neg (fun g => h6_35 g.1), if_neg (fun g => h9_64 g.1)]
            refine G.trCast (τ' := (partZ τ x zx).1) (by (repeat (first | exact Pick.here | apply Pick.there))) (by rw [hc]) ?_
            refine G.slCast (T := 35) (sz := 3) (m' := (partZ τ x zx).2.length) (xs' := (partZ τ x zx).2.flatMap evC) (by (repeat (first | exact Pick.here | apply Pick.there))) (by (rw [hc]; try rfl)) (by (rw [hc]; try rfl)) ?_
            exact G.done (l := [.tmp 6]) rfl rfl ⟨_, _, by (rw [hc]; try rfl), rfl⟩ (by (repeat (first | exact Picks.nil | (apply Picks.cons; (repeat (first | exact Pick.here | apply Pick.there)))))) (by (repeat (first | exact Suff.here | apply Suff.there)))
  · refine D.qw [1, 2, 3, 6, 7] rfl (by kernel_rfl) (Quiet.move rfl) ?_
    refine D.qw [2, 3, 6, 7] rfl (by kernel_rfl) (Quiet.nilp rfl) ?_
    refine D.qw [3, 6, 7] rfl (by kernel_rfl) (Quiet.fieldAddr rfl fo_90_0) ?_
    refine D.qw [6, 7] rfl (by kernel_rfl) (Quiet.load rfl ag_87 (by (repeat (first | exact Pick.here | apply Pick.there))) (rfl)) ?_
    refine D.qw [5, 6, 7] rfl (by kernel_rfl) (Quiet.fieldAddr rfl fo_50_1) ?_
    refine D.qw [6, 7] rfl (by kernel_rfl) (Quiet.load rfl ag_9 (by (repeat (first | exact Pick.here | apply Pick.there))) (rfl)) ?_
    refine D.qw [7] rfl (by kernel_rfl) (Quiet.lookupY (m := m) (enc := ndV) (KeyLaw.str Tryd.underlying9) (hal) rfl rfl Tryd.underlying87 ze_82 (by (repeat (first | exact Pick.here | apply Pick.there))) rfl) ?_
    refine D.qw [] rfl (by kernel_rfl) (Quiet.assign rfl) ?_
    refine D.ph ?_
    refine Phases.fin ?_
    refine G.then_n ?_
    refine G.seq ?_
    refine G.block ?_
    refine G.seq ?_
    refine G.region ?_
    refine G.q (Quiet.fieldAddr rfl fo_50_0) rfl ?_
    refine G.q (Quiet.load rfl ag_3 (by (repeat (first | exact Pick.here | apply Pick.there))) (rfl)) rfl ?_
    refine G.q (Quiet.int rfl rfl rfl) rfl ?_
    refine G.q (Quiet.assign rfl) rfl ?_
    refine G.nil ?_
    refine G.then_n ?_
    refine G.condD rfl (fun h15 => ?_) (fun h15 => ?_)
    · refine G.trFold (τ := τ) hI (by (repeat (first | exact Picks.nil | (apply Picks.cons; (repeat (first | exact Pick.here | apply Pick.there)))))) rfl rfl rfl ?_
      refine G.seq ?_
      refine G.region ?_
      refine G.q (Quiet.move rfl) rfl ?_
      refine G.q (Quiet.loadAs (vs := ptC x) rfl ag_50 (by (repeat (first | exact Pick.here | apply Pick.there))) (by simp [ptC]) rfl) rfl ?_
      refine G.q (Quiet.move rfl) rfl ?_
      refine G.op (OpSpec.call Tryd.func39 rfl rfl (vs := [_, _, _]) rfl (trcreate_spec t τ x zx p hx)) (by (repeat (first | exact Picks.nil | (apply Picks.cons; (repeat (first | exact Pick.here | apply Pick.there)))))) rfl ?nx59
      rintro v L' ⟨a3, c3, rfl, rfl⟩
      refine G.q (Quiet.assign rfl) rfl ?_
      refine G.nil ?_
      refine G.then_n ?_
      refine G.ret ?_
      refine G.blk_r ?_
      refine G.then_r ?_
      have hc : partZ τ x zx = createZ τ x zx := by unfold partZ; rw [if_pos h15]
      refine G.trCast (τ' := (partZ τ x zx).1) (by (repeat (first | exact Pick.here | apply Pick.there))) (by rw [hc]) ?_
      refine G.slCast (T := 35) (sz := 3) (m' := (partZ τ x zx).2.length) (xs' := (partZ τ x zx).2.flatMap evC) (by (repeat (first | exact Pick.here | apply Pick.there))) (by (rw [hc]; try rfl)) (by (rw [hc]; try rfl)) ?_
      exact G.done (l := [.tmp 6]) rfl rfl ⟨_, _, by (rw [hc]; try rfl), rfl⟩ (by (repeat (first | exact Picks.nil | (apply Picks.cons; (repeat (first | exact Pick.here | apply Pick.there)))))) (by (repeat (first | exact Suff.here | apply Suff.there)))
    · refine G.seq ?_
      refine G.region ?_
      refine G.q (Quiet.fieldAddr rfl fo_50_0) rfl ?_
      refine G.q (Quiet.load rfl ag_3 (by (repeat (first | exact Pick.here | apply Pick.there))) (rfl)) rfl ?_
      refine G.q (Quiet.int rfl rfl rfl) rfl ?_
      refine G.q (Quiet.assign rfl) rfl ?_
      refine G.nil ?_
      refine G.then_n ?_
      refine G.condD rfl (fun h23 => ?_) (fun h23 => ?_)
      · refine G.trFold (τ := τ) hI (by (repeat (first | exact Picks.nil | (apply Picks.cons; (repeat (first | exact Pick.here | apply Pick.there)))))) rfl rfl rfl ?_
        refine G.seq ?_
        refine G.region ?_
        refine G.q (Quiet.move rfl) rfl ?_
        refine G.q (Quiet.loadAs (vs := ptC x) rfl ag_50 (by (repeat (first | exact Pick.here | apply Pick.there))) (by simp [ptC]) rfl) rfl ?_
        refine G.q (Quiet.move rfl) rfl ?_
        refine G.op (OpSpec.call Tryd.func40 rfl rfl (vs := [_, _, _]) rfl (trerase_spec t τ x zx p hx N ho hN)) (by (repeat (first | exact Picks.nil | (apply Picks.cons; (repeat (first | exact Pick.here | apply Pick.there)))))) rfl ?nx67
        rintro v L' ⟨a5, c5, rfl, rfl⟩
        refine G.q (Quiet.assign rfl) rfl ?_
        refine G.nil ?_
        refine G.then_n ?_
        refine G.ret ?_
        refine G.blk_r ?_
        refine G.then_r ?_
        have hc : partZ τ x zx = eraseZ τ x zx := by unfold partZ; rw [if_neg h15, if_pos h23]
        refine G.trCast (τ' := (partZ τ x zx).1) (by (repeat (first | exact Pick.here | apply Pick.there))) (by rw [hc]) ?_
        refine G.slCast (T := 35) (sz := 3) (m' := (partZ τ x zx).2.length) (xs' := (partZ τ x zx).2.flatMap evC) (by (repeat (first | exact Pick.here | apply Pick.there))) (by (rw [hc]; try rfl)) (by (rw [hc]; try rfl)) ?_
        exact G.done (l := [.tmp 6]) rfl rfl ⟨_, _, by (rw [hc]; try rfl), rfl⟩ (by (repeat (first | exact Picks.nil | (apply Picks.cons; (repeat (first | exact Pick.here | apply Pick.there)))))) (by (repeat (first | exact Suff.here | apply Suff.there)))
      · refine G.seq ?_
        refine G.region ?_
        refine G.q (Quiet.fieldAddr rfl fo_50_0) rfl ?_
        refine G.q (Quiet.load rfl ag_3 (by (repeat (first | exact Pick.here | apply Pick.there))) (rfl)) rfl ?_
        refine G.q (Quiet.int rfl rfl rfl) rfl ?_
        refine G.q (Quiet.move rfl) rfl ?_
        refine G.dec (t := 35) rfl (fun h6_35 => ?_) (fun h6_35 => ?_)
        · refine G.kDT (t := 34) rfl h6_35 ?_
          refine G.grun (t := 35) rfl rfl rfl ?_
          refine G.q (Quiet.move rfl) rfl ?_
          refine G.grun (t := 35) rfl rfl rfl ?_
          refine G.q (Quiet.as (v' := .bool true) (by rfl) (Quiet.ptrne rfl rfl Tryd.underlying82)) rfl ?_
          refine G.q (Quiet.pickT rfl rfl) rfl ?_
          refine G.q (Quiet.assign rfl) rfl ?_
          refine G.nil ?_
          refine G.then_n ?_
          refine G.condT rfl ?_
          refine G.seq ?_
          refine G.bigTake hal (by (repeat (first | exact Pick.here | apply Pick.there))) ?_
          refine G.ndOpen (x := (x.path, px)) (by (repeat (first | exact Pick.here | apply Pick.there))) ?_
          refine G.draw [10, 14, 18] [[0, 1, 2, 3, 4, 5, 6, 7, 8, 9, 10, 11, 12, 13, 14], [15, 16, 17, 18]] mixed (by kernel_rfl) ?_
          refine Phases.go [ptc bx _ _] (by (repeat (first | exact Picks.nil | (apply Picks.cons; (repeat (first | exact Pick.here | apply Pick.there)))))) ?_
          refine D.qw [8, 9, 10, 11, 12, 13, 14] rfl (by kernel_rfl) (Quiet.move rfl) ?_
          refine D.q rfl (by kernel_rfl) (Quiet.move rfl) ?_
          refine D.q rfl (by kernel_rfl) (Quiet.move rfl) ?_
          refine D.qw [4, 8, 9, 10, 11, 12, 13, 14] rfl (by kernel_rfl) (Quiet.fieldAddr rfl fo_50_2) ?_
          refine D.qw [8, 9, 10, 11, 12, 13, 14] rfl (by kernel_rfl) (Quiet.load rfl ag_9 (by (repeat (first | exact Pick.here | apply Pick.there))) (rfl)) ?_
          refine D.q rfl (by kernel_rfl) (Quiet.fieldAddr rfl fo_50_5) ?_
          refine D.q rfl (by kernel_rfl) (Quiet.load rfl ag_3 (by (repeat (first | exact Pick.here | apply Pick.there))) (rfl)) ?_
          refine D.q rfl (by kernel_rfl) (Quiet.move rfl) ?_
          refine D.qw [9, 10, 11, 12, 13, 14] rfl (by kernel_rfl) (Quiet.nilp rfl) ?_
          refine D.qw [10, 11, 12, 13, 14] rfl (by kernel_rfl) (Quiet.fieldAddr rfl fo_86_0) ?_
          refine D.h rfl (by kernel_rfl) (OpSpec.store rfl rfl rfl sz_9 ?c80 ?c81) (by (repeat (first | exact Picks.nil | (apply Picks.cons; (repeat (first | exact Pick.here | apply Pick.there)))))) ?nx82
          case c80 => simp [ndC]
          case c81 => exact nfz0 _ _
          rintro v L' rfl
          refine D.qw [12, 13, 14] rfl (by kernel_rfl) (Quiet.nilp rfl) ?_
          refine D.qw [13, 14] rfl (by kernel_rfl) (Quiet.fieldAddr rfl fo_86_2) ?_
          refine D.qw [14] rfl (by kernel_rfl) (Quiet.fieldAddr rfl fo_71_3) ?_
          refine D.h rfl (by kernel_rfl) (OpSpec.store rfl rfl rfl sz_3 ?c86 ?c87) (by (repeat (first | exact Picks.nil | (apply Picks.cons; (repeat (first | exact Pick.here | apply Pick.there)))))) ?nx88
          case c86 => simp [ndC]
          case c87 => exact nfz0 _ _
          rintro v L' rfl
          refine D.ph ?_
          refine Phases.go [] (by (repeat (first | exact Picks.nil | (apply Picks.cons; (repeat (first | exact Pick.here | apply Pick.there)))))) ?_
          refine D.qw [16, 17, 18] rfl (by kernel_rfl) (Quiet.nilp rfl) ?_
          refine D.qw [17, 18] rfl (by kernel_rfl) (Quiet.fieldAddr rfl fo_86_2) ?_
          refine D.qw [18] rfl (by kernel_rfl) (Quiet.fieldAddr rfl fo_71_1) ?_
          refine D.h rfl (by kernel_rfl) (OpSpec.store rfl rfl rfl sz_3 ?c92 ?c93) (by (repeat (first | exact Picks.nil | (apply Picks.cons; (repeat (first | exact Pick.here | apply Pick.there)))))) ?nx94
          case c92 => simp [ndC]
          case c93 => exact nfz0 _ _
          rintro v L' rfl
          refine D.ph ?_
          refine Phases.fin ?_
          refine G.ndFold (x := (x.path, (px.1, (px.2.1, setN x.data x.num zx px.2.2)))) (by (repeat (first | exact Picks.nil | (apply Picks.cons; (repeat (first | exact Pick.here | apply Pick.there)))))) rfl rfl rfl rfl ?_
          refine G.bigPut (f := inN) (m := m) x.path ((x.path, (px.1, (px.2.1, setN x.data x.num zx px.2.2)))).2 rfl (by (repeat (first | exact Picks.nil | (apply Picks.cons; (repeat (first | exact Pick.here | apply Pick.there)))))) ?_
          refine G.trFold (τ := ({ τ with nodes := amod τ.nodes x.path (setN x.data x.num zx) } : Tr)) (hI.mod hal (setN x.data x.num zx) (y := ((x.path, (px.1, (px.2.1, setN x.data x.num zx px.2.2)))).2) rfl) (by (repeat (first | exact Picks.nil | (apply Picks.cons; (repeat (first | exact Pick.here | apply Pick.there)))))) rfl (ndE_set (y := ((x.path, (px.1, (px.2.1, setN x.data x.num zx px.2.2)))).2) hal rfl).symm rfl ?_
          refine G.then_n ?_
          refine G.seq ?_
          refine G.region ?_
          refine G.q (Quiet.fieldAddr rfl fo_50_1) rfl ?_
          refine G.q (Quiet.load rfl ag_9 (by (repeat (first | exact Pick.here | apply Pick.there))) (rfl)) rfl ?_
          refine G.q (Quiet.move rfl) rfl ?_
          refine G.q (Quiet.build (us := [(0, _), (1, _), (2, _)]) fl_35 ze_35 rfl rfl (by simp [isCell])) rfl ?_
          refine G.op (OpSpec.buildSlice (vs := [_]) el_23 ze_35 rfl rfl rfl rfl (by first | (simp [Value.cells]; done) | (intro v hv; simp only [List.mem_cons, List.not_mem_nil, or_false] at hv; (repeat (first | (subst hv; rfl) | (rcases hv with hv | hv; (subst hv; rfl)))))) (by decide)) (by (repeat (first | exact Picks.nil | (apply Picks.cons; (repeat (first | exact Pick.here | apply Pick.there)))))) rfl ?nx99
          rintro v L' ⟨bo, rfl, rfl⟩
          refine G.q (Quiet.assign rfl) rfl ?_
          refine G.nil ?_
          refine G.slMakeN 3 1 (b := bo) (xs := ([(3, (x.path, zx))] : List Ev).flatMap evC) (by (repeat (first | exact Pick.here | apply Pick.there))) rfl rfl ?_
          refine G.then_n ?_
          refine G.ret ?_
          refine G.blk_r ?_
          refine G.then_r ?_
          have hc : partZ τ x zx = (({ τ with nodes := amod τ.nodes x.path (setN x.data x.num zx) } : Tr), [(3, (x.path, zx))]) := by unfold partZ; rw [if_neg h15, if_neg h23, if_pos ⟨h6_35, hI.some_iff hal⟩]
          refine G.trCast (τ' := (partZ τ x zx).1) (by (repeat (first | exact Pick.here | apply Pick.there))) (by rw [hc]) ?_
          refine G.slCast (T := 35) (sz := 3) (m' := (partZ τ x zx).2.length) (xs' := (partZ τ x zx).2.flatMap evC) (by (repeat (first | exact Pick.here | apply Pick.there))) (by (rw [hc]; try rfl)) (by (rw [hc]; try rfl)) ?_
          exact G.done (l := [.tmp 6]) rfl rfl ⟨_, _, by (rw [hc]; try rfl), rfl⟩ (by (repeat (first | exact Picks.nil | (apply Picks.cons; (repeat (first | exact Pick.here | apply Pick.there)))))) (by (repeat (first | exact Suff.here | apply Suff.there)))
        · refine G.kDF (t := 34) rfl h6_35 ?_
          refine G.gskip (t := 35) rfl rfl rfl rfl ?_
          refine G.gskip (t := 35) rfl rfl rfl rfl ?_
          refine G.q (Quiet.pickF rfl rfl) rfl ?_
          refine G.q (Quiet.assign rfl) rfl ?_
          refine G.nil ?_
          refine G.then_n ?_
          refine G.condF rfl ?_
          refine G.seq ?_
          refine G.region ?_
          refine G.q (Quiet.fieldAddr rfl fo_50_0) rfl ?_
          refine G.q (Quiet.load rfl ag_3 (by (repeat (first | exact Pick.here | apply Pick.there))) (rfl)) rfl ?_
          refine G.q (Quiet.int rfl rfl rfl) rfl ?_
          refine G.q (Quiet.move rfl) rfl ?_
          refine G.dec (t := 64) rfl (fun h9_64 => ?_) (fun h9_64 => ?_)
          · refine G.kDT (t := 63) rfl h9_64 ?_
            refine G.grun (t := 64) rfl rfl rfl ?_
            refine G.q (Quiet.move rfl) rfl ?_
            refine G.grun (t := 64) rfl rfl rfl ?_
            refine G.q (Quiet.as (v' := .bool true) (by rfl) (Quiet.ptrne rfl rfl Tryd.underlying82)) rfl ?_
            refine G.q (Quiet.pickT rfl rfl) rfl ?_
            refine G.q (Quiet.assign rfl) rfl ?_
            refine G.nil ?_
            refine G.then_n ?_
            refine G.condT rfl ?_
            refine G.bigTake hal (by (repeat (first | exact Pick.here | apply Pick.there))) ?_
            refine G.ndOpen (x := (x.path, px)) (by (repeat (first | exact Pick.here | apply Pick.there))) ?_
            refine G.draw [4, 9, 13] [[0, 1, 2, 3, 5, 6, 4, 7, 8, 9], [10, 11, 12, 13]] mixed (by kernel_rfl) ?_
            refine Phases.go [ptc bx _ _] (by (repeat (first | exact Picks.nil | (apply Picks.cons; (repeat (first | exact Pick.here | apply Pick.there)))))) ?_
            refine D.q rfl (by kernel_rfl) (Quiet.move rfl) ?_
            refine D.q rfl (by kernel_rfl) (Quiet.move rfl) ?_
            refine D.qw [3, 4, 7, 8, 9] rfl (by kernel_rfl) (Quiet.fieldAddr rfl fo_50_3) ?_
            refine D.qw [4, 7, 8, 9] rfl (by kernel_rfl) (Quiet.load rfl ag_47 (by (repeat (first | exact Pick.here | apply Pick.there))) (rfl)) ?_
            refine D.q rfl (by kernel_rfl) (Quiet.fieldAddr rfl fo_50_5) ?_
            refine D.q rfl (by kernel_rfl) (Quiet.load rfl ag_3 (by (repeat (first | exact Pick.here | apply Pick.there))) (rfl)) ?_
            refine D.h rfl (by kernel_rfl) (OpSpec.call Tryd.func41 rfl rfl (vs := [_]) rfl (aclone_spec x.aclV x.acl p hx.acl hfew)) (by (repeat (first | exact Picks.nil | (apply Picks.cons; (repeat (first | exact Pick.here | apply Pick.there)))))) ?nx110
            rintro v L' ⟨⟨a10, c10, rfl⟩, rfl⟩
            refine D.qw [8, 9] rfl (by kernel_rfl) (Quiet.nilp rfl) ?_
            refine D.qw [9] rfl (by kernel_rfl) (Quiet.fieldAddr rfl fo_86_1) ?_
            refine D.h rfl (by kernel_rfl) (OpSpec.store rfl rfl rfl sz_47 ?c114 ?c115) (by (repeat (first | exact Picks.nil | (apply Picks.cons; (repeat (first | exact Pick.here | apply Pick.there)))))) ?nx116
            case c114 => simp [ndC]
            case c115 => exact nfz0 _ _
            rintro v L' rfl
            refine D.ph ?_
            refine Phases.go [] (by (repeat (first | exact Picks.nil | (apply Picks.cons; (repeat (first | exact Pick.here | apply Pick.there)))))) ?_
            refine D.qw [11, 12, 13] rfl (by kernel_rfl) (Quiet.nilp rfl) ?_
            refine D.qw [12, 13] rfl (by kernel_rfl) (Quiet.fieldAddr rfl fo_86_2) ?_
            refine D.qw [13] rfl (by kernel_rfl) (Quiet.fieldAddr rfl fo_71_5) ?_
            refine D.h rfl (by kernel_rfl) (OpSpec.store rfl rfl rfl sz_3 ?c120 ?c121) (by (repeat (first | exact Picks.nil | (apply Picks.cons; (repeat (first | exact Pick.here | apply Pick.there)))))) ?nx122
            case c120 => simp [ndC]
            case c121 => exact nfz0 _ _
            rintro v L' rfl
            refine D.ph ?_
            refine Phases.fin ?_
            refine G.toRd (v := .slice a10 x.acl.length c10) (by (repeat (first | exact Pick.here | apply Pick.there))) ?_
            refine G.ndFold (x := (x.path, (px.1, (.slice a10 x.acl.length c10, aclN x.acl x.num px.2.2)))) (v := .slice a10 x.acl.length c10) (by (repeat (first | exact Picks.nil | (apply Picks.cons; (repeat (first | exact Pick.here | apply Pick.there)))))) rfl rfl rfl rfl ?_
            refine G.bigPut (f := inN) (m := m) x.path ((x.path, (px.1, (.slice a10 x.acl.length c10, aclN x.acl x.num px.2.2)))).2 rfl (by (repeat (first | exact Picks.nil | (apply Picks.cons; (repeat (first | exact Pick.here | apply Pick.there)))))) ?_
            refine G.trFold (τ := ({ τ with nodes := amod τ.nodes x.path (aclN x.acl x.num) } : Tr)) (hI.mod hal (aclN x.acl x.num) (y := ((x.path, (px.1, (.slice a10 x.acl.length c10, aclN x.acl x.num px.2.2)))).2) rfl) (by (repeat (first | exact Picks.nil | (apply Picks.cons; (repeat (first | exact Pick.here | apply Pick.there)))))) rfl (ndE_set (y := ((x.path, (px.1, (.slice a10 x.acl.length c10, aclN x.acl x.num px.2.2)))).2) hal rfl).symm rfl ?_
            refine G.blk_n ?_
            refine G.then_n ?_
            refine G.seq ?_
            refine G.region ?_
            refine G.q (Quiet.assign rfl) rfl ?_
            refine G.nil ?_
            refine G.then_n ?_
            refine G.ret ?_
            refine G.add (slR_nil 35 3) ?_
            have hc : partZ τ x zx = (({ τ with nodes := amod τ.nodes x.path (aclN x.acl x.num) } : Tr), []) := by unfold partZ; rw [if_neg h15, if_neg h23, if_neg (fun g => h6_35 g.1), if_pos ⟨h9_64, hI.some_iff hal⟩]
            refine G.trCast (τ' := (partZ τ x zx).1) (by (repeat (first | exact Pick.here | apply Pick.there))) (by rw [hc]) ?_
            refine G.slCast (T := 35) (sz := 3) (m' := (partZ τ x zx).2.length) (xs' := (partZ τ x zx).2.flatMap evC) (by (repeat (first | exact Pick.here | apply Pick.there))) (by (rw [hc]; try rfl)) (by (rw [hc]; try rfl)) ?_
            exact G.done (l := [.tmp 6]) rfl rfl ⟨_, _, by (rw [hc]; try rfl), rfl⟩ (by (repeat (first | exact Picks.nil | (apply Picks.cons; (repeat (first | exact Pick.here | apply Pick.there)))))) (by (repeat (first | exact Suff.here | apply Suff.there)))
          · refine G.kDF (t := 63) rfl h9_64 ?_
            refine G.gskip (t := 64) rfl rfl rfl rfl ?_
            refine G.gskip (t := 64) rfl rfl rfl rfl ?_
            refine G.q (Quiet.pickF rfl rfl) rfl ?_
            refine G.q (Quiet.assign rfl) rfl ?_
            refine G.nil ?_
            refine G.then_n ?_
            refine G.condF rfl ?_
            refine G.skip ?_
            refine G.blk_n ?_
            refine G.then_n ?_
            refine G.seq ?_
            refine G.region ?_
            refine G.q (Quiet.assign rfl) rfl ?_
            refine G.nil ?_
            refine G.then_n ?_
            refine G.ret ?_
            refine G.trFold (τ := τ) hI (by (repeat (first | exact Picks.nil | (apply Picks.cons; (repeat (first | exact Pick.here | apply Pick.there)))))) rfl rfl rfl ?_
            refine G.add (slR_nil 35 3) ?_
            have hc : partZ τ x zx = (τ, []) := by unfold partZ; rw [if_neg h15, if_neg h23, if_neg (fun g => h6_35 g.1), if_neg (fun g => h9_64 g.1)]
            refine G.trCast (τ' := (partZ τ x zx).1) (by (repeat (first | exact Pick.here | apply Pick.there))) (by rw [hc]) ?_
            refine G.slCast (T := 35) (sz := 3) (m' := (partZ τ x zx).2.length) (xs' := (partZ τ x zx).2.flatMap evC) (by (repeat (first | exact Pick.here | apply Pick.there))) (by (rw [hc]; try rfl)) (by (rw [hc]; try rfl)) ?_
            exact G.done (l := [.tmp 6]) rfl rfl ⟨_, _, by (rw [hc]; try rfl), rfl⟩ (by (repeat (first | exact Picks.nil | (apply Picks.cons; (repeat (first | exact Pick.here | apply Pick.there)))))) (by (repeat (first | exact Suff.here | apply Suff.there)))

end Go.Proofs.YtnnbelmpbmfdnaaDoor
