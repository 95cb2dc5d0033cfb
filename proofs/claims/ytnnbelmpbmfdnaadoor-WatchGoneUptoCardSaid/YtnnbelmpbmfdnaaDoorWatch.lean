/- Own work, by program: package watch: walked. -/
import Derived.Test.YtnnbelmpbmfdnaaDoorWt
import Derived.Test.YtnnbelmpbmfdnaaDoorPaths
import Derived.Test.YtnnbelmpbmfdnaaDoorLay
namespace Go.Proofs.YtnnbelmpbmfdnaaDoor
open Go
theorem spot_eq (a b : Spot) : EqAt Tryd.prog 10000 63 (spotV a) (spotV b) (decide (a = b)) := by
  have h := EqAt.struct (d := 9999) (xs := [vint a.1, vstr a.2]) (ys := [vint b.1, vstr b.2]) Tryd.underlying63 (by kernel_rfl)
    (.cons (FEq.cell (by decide) ag_3 rfl rfl (EqAt.int Tryd.underlying3 a.1 b.1)) (.cons (FEq.cell (by decide) ag_9 rfl rfl (EqAt.str Tryd.underlying9 a.2 b.2)) .nil))
  have e : ([decide (a.1 = b.1), decide (a.2 = b.2)].all id) = decide (a = b) := by
    obtain ⟨a1, a2⟩ := a; obtain ⟨b1, b2⟩ := b
    simp [Bool.decide_and]
  rw [← e]; exact h
theorem spotK : KeyLaw Tryd.prog 63 spotV := by
  refine KeyLaw.struct Tryd.underlying63 spot_eq (fun a e w => ?_) (fun a => ?_)
  · refine check_struct (d := 9999) Tryd.underlying63 (xs := [vint a.1, vstr a.2].toArray) (fun f hf => ?_) w
    simp only [List.mem_cons, List.not_mem_nil, or_false] at hf
    rcases hf with rfl | rfl
    · exact FCk.cell (d := 9998) (by decide) ag_3 rfl Tryd.underlying3 (.inr (.inl ⟨_, rfl⟩))
    · exact FCk.cell (d := 9998) (by decide) ag_9 rfl Tryd.underlying9 (.inl rfl)
  · rw [show (10000 : Nat) = 9999 + 1 from rfl]
    simp [spotV, Instr.sameBits, bs_beq]
theorem sortI_spec (v : Value) (n : Nat) (xs : List Int) (hn : n < 4611686018427387904) : Fn Tryd.prog 23 #[v] [slR 3 1 v n (ints xs)] fun u L => u = .tuple #[] ∧ L = [slR 3 1 v n (ints (sortI xs))] :=
  sort_fn Tryd.sortA 3 v n xs hn
theorem compI_spec (v : Value) (n : Nat) (xs : List Int) (hn : n < 4611686018427387904) : Fn Tryd.prog 24 #[v] [slR 3 1 v n (ints xs)] fun u L => (∃ a c, u = .slice a (compI xs).length c) ∧ L = [slR 3 1 u (compI xs).length (ints (compI xs))] :=
  compact_fn Tryd.compactA 3 v n xs hn
set_option maxRecDepth 100000 in
theorem wnew_spec : Fn Tryd.prog 8 #[] [] fun v L => ∃ t, v = vptr t ∧ L = [tbR t []] := by
  refine Fn.intro (vs := []) Tryd.func8 rfl rfl ?_
  intro F W
  refine G.seq ?_
  refine G.region ?_
  refine G.q (Quiet.assign rfl) rfl ?_
  refine G.nil ?_
  refine G.then_n ?_
  refine G.seq ?_
  refine G.region ?_
  refine G.op (OpSpec.makeMap Tryd.underlying57) (by (repeat (first | exact Picks.nil | (apply Picks.cons; (repeat (first | exact Pick.here | apply Pick.there)))))) rfl ?nx2
  rintro v L' ⟨rb, rfl, rfl⟩
  refine G.op (OpSpec.makeMap Tryd.underlying58) (by (repeat (first | exact Picks.nil | (apply Picks.cons; (repeat (first | exact Pick.here | apply Pick.there)))))) rfl ?nx4
  rintro v L' ⟨rm, rfl, rfl⟩
  refine G.q (Quiet.build (us := [(0, _), (1, _)]) fl_60 ze_60 rfl rfl (by simp [isCell])) rfl ?_
  refine G.op (OpSpec.box rfl) (by (repeat (first | exact Picks.nil | (apply Picks.cons; (repeat (first | exact Pick.here | apply Pick.there)))))) rfl ?nx7
  rintro v L' ⟨t, rfl, rfl⟩
  refine G.q (Quiet.assign rfl) rfl ?_
  refine G.nil ?_
  refine G.then_n ?_
  refine G.ret ?_
  refine G.fold (p := mapR rb []) (.cons (p := pt rb (.map #[] 0)) (by (repeat (first | exact Pick.here | apply Pick.there))) .nil) (fun h hp => mapR_new (sep_pt hp)) ?_
  refine G.fold (p := mapR rm []) (.cons (p := pt rm (.map #[] 0)) (by (repeat (first | exact Pick.here | apply Pick.there))) .nil) (fun h hp => mapR_new (sep_pt hp)) ?_
  refine G.add (p := bigR inW []) big_nil ?_
  have hI : TbI [] [] [] := ⟨by simp, by simp, fun s => Nat.zero_le _, by simp, fun sp y h => (by cases h), fun id sp => ⟨fun h => (by cases h), fun ⟨y, h, _⟩ => (by cases h)⟩, by simp, fun s => rfl⟩
  refine G.tbFold hI (by (repeat (first | exact Picks.nil | (apply Picks.cons; (repeat (first | exact Pick.here | apply Pick.there)))))) rfl rfl rfl ?_
  exact G.done (l := [.tmp 0]) rfl rfl ⟨_, rfl, rfl⟩ (by (repeat (first | exact Picks.nil | (apply Picks.cons; (repeat (first | exact Pick.here | apply Pick.there)))))) (by (repeat (first | exact Suff.here | apply Suff.there)))

set_option maxRecDepth 100000 in
theorem wis_spec (k : Int) (p : Bs) (hs : p.length ≤ 1048576) : Fn Tryd.prog 20 #[vint k, vstr p] [] fun v L => v = .bool (decide (isWt k p)) ∧ L = [] := by
  refine Fn.intro (vs := [vint k, vstr p]) Tryd.func20 rfl rfl ?_
  intro F W
  refine G.seq ?_
  refine G.region ?_
  refine G.q (Quiet.assign rfl) rfl ?_
  refine G.nil ?_
  refine G.then_n ?_
  refine G.seq ?_
  refine G.region ?_
  refine G.q (Quiet.move rfl) rfl ?_
  refine G.q (Quiet.int rfl rfl rfl) rfl ?_
  refine G.q (Quiet.move rfl) rfl ?_
  refine G.dec (t := 7) rfl (fun h1_7 => ?_) (fun h1_7 => ?_)
  · refine G.kDT (t := 6) rfl h1_7 ?_
    refine G.grun (t := 7) rfl rfl rfl ?_
    refine G.q (Quiet.move rfl) rfl ?_
    refine G.grun (t := 7) rfl rfl rfl ?_
    refine G.q (Quiet.int rfl rfl rfl) rfl ?_
    refine G.q (Quiet.pickT rfl rfl) rfl ?_
    refine G.q (Quiet.move rfl) rfl ?_
    refine G.dec (t := 11) rfl (fun h1_11 => ?_) (fun h1_11 => ?_)
    · refine G.kDT (t := 9) rfl h1_11 ?_
      refine G.kDT (t := 10) rfl h1_11 ?_
      refine G.grun (t := 11) rfl rfl rfl ?_
      refine G.q (Quiet.move rfl) rfl ?_
      refine G.grun (t := 11) rfl rfl rfl ?_
      refine G.op (OpSpec.call Tryd.func35 rfl rfl (vs := [_]) rfl (check_spec p hs)) (by (repeat (first | exact Picks.nil | (apply Picks.cons; (repeat (first | exact Pick.here | apply Pick.there)))))) rfl ?nx7
      rintro v L' ⟨rfl, rfl⟩
      refine G.grun (t := 11) rfl rfl rfl ?_
      refine G.q (Quiet.int rfl rfl rfl) rfl ?_
      refine G.q (Quiet.pickT rfl rfl) rfl ?_
      refine G.q (Quiet.assign rfl) rfl ?_
      refine G.nil ?_
      refine G.then_n ?_
      refine G.ret ?_
      exact G.done (l := [.tmp 4]) rfl rfl ⟨congrArg Value.bool (decide_eq_decide.2 (by unfold isWt; omega)), rfl⟩ (by (repeat (first | exact Picks.nil | (apply Picks.cons; (repeat (first | exact Pick.here | apply Pick.there)))))) (by (repeat (first | exact Suff.here | apply Suff.there)))
    · refine G.kDF (t := 9) rfl h1_11 ?_
      refine G.kDF (t := 10) rfl h1_11 ?_
      refine G.gskip (t := 11) rfl rfl rfl rfl ?_
      refine G.gskip (t := 11) rfl rfl rfl rfl ?_
      refine G.gskip (t := 11) rfl rfl rfl rfl ?_
      refine G.q (Quiet.pickF rfl rfl) rfl ?_
      refine G.q (Quiet.assign rfl) rfl ?_
      refine G.nil ?_
      refine G.then_n ?_
      refine G.ret ?_
      exact G.done (l := [.tmp 4]) rfl rfl ⟨by rw [decide_eq_false (by unfold isWt; omega)], rfl⟩ (by (repeat (first | exact Picks.nil | (apply Picks.cons; (repeat (first | exact Pick.here | apply Pick.there)))))) (by (repeat (first | exact Suff.here | apply Suff.there)))
  · refine G.kDF (t := 6) rfl h1_7 ?_
    refine G.gskip (t := 7) rfl rfl rfl rfl ?_
    refine G.gskip (t := 7) rfl rfl rfl rfl ?_
    refine G.q (Quiet.pickF rfl rfl) rfl ?_
    refine G.q (Quiet.move rfl) rfl ?_
    refine G.gskip (t := 11) rfl rfl rfl rfl ?_
    refine G.gskip (t := 11) rfl rfl rfl rfl ?_
    refine G.gskip (t := 11) rfl rfl rfl rfl ?_
    refine G.q (Quiet.pickF rfl rfl) rfl ?_
    refine G.q (Quiet.assign rfl) rfl ?_
    refine G.nil ?_
    refine G.then_n ?_
    refine G.ret ?_
    exact G.done (l := [.tmp 4]) rfl rfl ⟨by rw [decide_eq_false (by unfold isWt; omega)], rfl⟩ (by (repeat (first | exact Picks.nil | (apply Picks.cons; (repeat (first | exact Pick.here | apply Pick.there)))))) (by (repeat (first | exact Suff.here | apply Suff.there)))

set_option maxRecDepth 100000 in
theorem wkinds_spec (k : Int) : Fn Tryd.prog 21 #[vint k] [] fun v L => (∃ a c, v = .slice a (kindsZ k).length c) ∧ L = [slR 3 1 v (kindsZ k).length (ints (kindsZ k))] := by
  refine Fn.intro (vs := [vint k]) Tryd.func21 rfl rfl ?_
  intro F W
  refine G.seq ?_
  refine G.region ?_
  refine G.q (Quiet.assign rfl) rfl ?_
  refine G.nil ?_
  refine G.then_n ?_
  refine G.seq ?_
  refine G.seq ?_
  refine G.region ?_
  refine G.q (Quiet.move rfl) rfl ?_
  refine G.nil ?_
  refine G.then_n ?_
  refine G.block ?_
  refine G.seq ?_
  refine G.region ?_
  refine G.q (Quiet.int rfl rfl rfl) rfl ?_
  refine G.q (Quiet.assign rfl) rfl ?_
  refine G.nil ?_
  refine G.then_n ?_
  refine G.condD rfl (fun h4 => ?_) (fun h4 => ?_)
  · refine G.seq ?_
    refine G.region ?_
    refine G.op (OpSpec.buildSlice1 (vs := [_]) el_64 ze_3 rfl rfl rfl rfl rfl (by decide)) (by (repeat (first | exact Picks.nil | (apply Picks.cons; (repeat (first | exact Pick.here | apply Pick.there)))))) rfl ?nx4
    rintro v L' ⟨bk, rfl, rfl⟩
    refine G.q (Quiet.assign rfl) rfl ?_
    refine G.nil ?_
    refine G.slMake (b := bk) (n := 1) (c := 1) (xs := ints [2]) (by (repeat (first | exact Pick.here | apply Pick.there))) (Nat.le_refl _) (by decide) rfl ?_
    refine G.then_n ?_
    refine G.ret ?_
    refine G.blk_r ?_
    refine G.then_r ?_
    have e : kindsZ k = [2] := by unfold kindsZ; rw [if_pos h4]
    rw [e]
    exact G.done (l := [.tmp 2]) rfl rfl ⟨⟨_, _, rfl⟩, rfl⟩ (by (repeat (first | exact Picks.nil | (apply Picks.cons; (repeat (first | exact Pick.here | apply Pick.there)))))) (by (repeat (first | exact Suff.here | apply Suff.there)))
  · refine G.seq ?_
    refine G.region ?_
    refine G.q (Quiet.int rfl rfl rfl) rfl ?_
    refine G.q (Quiet.assign rfl) rfl ?_
    refine G.nil ?_
    refine G.then_n ?_
    refine G.condD rfl (fun h7 => ?_) (fun h7 => ?_)
    · refine G.seq ?_
      refine G.region ?_
      refine G.op (OpSpec.buildSlice1 (vs := [_, _, _]) el_64 ze_3 rfl rfl rfl rfl rfl (by decide)) (by (repeat (first | exact Picks.nil | (apply Picks.cons; (repeat (first | exact Pick.here | apply Pick.there)))))) rfl ?nx7
      rintro v L' ⟨bk, rfl, rfl⟩
      refine G.q (Quiet.assign rfl) rfl ?_
      refine G.nil ?_
      refine G.slMake (b := bk) (n := 3) (c := 3) (xs := ints [1, 2, 3]) (by (repeat (first | exact Pick.here | apply Pick.there))) (Nat.le_refl _) (by decide) rfl ?_
      refine G.then_n ?_
      refine G.ret ?_
      refine G.blk_r ?_
      refine G.then_r ?_
      have e : kindsZ k = [1, 2, 3] := by unfold kindsZ; rw [if_neg h4, if_pos h7]
      rw [e]
      exact G.done (l := [.tmp 2]) rfl rfl ⟨⟨_, _, rfl⟩, rfl⟩ (by (repeat (first | exact Picks.nil | (apply Picks.cons; (repeat (first | exact Pick.here | apply Pick.there)))))) (by (repeat (first | exact Suff.here | apply Suff.there)))
    · refine G.seq ?_
      refine G.region ?_
      refine G.q (Quiet.int rfl rfl rfl) rfl ?_
      refine G.q (Quiet.assign rfl) rfl ?_
      refine G.nil ?_
      refine G.then_n ?_
      refine G.condD rfl (fun h10 => ?_) (fun h10 => ?_)
      · refine G.seq ?_
        refine G.region ?_
        refine G.op (OpSpec.buildSlice1 (vs := [_, _]) el_64 ze_3 rfl rfl rfl rfl rfl (by decide)) (by (repeat (first | exact Picks.nil | (apply Picks.cons; (repeat (first | exact Pick.here | apply Pick.there)))))) rfl ?nx10
        rintro v L' ⟨bk, rfl, rfl⟩
        refine G.q (Quiet.assign rfl) rfl ?_
        refine G.nil ?_
        refine G.slMake (b := bk) (n := 2) (c := 2) (xs := ints [1, 2]) (by (repeat (first | exact Pick.here | apply Pick.there))) (Nat.le_refl _) (by decide) rfl ?_
        refine G.then_n ?_
        refine G.ret ?_
        refine G.blk_r ?_
        refine G.then_r ?_
        have e : kindsZ k = [1, 2] := by unfold kindsZ; rw [if_neg h4, if_neg h7, if_pos h10]
        rw [e]
        exact G.done (l := [.tmp 2]) rfl rfl ⟨⟨_, _, rfl⟩, rfl⟩ (by (repeat (first | exact Picks.nil | (apply Picks.cons; (repeat (first | exact Pick.here | apply Pick.there)))))) (by (repeat (first | exact Suff.here | apply Suff.there)))
      · refine G.seq ?_
        refine G.region ?_
        refine G.q (Quiet.int rfl rfl rfl) rfl ?_
        refine G.q (Quiet.assign rfl) rfl ?_
        refine G.nil ?_
        refine G.then_n ?_
        refine G.condD rfl (fun h13 => ?_) (fun h13 => ?_)
        · refine G.seq ?_
          refine G.region ?_
          refine G.op (OpSpec.buildSlice1 (vs := [_]) el_64 ze_3 rfl rfl rfl rfl rfl (by decide)) (by (repeat (first | exact Picks.nil | (apply Picks.cons; (repeat (first | exact Pick.here | apply Pick.there)))))) rfl ?nx13
          rintro v L' ⟨bk, rfl, rfl⟩
          refine G.q (Quiet.assign rfl) rfl ?_
          refine G.nil ?_
          refine G.slMake (b := bk) (n := 1) (c := 1) (xs := ints [3]) (by (repeat (first | exact Pick.here | apply Pick.there))) (Nat.le_refl _) (by decide) rfl ?_
          refine G.then_n ?_
          refine G.ret ?_
          refine G.blk_r ?_
          refine G.then_r ?_
          have e : kindsZ k = [3] := by unfold kindsZ; rw [if_neg h4, if_neg h7, if_neg h10, if_pos h13]
          rw [e]
          exact G.done (l := [.tmp 2]) rfl rfl ⟨⟨_, _, rfl⟩, rfl⟩ (by (repeat (first | exact Picks.nil | (apply Picks.cons; (repeat (first | exact Pick.here | apply Pick.there)))))) (by (repeat (first | exact Suff.here | apply Suff.there)))
        · refine G.skip ?_
          refine G.blk_n ?_
          refine G.then_n ?_
          refine G.seq ?_
          refine G.add (slR_nil 3 1) ?_
          refine G.region ?_
          refine G.q (Quiet.assign rfl) rfl ?_
          refine G.nil ?_
          refine G.then_n ?_
          refine G.ret ?_
          have e : kindsZ k = [] := by unfold kindsZ; rw [if_neg h4, if_neg h7, if_neg h10, if_neg h13]
          rw [e]
          exact G.done (l := [.tmp 2]) rfl rfl ⟨⟨_, _, rfl⟩, rfl⟩ (by (repeat (first | exact Picks.nil | (apply Picks.cons; (repeat (first | exact Pick.here | apply Pick.there)))))) (by (repeat (first | exact Suff.here | apply Suff.there)))

set_option maxRecDepth 100000 in
theorem wcount_spec (t : Nat) (ω : List Wt) (s : Int) : Fn Tryd.prog 10 #[vptr t, vint s] [tbR t ω] fun v L => v = vint (cntW ω s : Nat) ∧ L = [tbR t ω] := by
  refine Fn.intro (vs := [vptr t, vint s]) Tryd.func10 rfl rfl ?_
  intro F W
  refine G.tbOpen (ω := ω) (by (repeat (first | exact Pick.here | apply Pick.there))) fun rb rm m q hI => ?_
  refine G.seq ?_
  refine G.region ?_
  refine G.q (Quiet.assign rfl) rfl ?_
  refine G.nil ?_
  refine G.then_n ?_
  refine G.seq ?_
  refine G.region ?_
  refine G.q (Quiet.move rfl) rfl ?_
  refine G.q (Quiet.nilp rfl) rfl ?_
  refine G.q (Quiet.fieldAddr rfl fo_60_1) rfl ?_
  refine G.q (Quiet.load rfl ag_58 (by (repeat (first | exact Pick.here | apply Pick.there))) (rfl)) rfl ?_
  refine G.q (Quiet.move rfl) rfl ?_
  refine G.q (Quiet.lookupV (m := q) (enc := idV) (KeyLaw.int Tryd.underlying3) (v := vint (cntW ω s : Nat)) (many_some hI s) (many_none hI s) rfl rfl Tryd.underlying58 ze_3 (by (repeat (first | exact Pick.here | apply Pick.there))) rfl) rfl ?_
  refine G.q (Quiet.assign rfl) rfl ?_
  refine G.nil ?_
  refine G.then_n ?_
  refine G.ret ?_
  refine G.tbFold hI (by (repeat (first | exact Picks.nil | (apply Picks.cons; (repeat (first | exact Pick.here | apply Pick.there)))))) rfl rfl rfl ?_
  exact G.done (l := [.tmp 4]) rfl rfl ⟨rfl, rfl⟩ (by (repeat (first | exact Picks.nil | (apply Picks.cons; (repeat (first | exact Pick.here | apply Pick.there)))))) (by (repeat (first | exact Suff.here | apply Suff.there)))

set_option maxRecDepth 100000 in
theorem wadd_spec (t : Nat) (ω : List Wt) (s k : Int) (p : Bs) (hsm : s ≤ 9223372036854775807) (hs : p.length ≤ 1048576) : Fn Tryd.prog 9 #[vptr t, vint s, vint k, vstr p] [tbR t ω] fun v L => v = vint (addW ω s k p).2 ∧ L = [tbR t (addW ω s k p).1] := by
  refine Fn.intro (vs := [vptr t, vint s, vint k, vstr p]) Tryd.func9 rfl rfl ?_
  intro F W
  refine G.tbOpen (ω := ω) (by (repeat (first | exact Pick.here | apply Pick.there))) fun rb rm m q hI => ?_
  refine G.seq ?_
  refine G.region ?_
  refine G.q (Quiet.assign rfl) rfl ?_
  refine G.nil ?_
  refine G.then_n ?_
  refine G.seq ?_
  refine G.seq ?_
  refine G.region ?_
  refine G.q (Quiet.move rfl) rfl ?_
  refine G.q (Quiet.int rfl rfl rfl) rfl ?_
  refine G.q (Quiet.move rfl) rfl ?_
  refine G.dec (t := 12) rfl (fun h1_12 => ?_) (fun h1_12 => ?_)
  · refine G.kDT (t := 11) rfl h1_12 ?_
    refine G.gskip (t := 12) rfl rfl rfl rfl ?_
    refine G.gskip (t := 12) rfl rfl rfl rfl ?_
    refine G.gskip (t := 12) rfl rfl rfl rfl ?_
    refine G.gskip (t := 12) rfl rfl rfl rfl ?_
    refine G.q (Quiet.pickT rfl rfl) rfl ?_
    refine G.nil ?_
    refine G.then_n ?_
    refine G.condT rfl ?_
    refine G.seq ?_
    refine G.region ?_
    refine G.q (Quiet.assign rfl) rfl ?_
    refine G.nil ?_
    refine G.then_n ?_
    refine G.ret ?_
    refine G.then_r ?_
    have e : addW ω s k p = (ω, 1) := by unfold addW; rw [if_pos (by first | exact .inl h1_12 | exact .inr (by simpa using h17))]
    rw [e]
    refine G.tbFold hI (by (repeat (first | exact Picks.nil | (apply Picks.cons; (repeat (first | exact Pick.here | apply Pick.there)))))) rfl rfl rfl ?_
    exact G.done (l := [.tmp 8]) rfl rfl ⟨rfl, rfl⟩ (by (repeat (first | exact Picks.nil | (apply Picks.cons; (repeat (first | exact Pick.here | apply Pick.there)))))) (by (repeat (first | exact Suff.here | apply Suff.there)))
  · refine G.kDF (t := 11) rfl h1_12 ?_
    refine G.grun (t := 12) rfl rfl rfl ?_
    refine G.q (Quiet.move rfl) rfl ?_
    refine G.grun (t := 12) rfl rfl rfl ?_
    refine G.q (Quiet.move rfl) rfl ?_
    refine G.grun (t := 12) rfl rfl rfl ?_
    refine G.op (OpSpec.call Tryd.func20 rfl rfl (vs := [_, _]) rfl (wis_spec k p hs)) (by (repeat (first | exact Picks.nil | (apply Picks.cons; (repeat (first | exact Pick.here | apply Pick.there)))))) rfl ?nx8
    rintro v L' ⟨rfl, rfl⟩
    refine G.grun (t := 12) rfl rfl rfl ?_
    refine G.q (Quiet.not rfl) rfl ?_
    refine G.q (Quiet.pickF rfl rfl) rfl ?_
    refine G.nil ?_
    refine G.then_n ?_
    refine G.condN rfl (fun h17 => ?_) (fun h17 => ?_)
    · refine G.seq ?_
      refine G.region ?_
      refine G.q (Quiet.assign rfl) rfl ?_
      refine G.nil ?_
      refine G.then_n ?_
      refine G.ret ?_
      refine G.then_r ?_
      have e : addW ω s k p = (ω, 1) := by unfold addW; rw [if_pos (by first | exact .inl h1_12 | exact .inr (by simpa using h17))]
      rw [e]
      refine G.tbFold hI (by (repeat (first | exact Picks.nil | (apply Picks.cons; (repeat (first | exact Pick.here | apply Pick.there)))))) rfl rfl rfl ?_
      exact G.done (l := [.tmp 8]) rfl rfl ⟨rfl, rfl⟩ (by (repeat (first | exact Picks.nil | (apply Picks.cons; (repeat (first | exact Pick.here | apply Pick.there)))))) (by (repeat (first | exact Suff.here | apply Suff.there)))
    · refine G.skip ?_
      refine G.then_n ?_
      refine G.seq ?_
      refine G.region ?_
      rcases hal : alook m (k, p) with _ | ⟨pb, l⟩; rotate_left; rcases hin : alook l s with _ | z; rotate_right
      · have hnot : ¬ (s < 1 ∨ ¬ isWt k p) := by rintro (h | h); omega; exact h (by simpa using h17)
        have hmem : (s, (k, p)) ∉ ω := fun g => by obtain ⟨y, hy, -⟩ := (hI.mem _ _).1 g; rw [hal] at hy; cases hy
        refine G.q (Quiet.move rfl) rfl ?_
        refine G.q (Quiet.move rfl) rfl ?_
        refine G.q (Quiet.build (us := [(0, _), (1, _)]) fl_63 ze_63 rfl rfl (by simp [isCell])) rfl ?_
        refine G.op (OpSpec.allocA ze_63) (by (repeat (first | exact Picks.nil | (apply Picks.cons; (repeat (first | exact Pick.here | apply Pick.there)))))) rfl ?nx15
        rintro v L' ⟨bsp, rfl, rfl⟩
        refine G.op (OpSpec.storeA rfl rfl ?c17 sz_63 ?c20 ?c18 ?c19) (by (repeat (first | exact Picks.nil | (apply Picks.cons; (repeat (first | exact Pick.here | apply Pick.there)))))) rfl ?nx21
        case c17 => (first | (simp [isCell]; done) | (simp [isCell, setAll, Value.cells]; done))
        case c20 => (first | (simp; done) | (simp [setAll, spl, Value.cells]; done))
        case c18 => (first | (simp; done) | (simp [setAll, spl, Value.cells]; done))
        case c19 => exact nfz0 _ _
        rintro v L' rfl
        refine G.nil ?_
        refine G.ptCast (b := bsp) (l' := [vint k, vstr p]) (by (repeat (first | exact Pick.here | apply Pick.there))) rfl ?_
        refine G.then_n ?_
        refine G.seq ?_
        refine G.seq ?_
        refine G.draw [] [[0, 1, 2, 3, 4, 5, 6, 7, 8]] mixed (by kernel_rfl) ?_
        refine Phases.go [] (by (repeat (first | exact Picks.nil | (apply Picks.cons; (repeat (first | exact Pick.here | apply Pick.there)))))) ?_
        refine D.qw [1, 2, 3, 5, 7, 8] rfl (by kernel_rfl) (Quiet.move rfl) ?_
        refine D.qw [2, 3, 5, 7, 8] rfl (by kernel_rfl) (Quiet.nilp rfl) ?_
        refine D.qw [3, 5, 7, 8] rfl (by kernel_rfl) (Quiet.fieldAddr rfl fo_60_0) ?_
        refine D.qw [5, 7, 8] rfl (by kernel_rfl) (Quiet.load rfl ag_57 (by (repeat (first | exact Pick.here | apply Pick.there))) (rfl)) ?_
        refine D.qw [5, 7, 8] rfl (by kernel_rfl) (Quiet.loadAs (vs := [vint k, vstr p]) rfl ag_63 (by (repeat (first | exact Pick.here | apply Pick.there))) (by simp) rfl) ?_
        refine D.qw [7, 8] rfl (by kernel_rfl) (Quiet.lookupN (m := m) (enc := byV) spotK (hal) rfl rfl Tryd.underlying57 ze_58 (by (repeat (first | exact Pick.here | apply Pick.there))) rfl) ?_
        refine D.qw [7, 8] rfl (by kernel_rfl) (Quiet.move rfl) ?_
        refine D.qw [8] rfl (by kernel_rfl) (Quiet.lookupNil (KeyLaw.int Tryd.underlying3) rfl rfl Tryd.underlying58 ze_3) ?_
        refine D.qw [] rfl (by kernel_rfl) (Quiet.as (v' := .bool false) (by rfl) (Quiet.int rfl rfl rfl)) ?_
        refine D.ph ?_
        refine Phases.fin ?_
        refine G.then_n ?_
        refine G.condF rfl ?_
        refine G.skip ?_
        refine G.then_n ?_
        refine G.seq ?_
        refine G.seq ?_
        have hkw : isWt k p := Decidable.byContradiction fun e => hnot (.inr e)
        refine G.region ?_
        refine G.q (Quiet.move rfl) rfl ?_
        refine G.q (Quiet.nilp rfl) rfl ?_
        refine G.q (Quiet.fieldAddr rfl fo_60_1) rfl ?_
        refine G.q (Quiet.load rfl ag_58 (by (repeat (first | exact Pick.here | apply Pick.there))) (rfl)) rfl ?_
        refine G.q (Quiet.move rfl) rfl ?_
        refine G.q (Quiet.lookupV (m := q) (enc := idV) (KeyLaw.int Tryd.underlying3) (v := vint (cntW ω s : Nat)) (many_some hI s) (many_none hI s) rfl rfl Tryd.underlying58 ze_3 (by (repeat (first | exact Pick.here | apply Pick.there))) rfl) rfl ?_
        refine G.q (Quiet.int rfl rfl rfl) rfl ?_
        refine G.nil ?_
        refine G.then_n ?_
        refine G.condD rfl (fun h36 => ?_) (fun h36 => ?_)
        · refine G.seq ?_
          refine G.region ?_
          refine G.q (Quiet.assign rfl) rfl ?_
          refine G.nil ?_
          refine G.then_n ?_
          refine G.ret ?_
          refine G.then_r ?_
          have e : addW ω s k p = (ω, 91) := by unfold addW; rw [if_neg hnot, if_neg hmem, if_pos (by omega)]
          rw [e]
          refine G.tbFold hI (by (repeat (first | exact Picks.nil | (apply Picks.cons; (repeat (first | exact Pick.here | apply Pick.there)))))) rfl rfl rfl ?_
          exact G.done (l := [.tmp 8]) rfl rfl ⟨rfl, rfl⟩ (by (repeat (first | exact Picks.nil | (apply Picks.cons; (repeat (first | exact Pick.here | apply Pick.there)))))) (by (repeat (first | exact Suff.here | apply Suff.there)))
        · refine G.skip ?_
          refine G.then_n ?_
          refine G.seq ?_
          refine G.seq ?_
          refine G.draw [] [[0, 1, 2, 3, 4, 5, 6]] mixed (by kernel_rfl) ?_
          refine Phases.go [] (by (repeat (first | exact Picks.nil | (apply Picks.cons; (repeat (first | exact Pick.here | apply Pick.there)))))) ?_
          refine D.qw [1, 2, 3, 5, 6] rfl (by kernel_rfl) (Quiet.move rfl) ?_
          refine D.qw [2, 3, 5, 6] rfl (by kernel_rfl) (Quiet.nilp rfl) ?_
          refine D.qw [3, 5, 6] rfl (by kernel_rfl) (Quiet.fieldAddr rfl fo_60_0) ?_
          refine D.qw [5, 6] rfl (by kernel_rfl) (Quiet.load rfl ag_57 (by (repeat (first | exact Pick.here | apply Pick.there))) (rfl)) ?_
          refine D.qw [5, 6] rfl (by kernel_rfl) (Quiet.loadAs (vs := [vint k, vstr p]) rfl ag_63 (by (repeat (first | exact Pick.here | apply Pick.there))) (by simp) rfl) ?_
          refine D.qw [6] rfl (by kernel_rfl) (Quiet.lookupN (m := m) (enc := byV) spotK (hal) rfl rfl Tryd.underlying57 ze_58 (by (repeat (first | exact Pick.here | apply Pick.there))) rfl) ?_
          refine D.qw [] rfl (by kernel_rfl) (Quiet.mapeq rfl rfl Tryd.underlying58) ?_
          refine D.ph ?_
          refine Phases.fin ?_
          refine G.then_n ?_
          refine G.condT rfl ?_
          refine G.draw [5, 6] [[0, 1, 2, 3, 4, 5], [6]] mixed (by kernel_rfl) ?_
          refine Phases.go [ptc bsp _ _, ptc t _ _] (by (repeat (first | exact Picks.nil | (apply Picks.cons; (repeat (first | exact Pick.here | apply Pick.there)))))) ?_
          refine D.q rfl (by kernel_rfl) (Quiet.move rfl) ?_
          refine D.q rfl (by kernel_rfl) (Quiet.nilp rfl) ?_
          refine D.q rfl (by kernel_rfl) (Quiet.fieldAddr rfl fo_60_0) ?_
          refine D.q rfl (by kernel_rfl) (Quiet.load rfl ag_57 (by (repeat (first | exact Pick.here | apply Pick.there))) (rfl)) ?_
          refine D.q rfl (by kernel_rfl) (Quiet.loadAs (vs := [vint k, vstr p]) rfl ag_63 (by (repeat (first | exact Pick.here | apply Pick.there))) (by simp) rfl) ?_
          refine D.h rfl (by kernel_rfl) (OpSpec.makeMap Tryd.underlying58) (by (repeat (first | exact Picks.nil | (apply Picks.cons; (repeat (first | exact Pick.here | apply Pick.there)))))) ?nx51
          rintro v L' ⟨pb, rfl, rfl⟩
          refine D.ph ?_
          refine Phases.go [] (by (repeat (first | exact Picks.nil | (apply Picks.cons; (repeat (first | exact Pick.here | apply Pick.there)))))) ?_
          refine D.h rfl (by kernel_rfl) (OpSpec.mapSet (m := m) (enc := byV) (v := (pb, [])) (k := (k, p)) spotK rfl rfl rfl Tryd.underlying57 ?he53) (by (repeat (first | exact Picks.nil | (apply Picks.cons; (repeat (first | exact Pick.here | apply Pick.there)))))) ?nx54
          case he53 => rfl
          rintro v L' rfl
          refine D.ph ?_
          refine Phases.fin ?_
          refine G.fold (p := mapR pb []) (.cons (p := pt pb (.map #[] 0)) (by (repeat (first | exact Pick.here | apply Pick.there))) .nil) (fun h hp => mapR_new (sep_pt hp)) ?_
          refine G.then_n ?_
          refine G.seq ?_
          refine G.draw [8] [[0, 1, 2, 3, 4, 5, 6, 7, 8]] mixed (by kernel_rfl) ?_
          refine Phases.go [] (by (repeat (first | exact Picks.nil | (apply Picks.cons; (repeat (first | exact Pick.here | apply Pick.there)))))) ?_
          refine D.qw [1, 2, 3, 5, 8] rfl (by kernel_rfl) (Quiet.move rfl) ?_
          refine D.qw [2, 3, 5, 8] rfl (by kernel_rfl) (Quiet.nilp rfl) ?_
          refine D.qw [3, 5, 8] rfl (by kernel_rfl) (Quiet.fieldAddr rfl fo_60_0) ?_
          refine D.qw [5, 8] rfl (by kernel_rfl) (Quiet.load rfl ag_57 (by (repeat (first | exact Pick.here | apply Pick.there))) (rfl)) ?_
          refine D.qw [5, 8] rfl (by kernel_rfl) (Quiet.loadAs (vs := [vint k, vstr p]) rfl ag_63 (by (repeat (first | exact Pick.here | apply Pick.there))) (by simp) rfl) ?_
          refine D.qw [8] rfl (by kernel_rfl) (Quiet.lookupY (m := aset m (k, p) (pb, [])) (enc := byV) spotK (by rw [al_aset, if_pos rfl]) rfl rfl Tryd.underlying57 ze_58 (by (repeat (first | exact Pick.here | apply Pick.there))) rfl) ?_
          refine D.qw [8] rfl (by kernel_rfl) (Quiet.move rfl) ?_
          refine D.qw [8] rfl (by kernel_rfl) (Quiet.move rfl) ?_
          refine D.h rfl (by kernel_rfl) (OpSpec.mapSet (m := []) (enc := idV) (v := s) (k := s) (KeyLaw.int Tryd.underlying3) rfl rfl rfl Tryd.underlying58 ?he63) (by (repeat (first | exact Picks.nil | (apply Picks.cons; (repeat (first | exact Pick.here | apply Pick.there)))))) ?nx64
          case he63 => rfl
          rintro v L' rfl
          refine D.ph ?_
          refine Phases.fin ?_
          refine G.then_n ?_
          refine G.seq ?_
          have hfew := hI.few s
          refine G.region ?_
          refine G.q (Quiet.move rfl) rfl ?_
          refine G.q (Quiet.nilp rfl) rfl ?_
          refine G.q (Quiet.fieldAddr rfl fo_60_1) rfl ?_
          refine G.q (Quiet.load rfl ag_58 (by (repeat (first | exact Pick.here | apply Pick.there))) (rfl)) rfl ?_
          refine G.q (Quiet.move rfl) rfl ?_
          refine G.q (Quiet.lookupV (m := q) (enc := idV) (KeyLaw.int Tryd.underlying3) (v := vint (cntW ω s : Nat)) (many_some hI s) (many_none hI s) rfl rfl Tryd.underlying58 ze_3 (by (repeat (first | exact Pick.here | apply Pick.there))) rfl) rfl ?_
          refine G.q (Quiet.add rfl rfl (by omega)) rfl ?_
          refine G.op (OpSpec.mapSet (m := q) (enc := idV) (v := ((cntW ω s : Nat) : Int) + 1) (k := s) (KeyLaw.int Tryd.underlying3) rfl rfl rfl Tryd.underlying58 ?he72) (by (repeat (first | exact Picks.nil | (apply Picks.cons; (repeat (first | exact Pick.here | apply Pick.there)))))) rfl ?nx73
          case he72 => rfl
          rintro v L' rfl
          refine G.nil ?_
          refine G.then_n ?_
          refine G.seq ?_
          refine G.region ?_
          refine G.q (Quiet.assign rfl) rfl ?_
          refine G.nil ?_
          refine G.then_n ?_
          refine G.ret ?_
          have e : addW ω s k p = (ω ++ [(s, (k, p))], 0) := by unfold addW; rw [if_neg hnot, if_neg hmem, if_neg (by omega)]
          rw [e]
          have hI2 := hI.ins (y := (pb, [])) hmem ⟨by omega, hsm⟩ ⟨hkw.1, hkw.2.1⟩ (by omega) (.inl ⟨hal, rfl⟩) rfl rfl
          refine G.bigPut (f := inW) (m := m) (k, p) (pb, aset [] s s) rfl (by rw [adel_none hal]; (repeat (first | exact Picks.nil | (apply Picks.cons; (repeat (first | exact Pick.here | apply Pick.there)))))) ?_
          refine G.tbFold hI2 (by (repeat (first | exact Picks.nil | (apply Picks.cons; (repeat (first | exact Pick.here | apply Pick.there)))))) rfl (by show byM (aset m (k, p) (pb, [])) = byM (aset m (k, p) (pb, aset [] s s)); rw [← aset_aset (v := (pb, [])) (w := (pb, aset [] s s))]; exact (byM_set (y := (pb, [])) (y' := (pb, aset [] s s)) (by rw [al_aset, if_pos rfl]) rfl).symm) rfl ?_
          exact G.done (l := [.tmp 8]) rfl rfl ⟨rfl, rfl⟩ (by (repeat (first | exact Picks.nil | (apply Picks.cons; (repeat (first | exact Pick.here | apply Pick.there)))))) (by (repeat (first | exact Suff.here | apply Suff.there)))
      · have hnot : ¬ (s < 1 ∨ ¬ isWt k p) := by rintro (h | h); omega; exact h (by simpa using h17)
        have hmem : (s, (k, p)) ∉ ω := fun g => by obtain ⟨y, hy, hm⟩ := (hI.mem _ _).1 g; rw [hal] at hy; cases hy; exact al_none.1 hin hm
        refine G.bigTake hal (by (repeat (first | exact Pick.here | apply Pick.there))) ?_
        refine G.q (Quiet.move rfl) rfl ?_
        refine G.q (Quiet.move rfl) rfl ?_
        refine G.q (Quiet.build (us := [(0, _), (1, _)]) fl_63 ze_63 rfl rfl (by simp [isCell])) rfl ?_
        refine G.op (OpSpec.allocA ze_63) (by (repeat (first | exact Picks.nil | (apply Picks.cons; (repeat (first | exact Pick.here | apply Pick.there)))))) rfl ?nx78
        rintro v L' ⟨bsp, rfl, rfl⟩
        refine G.op (OpSpec.storeA rfl rfl ?c80 sz_63 ?c83 ?c81 ?c82) (by (repeat (first | exact Picks.nil | (apply Picks.cons; (repeat (first | exact Pick.here | apply Pick.there)))))) rfl ?nx84
        case c80 => (first | (simp [isCell]; done) | (simp [isCell, setAll, Value.cells]; done))
        case c83 => (first | (simp; done) | (simp [setAll, spl, Value.cells]; done))
        case c81 => (first | (simp; done) | (simp [setAll, spl, Value.cells]; done))
        case c82 => exact nfz0 _ _
        rintro v L' rfl
        refine G.nil ?_
        refine G.ptCast (b := bsp) (l' := [vint k, vstr p]) (by (repeat (first | exact Pick.here | apply Pick.there))) rfl ?_
        refine G.then_n ?_
        refine G.seq ?_
        refine G.seq ?_
        refine G.draw [] [[0, 1, 2, 3, 4, 5, 6, 7, 8]] mixed (by kernel_rfl) ?_
        refine Phases.go [] (by (repeat (first | exact Picks.nil | (apply Picks.cons; (repeat (first | exact Pick.here | apply Pick.there)))))) ?_
        refine D.qw [1, 2, 3, 5, 7, 8] rfl (by kernel_rfl) (Quiet.move rfl) ?_
        refine D.qw [2, 3, 5, 7, 8] rfl (by kernel_rfl) (Quiet.nilp rfl) ?_
        refine D.qw [3, 5, 7, 8] rfl (by kernel_rfl) (Quiet.fieldAddr rfl fo_60_0) ?_
        refine D.qw [5, 7, 8] rfl (by kernel_rfl) (Quiet.load rfl ag_57 (by (repeat (first | exact Pick.here | apply Pick.there))) (rfl)) ?_
        refine D.qw [5, 7, 8] rfl (by kernel_rfl) (Quiet.loadAs (vs := [vint k, vstr p]) rfl ag_63 (by (repeat (first | exact Pick.here | apply Pick.there))) (by simp) rfl) ?_
        refine D.qw [7, 8] rfl (by kernel_rfl) (Quiet.lookupY (m := m) (enc := byV) spotK (hal) rfl rfl Tryd.underlying57 ze_58 (by (repeat (first | exact Pick.here | apply Pick.there))) rfl) ?_
        refine D.qw [7, 8] rfl (by kernel_rfl) (Quiet.move rfl) ?_
        refine D.qw [8] rfl (by kernel_rfl) (Quiet.lookupN (m := l) (enc := idV) (KeyLaw.int Tryd.underlying3) (hin) rfl rfl Tryd.underlying58 ze_3 (by (repeat (first | exact Pick.here | apply Pick.there))) rfl) ?_
        refine D.qw [] rfl (by kernel_rfl) (Quiet.as (v' := .bool false) (by rfl) (Quiet.int rfl rfl rfl)) ?_
        refine D.ph ?_
        refine Phases.fin ?_
        refine G.then_n ?_
        refine G.condF rfl ?_
        refine G.skip ?_
        refine G.then_n ?_
        refine G.seq ?_
        refine G.seq ?_
        have hkw : isWt k p := Decidable.byContradiction fun e => hnot (.inr e)
        refine G.region ?_
        refine G.q (Quiet.move rfl) rfl ?_
        refine G.q (Quiet.nilp rfl) rfl ?_
        refine G.q (Quiet.fieldAddr rfl fo_60_1) rfl ?_
        refine G.q (Quiet.load rfl ag_58 (by (repeat (first | exact Pick.here | apply Pick.there))) (rfl)) rfl ?_
        refine G.q (Quiet.move rfl) rfl ?_
        refine G.q (Quiet.lookupV (m := q) (enc := idV) (KeyLaw.int Tryd.underlying3) (v := vint (cntW ω s : Nat)) (many_some hI s) (many_none hI s) rfl rfl Tryd.underlying58 ze_3 (by (repeat (first | exact Pick.here | apply Pick.there))) rfl) rfl ?_
        refine G.q (Quiet.int rfl rfl rfl) rfl ?_
        refine G.nil ?_
        refine G.then_n ?_
        refine G.condD rfl (fun h36 => ?_) (fun h36 => ?_)
        · refine G.seq ?_
          refine G.region ?_
          refine G.q (Quiet.assign rfl) rfl ?_
          refine G.nil ?_
          refine G.then_n ?_
          refine G.ret ?_
          refine G.then_r ?_
          have e : addW ω s k p = (ω, 91) := by unfold addW; rw [if_neg hnot, if_neg hmem, if_pos (by omega)]
          rw [e]
          refine G.bigPut (f := inW) (m := m) (k, p) (pb, l) rfl (by (repeat (first | exact Picks.nil | (apply Picks.cons; (repeat (first | exact Pick.here | apply Pick.there)))))) ?_
          rw [aset_self hal]
          refine G.tbFold hI (by (repeat (first | exact Picks.nil | (apply Picks.cons; (repeat (first | exact Pick.here | apply Pick.there)))))) rfl rfl rfl ?_
          exact G.done (l := [.tmp 8]) rfl rfl ⟨rfl, rfl⟩ (by (repeat (first | exact Picks.nil | (apply Picks.cons; (repeat (first | exact Pick.here | apply Pick.there)))))) (by (repeat (first | exact Suff.here | apply Suff.there)))
        · refine G.skip ?_
          refine G.then_n ?_
          refine G.seq ?_
          refine G.seq ?_
          refine G.draw [] [[0, 1, 2, 3, 4, 5, 6]] mixed (by kernel_rfl) ?_
          refine Phases.go [] (by (repeat (first | exact Picks.nil | (apply Picks.cons; (repeat (first | exact Pick.here | apply Pick.there)))))) ?_
          refine D.qw [1, 2, 3, 5, 6] rfl (by kernel_rfl) (Quiet.move rfl) ?_
          refine D.qw [2, 3, 5, 6] rfl (by kernel_rfl) (Quiet.nilp rfl) ?_
          refine D.qw [3, 5, 6] rfl (by kernel_rfl) (Quiet.fieldAddr rfl fo_60_0) ?_
          refine D.qw [5, 6] rfl (by kernel_rfl) (Quiet.load rfl ag_57 (by (repeat (first | exact Pick.here | apply Pick.there))) (rfl)) ?_
          refine D.qw [5, 6] rfl (by kernel_rfl) (Quiet.loadAs (vs := [vint k, vstr p]) rfl ag_63 (by (repeat (first | exact Pick.here | apply Pick.there))) (by simp) rfl) ?_
          refine D.qw [6] rfl (by kernel_rfl) (Quiet.lookupY (m := m) (enc := byV) spotK (hal) rfl rfl Tryd.underlying57 ze_58 (by (repeat (first | exact Pick.here | apply Pick.there))) rfl) ?_
          refine D.qw [] rfl (by kernel_rfl) (Quiet.mapeq rfl rfl Tryd.underlying58) ?_
          refine D.ph ?_
          refine Phases.fin ?_
          refine G.then_n ?_
          refine G.condF rfl ?_
          refine G.skip ?_
          refine G.then_n ?_
          refine G.seq ?_
          refine G.draw [8] [[0, 1, 2, 3, 4, 5, 6, 7, 8]] mixed (by kernel_rfl) ?_
          refine Phases.go [] (by (repeat (first | exact Picks.nil | (apply Picks.cons; (repeat (first | exact Pick.here | apply Pick.there)))))) ?_
          refine D.qw [1, 2, 3, 5, 8] rfl (by kernel_rfl) (Quiet.move rfl) ?_
          refine D.qw [2, 3, 5, 8] rfl (by kernel_rfl) (Quiet.nilp rfl) ?_
          refine D.qw [3, 5, 8] rfl (by kernel_rfl) (Quiet.fieldAddr rfl fo_60_0) ?_
          refine D.qw [5, 8] rfl (by kernel_rfl) (Quiet.load rfl ag_57 (by (repeat (first | exact Pick.here | apply Pick.there))) (rfl)) ?_
          refine D.qw [5, 8] rfl (by kernel_rfl) (Quiet.loadAs (vs := [vint k, vstr p]) rfl ag_63 (by (repeat (first | exact Pick.here | apply Pick.there))) (by simp) rfl) ?_
          refine D.qw [8] rfl (by kernel_rfl) (Quiet.lookupY (m := m) (enc := byV) spotK (hal) rfl rfl Tryd.underlying57 ze_58 (by (repeat (first | exact Pick.here | apply Pick.there))) rfl) ?_
          refine D.qw [8] rfl (by kernel_rfl) (Quiet.move rfl) ?_
          refine D.qw [8] rfl (by kernel_rfl) (Quiet.move rfl) ?_
          refine D.h rfl (by kernel_rfl) (OpSpec.mapSet (m := l) (enc := idV) (v := s) (k := s) (KeyLaw.int Tryd.underlying3) rfl rfl rfl Tryd.underlying58 ?he117) (by (repeat (first | exact Picks.nil | (apply Picks.cons; (repeat (first | exact Pick.here | apply Pick.there)))))) ?nx118
          case he117 => rfl
          rintro v L' rfl
          refine D.ph ?_
          refine Phases.fin ?_
          refine G.then_n ?_
          refine G.seq ?_
          have hfew := hI.few s
          refine G.region ?_
          refine G.q (Quiet.move rfl) rfl ?_
          refine G.q (Quiet.nilp rfl) rfl ?_
          refine G.q (Quiet.fieldAddr rfl fo_60_1) rfl ?_
          refine G.q (Quiet.load rfl ag_58 (by (repeat (first | exact Pick.here | apply Pick.there))) (rfl)) rfl ?_
          refine G.q (Quiet.move rfl) rfl ?_
          refine G.q (Quiet.lookupV (m := q) (enc := idV) (KeyLaw.int Tryd.underlying3) (v := vint (cntW ω s : Nat)) (many_some hI s) (many_none hI s) rfl rfl Tryd.underlying58 ze_3 (by (repeat (first | exact Pick.here | apply Pick.there))) rfl) rfl ?_
          refine G.q (Quiet.add rfl rfl (by omega)) rfl ?_
          refine G.op (OpSpec.mapSet (m := q) (enc := idV) (v := ((cntW ω s : Nat) : Int) + 1) (k := s) (KeyLaw.int Tryd.underlying3) rfl rfl rfl Tryd.underlying58 ?he126) (by (repeat (first | exact Picks.nil | (apply Picks.cons; (repeat (first | exact Pick.here | apply Pick.there)))))) rfl ?nx127
          case he126 => rfl
          rintro v L' rfl
          refine G.nil ?_
          refine G.then_n ?_
          refine G.seq ?_
          refine G.region ?_
          refine G.q (Quiet.assign rfl) rfl ?_
          refine G.nil ?_
          refine G.then_n ?_
          refine G.ret ?_
          have e : addW ω s k p = (ω ++ [(s, (k, p))], 0) := by unfold addW; rw [if_neg hnot, if_neg hmem, if_neg (by omega)]
          rw [e]
          have hI2 := hI.ins (y := (pb, l)) hmem ⟨by omega, hsm⟩ ⟨hkw.1, hkw.2.1⟩ (by omega) (.inr hal) rfl rfl
          refine G.bigPut (f := inW) (m := m) (k, p) (pb, aset l s s) rfl (by (repeat (first | exact Picks.nil | (apply Picks.cons; (repeat (first | exact Pick.here | apply Pick.there)))))) ?_
          refine G.tbFold hI2 (by (repeat (first | exact Picks.nil | (apply Picks.cons; (repeat (first | exact Pick.here | apply Pick.there)))))) rfl (byM_set (y' := (pb, aset l s s)) hal rfl).symm rfl ?_
          exact G.done (l := [.tmp 8]) rfl rfl ⟨rfl, rfl⟩ (by (repeat (first | exact Picks.nil | (apply Picks.cons; (repeat (first | exact Pick.here | apply Pick.there)))))) (by (repeat (first | exact Suff.here | apply Suff.there)))
      · have hnot : ¬ (s < 1 ∨ ¬ isWt k p) := by rintro (h | h); omega; exact h (by simpa using h17)
        have hmem : (s, (k, p)) ∈ ω := (hI.mem _ _).2 ⟨_, hal, al_isSome.1 (by rw [hin]; rfl)⟩
        have hzs : s = z := ((hI.inn _ _ hal).2.2 _ (al_mem hin)).symm
        subst hzs
        refine G.bigTake hal (by (repeat (first | exact Pick.here | apply Pick.there))) ?_
        refine G.q (Quiet.move rfl) rfl ?_
        refine G.q (Quiet.move rfl) rfl ?_
        refine G.q (Quiet.build (us := [(0, _), (1, _)]) fl_63 ze_63 rfl rfl (by simp [isCell])) rfl ?_
        refine G.op (OpSpec.allocA ze_63) (by (repeat (first | exact Picks.nil | (apply Picks.cons; (repeat (first | exact Pick.here | apply Pick.there)))))) rfl ?nx132
        rintro v L' ⟨bsp, rfl, rfl⟩
        refine G.op (OpSpec.storeA rfl rfl ?c134 sz_63 ?c137 ?c135 ?c136) (by (repeat (first | exact Picks.nil | (apply Picks.cons; (repeat (first | exact Pick.here | apply Pick.there)))))) rfl ?nx138
        case c134 => (first | (simp [isCell]; done) | (simp [isCell, setAll, Value.cells]; done))
        case c137 => (first | (simp; done) | (simp [setAll, spl, Value.cells]; done))
        case c135 => (first | (simp; done) | (simp [setAll, spl, Value.cells]; done))
        case c136 => exact nfz0 _ _
        rintro v L' rfl
        refine G.nil ?_
        refine G.ptCast (b := bsp) (l' := [vint k, vstr p]) (by (repeat (first | exact Pick.here | apply Pick.there))) rfl ?_
        refine G.then_n ?_
        refine G.seq ?_
        refine G.seq ?_
        refine G.draw [] [[0, 1, 2, 3, 4, 5, 6, 7, 8]] mixed (by kernel_rfl) ?_
        refine Phases.go [] (by (repeat (first | exact Picks.nil | (apply Picks.cons; (repeat (first | exact Pick.here | apply Pick.there)))))) ?_
        refine D.qw [1, 2, 3, 5, 7, 8] rfl (by kernel_rfl) (Quiet.move rfl) ?_
        refine D.qw [2, 3, 5, 7, 8] rfl (by kernel_rfl) (Quiet.nilp rfl) ?_
        refine D.qw [3, 5, 7, 8] rfl (by kernel_rfl) (Quiet.fieldAddr rfl fo_60_0) ?_
        refine D.qw [5, 7, 8] rfl (by kernel_rfl) (Quiet.load rfl ag_57 (by (repeat (first | exact Pick.here | apply Pick.there))) (rfl)) ?_
        refine D.qw [5, 7, 8] rfl (by kernel_rfl) (Quiet.loadAs (vs := [vint k, vstr p]) rfl ag_63 (by (repeat (first | exact Pick.here | apply Pick.there))) (by simp) rfl) ?_
        refine D.qw [7, 8] rfl (by kernel_rfl) (Quiet.lookupY (m := m) (enc := byV) spotK (hal) rfl rfl Tryd.underlying57 ze_58 (by (repeat (first | exact Pick.here | apply Pick.there))) rfl) ?_
        refine D.qw [7, 8] rfl (by kernel_rfl) (Quiet.move rfl) ?_
        refine D.qw [8] rfl (by kernel_rfl) (Quiet.lookupY (m := l) (enc := idV) (KeyLaw.int Tryd.underlying3) (hin) rfl rfl Tryd.underlying58 ze_3 (by (repeat (first | exact Pick.here | apply Pick.there))) rfl) ?_
        refine D.qw [] rfl (by kernel_rfl) (Quiet.as (v' := .bool true) (by simp; omega) (Quiet.int rfl rfl rfl)) ?_
        refine D.ph ?_
        refine Phases.fin ?_
        refine G.then_n ?_
        refine G.condT rfl ?_
        refine G.seq ?_
        refine G.region ?_
        refine G.q (Quiet.assign rfl) rfl ?_
        refine G.nil ?_
        refine G.then_n ?_
        refine G.ret ?_
        refine G.then_r ?_
        have e : addW ω s k p = (ω, 0) := by unfold addW; rw [if_neg hnot, if_pos hmem]
        rw [e]
        refine G.bigPut (f := inW) (m := m) (k, p) (pb, l) rfl (by (repeat (first | exact Picks.nil | (apply Picks.cons; (repeat (first | exact Pick.here | apply Pick.there)))))) ?_
        rw [aset_self hal]
        refine G.tbFold hI (by (repeat (first | exact Picks.nil | (apply Picks.cons; (repeat (first | exact Pick.here | apply Pick.there)))))) rfl rfl rfl ?_
        exact G.done (l := [.tmp 8]) rfl rfl ⟨rfl, rfl⟩ (by (repeat (first | exact Picks.nil | (apply Picks.cons; (repeat (first | exact Pick.here | apply Pick.there)))))) (by (repeat (first | exact Suff.here | apply Suff.there)))

end Go.Proofs.YtnnbelmpbmfdnaaDoor
