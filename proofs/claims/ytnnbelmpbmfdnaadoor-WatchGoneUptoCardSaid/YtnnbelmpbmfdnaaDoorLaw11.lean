/- Own work, by program: law 11: Told, awake, WatchGone, WatchApart, WatchOnce: walked. -/
import Derived.Test.YtnnbelmpbmfdnaaDoorL11B
namespace Go.Proofs.YtnnbelmpbmfdnaaDoor
open Go
set_option maxRecDepth 100000 in
theorem told_spec (xs ys : List Tld) (va vb : Value) (h1 : xs.length ≤ 4611686018427387904) : Fn Tryd.prog 13 #[va, vb] [slR 37 4 va xs.length (xs.flatMap tldC), slR 37 4 vb ys.length (ys.flatMap tldC)] fun v L => v = .bool (decide (xs = ys)) ∧ L = [slR 37 4 va xs.length (xs.flatMap tldC), slR 37 4 vb ys.length (ys.flatMap tldC)] := by
  refine Fn.intro (vs := [va, vb]) Tryd.func13 rfl rfl ?_
  intro F W
  refine G.slAny (v := va) (by (repeat (first | exact Pick.here | apply Pick.there))) fun aa ca e0 _ => ?_
  subst e0
  refine G.slAny (v := vb) (by (repeat (first | exact Pick.here | apply Pick.there))) fun ab cb e0 _ => ?_
  subst e0
  refine G.seq ?_
  refine G.region ?_
  refine G.q (Quiet.assign rfl) rfl ?_
  refine G.nil ?_
  refine G.then_n ?_
  refine G.seq ?_
  refine G.seq ?_
  refine G.region ?_
  refine G.q (Quiet.move rfl) rfl ?_
  refine G.q (Quiet.slen rfl Tryd.underlying32 rfl) rfl ?_
  refine G.q (Quiet.move rfl) rfl ?_
  refine G.q (Quiet.slen rfl Tryd.underlying32 rfl) rfl ?_
  refine G.q (Quiet.int rfl rfl rfl) rfl ?_
  refine G.nil ?_
  refine G.then_n ?_
  refine G.condN rfl (fun h10 => ?_) (fun h10 => ?_)
  · refine G.seq ?_
    refine G.region ?_
    refine G.q (Quiet.assign rfl) rfl ?_
    refine G.nil ?_
    refine G.then_n ?_
    refine G.ret ?_
    refine G.then_r ?_
    exact G.done (l := [.tmp 4]) rfl rfl ⟨by rw [decide_eq_false (fun e => h10 (by rw [e]))], rfl⟩ (by (repeat (first | exact Picks.nil | (apply Picks.cons; (repeat (first | exact Pick.here | apply Pick.there)))))) (by (repeat (first | exact Suff.here | apply Suff.there)))
  · have hlen : xs.length = ys.length := by omega
    refine G.skip ?_
    refine G.then_n ?_
    refine G.seq ?_
    refine G.seq ?_
    refine G.region ?_
    refine G.q (Quiet.assign rfl) rfl ?_
    refine G.nil ?_
    refine G.then_n ?_
    refine G.block ?_
    refine G.loopK (ι := Nat) (fun q E => (5, vint q) :: E) (fun q => []) (fun q => q ≤ xs.length ∧ xs.take q = ys.take q) (fun q => xs.length - q) (0) (ts := [0, 1]) (.cons rfl (.cons rfl (.nil))) (⟨Nat.zero_le _, rfl⟩) ⟨rfl, rfl, rfl, trivial⟩ (by (repeat (first | exact Picks.nil | (apply Picks.cons; (repeat (first | exact Pick.here | apply Pick.there)))))) ?_
    rintro i ⟨hi, hpre⟩
    refine G.seq ?_
    refine G.seq ?_
    refine G.region ?_
    refine G.q (Quiet.move rfl) rfl ?_
    refine G.q (Quiet.move rfl) rfl ?_
    refine G.q (Quiet.slen rfl Tryd.underlying32 rfl) rfl ?_
    refine G.q (Quiet.int rfl rfl rfl) rfl ?_
    refine G.nil ?_
    refine G.then_n ?_
    refine G.condD rfl (fun h14 => ?_) (fun h14 => ?_)
    · have hi2 : i < xs.length := by omega
      have hi3 : i < ys.length := by omega
      refine G.slShape (v := .slice aa _ ca) (by (repeat (first | exact Pick.here | apply Pick.there))) (by omega) fun ba ba' e0 mba _ => ?_
      simp only [Value.slice.injEq, true_and] at e0
      obtain ⟨rfl, rfl⟩ := e0
      refine G.slShape (v := .slice ab _ cb) (by (repeat (first | exact Pick.here | apply Pick.there))) (by omega) fun bb bb' e0 mbb _ => ?_
      simp only [Value.slice.injEq, true_and] at e0
      obtain ⟨rfl, rfl⟩ := e0
      refine G.skip ?_
      refine G.then_n ?_
      refine G.seq ?_
      refine G.block ?_
      refine G.seq ?_
      refine G.draw [] [[0, 1, 2, 3, 4, 5, 6, 7, 8]] mixed (by kernel_rfl) ?_
      refine Phases.go [] (by (repeat (first | exact Picks.nil | (apply Picks.cons; (repeat (first | exact Pick.here | apply Pick.there)))))) ?_
      refine D.qw [2, 3, 8] rfl (by kernel_rfl) (Quiet.move rfl) ?_
      refine D.qw [2, 3, 8] rfl (by kernel_rfl) (Quiet.move rfl) ?_
      refine D.qw [3, 8] rfl (by kernel_rfl) (Quiet.indexAddr rfl rfl el_32 (by omega)) ?_
      refine D.qw [8] rfl (by kernel_rfl) (Quiet.loadRdA (sz := 4) (j := i * 4) (k := 4) (p := slR 37 4 _ xs.length (xs.flatMap tldC)) (vs := tldC xs[i]) rfl ag_37 (by (repeat (first | exact Pick.here | apply Pick.there))) (fun h hp => slR_rd hp) (by simp) (by omega) (by omega) (flatMap_at (f := tldC) (sz := 4) (fun _ _ => rfl) (by omega))) ?_
      refine D.qw [6, 7, 8] rfl (by kernel_rfl) (Quiet.move rfl) ?_
      refine D.qw [6, 7, 8] rfl (by kernel_rfl) (Quiet.move rfl) ?_
      refine D.qw [7, 8] rfl (by kernel_rfl) (Quiet.indexAddr rfl rfl el_32 (by omega)) ?_
      refine D.qw [8] rfl (by kernel_rfl) (Quiet.loadRdA (sz := 4) (j := i * 4) (k := 4) (p := slR 37 4 _ ys.length (ys.flatMap tldC)) (vs := tldC ys[i]) rfl ag_37 (by (repeat (first | exact Pick.here | apply Pick.there))) (fun h hp => slR_rd hp) (by simp) (by omega) (by omega) (flatMap_at (f := tldC) (sz := 4) (fun _ _ => rfl) (by omega))) ?_
      refine D.qw [] rfl (by kernel_rfl) (Quiet.structNe (r := decide (xs[i] = ys[i])) rfl rfl (by kernel_rfl) (tld_eq 9997 _ _)) ?_
      refine D.ph ?_
      refine Phases.fin ?_
      refine G.then_n ?_
      refine G.condN rfl (fun h25 => ?_) (fun h25 => ?_)
      · refine G.seq ?_
        refine G.region ?_
        refine G.q (Quiet.assign rfl) rfl ?_
        refine G.nil ?_
        refine G.then_n ?_
        refine G.ret ?_
        refine G.blk_r ?_
        refine G.then_r ?_
        refine G.then_r ?_
        refine G.blk_r ?_
        refine G.then_r ?_
        exact G.done (l := [.tmp 4]) rfl rfl ⟨by rw [decide_eq_false (fun e => h25 (by simp only [e]))], rfl⟩ (by (repeat (first | exact Picks.nil | (apply Picks.cons; (repeat (first | exact Pick.here | apply Pick.there)))))) (by (repeat (first | exact Suff.here | apply Suff.there)))
      · refine G.skip ?_
        refine G.blk_n ?_
        refine G.then_n ?_
        refine G.region ?_
        refine G.q (Quiet.move rfl) rfl ?_
        refine G.q (Quiet.add rfl rfl (by omega)) rfl ?_
        refine G.q (Quiet.assign rfl) rfl ?_
        refine G.nil ?_
        refine G.then_n ?_
        exact G.roundK (i + 1) (⟨by omega, by rw [List.take_succ_eq_append_getElem hi2, List.take_succ_eq_append_getElem hi3, hpre, h25]⟩) (by omega) ⟨rfl, rfl, rfl, trivial⟩ (by (repeat (first | exact Picks.nil | (apply Picks.cons; (repeat (first | exact Pick.here | apply Pick.there)))))) (by ((repeat (apply Have.cons; (repeat (first | exact Pick.here | apply Pick.there)))); apply Have.base; repeat (first | exact Suff.here | apply Suff.there)))
    · refine G.exit ?_
      refine G.then_e ?_
      refine G.then_e ?_
      refine G.blk_e ?_
      refine G.then_n ?_
      refine G.seq ?_
      refine G.region ?_
      refine G.q (Quiet.assign rfl) rfl ?_
      refine G.nil ?_
      refine G.then_n ?_
      refine G.ret ?_
      exact G.done (l := [.tmp 4]) rfl rfl ⟨by rw [decide_eq_true (by have hii : i = xs.length := (by omega); rw [hii, List.take_length] at hpre; rw [hlen, List.take_length] at hpre; exact hpre)], rfl⟩ (by (repeat (first | exact Picks.nil | (apply Picks.cons; (repeat (first | exact Pick.here | apply Pick.there)))))) (by (repeat (first | exact Suff.here | apply Suff.there)))

set_option maxRecDepth 100000 in
theorem awake11_spec : Fn Tryd.prog 7 #[] [] fun v L => v = .bool true ∧ L = [] := by
  refine Fn.intro (vs := []) Tryd.func7 rfl rfl ?_
  intro F W
  refine G.seq ?_
  refine G.region ?_
  refine G.q (Quiet.assign rfl) rfl ?_
  refine G.nil ?_
  refine G.then_n ?_
  refine G.seq ?_
  refine G.region ?_
  refine G.op (OpSpec.call Tryd.func8 rfl rfl (vs := []) rfl (wnew_spec)) (by (repeat (first | exact Picks.nil | (apply Picks.cons; (repeat (first | exact Pick.here | apply Pick.there)))))) rfl ?nx2
  rintro v L' ⟨t, rfl, rfl⟩
  refine G.q (Quiet.assign rfl) rfl ?_
  refine G.nil ?_
  refine G.then_n ?_
  refine G.seq ?_
  refine G.seq ?_
  refine G.region ?_
  refine G.q (Quiet.move rfl) rfl ?_
  refine G.q (Quiet.as (v' := .bool false) (by rfl) (Quiet.ptreq rfl rfl Tryd.underlying25)) rfl ?_
  refine G.nil ?_
  refine G.then_n ?_
  refine G.condF rfl ?_
  refine G.skip ?_
  refine G.then_n ?_
  refine G.seq ?_
  refine G.region ?_
  refine G.q (Quiet.move rfl) rfl ?_
  refine G.op (OpSpec.call Tryd.func9 rfl rfl (vs := [_, _, _, _]) rfl (wadd_spec t [] 1 1 wA (by decide) (by decide))) (by (repeat (first | exact Picks.nil | (apply Picks.cons; (repeat (first | exact Pick.here | apply Pick.there)))))) rfl ?nx5
  rintro v L' ⟨rfl, rfl⟩; rw [awake_1]; dsimp only
  refine G.q (Quiet.assign rfl) rfl ?_
  refine G.nil ?_
  refine G.then_n ?_
  refine G.seq ?_
  refine G.region ?_
  refine G.q (Quiet.move rfl) rfl ?_
  refine G.op (OpSpec.call Tryd.func9 rfl rfl (vs := [_, _, _, _]) rfl (wadd_spec t aw1 1 3 wA (by decide) (by decide))) (by (repeat (first | exact Picks.nil | (apply Picks.cons; (repeat (first | exact Pick.here | apply Pick.there)))))) rfl ?nx7
  rintro v L' ⟨rfl, rfl⟩; rw [awake_2]; dsimp only
  refine G.q (Quiet.assign rfl) rfl ?_
  refine G.nil ?_
  refine G.then_n ?_
  refine G.seq ?_
  refine G.region ?_
  refine G.q (Quiet.move rfl) rfl ?_
  refine G.op (OpSpec.call Tryd.func9 rfl rfl (vs := [_, _, _, _]) rfl (wadd_spec t aw2 2 1 wA (by decide) (by decide))) (by (repeat (first | exact Picks.nil | (apply Picks.cons; (repeat (first | exact Pick.here | apply Pick.there)))))) rfl ?nx9
  rintro v L' ⟨rfl, rfl⟩; rw [awake_3]; dsimp only
  refine G.q (Quiet.assign rfl) rfl ?_
  refine G.nil ?_
  refine G.then_n ?_
  refine G.seq ?_
  refine G.region ?_
  refine G.q (Quiet.move rfl) rfl ?_
  refine G.op (OpSpec.call Tryd.func9 rfl rfl (vs := [_, _, _, _]) rfl (wadd_spec t aw3 2 2 wB (by decide) (by decide))) (by (repeat (first | exact Picks.nil | (apply Picks.cons; (repeat (first | exact Pick.here | apply Pick.there)))))) rfl ?nx11
  rintro v L' ⟨rfl, rfl⟩; rw [awake_4]; dsimp only
  refine G.q (Quiet.assign rfl) rfl ?_
  refine G.nil ?_
  refine G.then_n ?_
  refine G.seq ?_
  refine G.region ?_
  refine G.q (Quiet.build (us := [(0, _), (1, _), (2, _)]) fl_35 ze_35 rfl rfl (by simp [isCell])) rfl ?_
  refine G.op (OpSpec.allocA ze_35) (by (repeat (first | exact Picks.nil | (apply Picks.cons; (repeat (first | exact Pick.here | apply Pick.there)))))) rfl ?nx14
  rintro v L' ⟨be, rfl, rfl⟩
  refine G.op (OpSpec.storeA rfl rfl ?c16 sz_35 ?c19 ?c17 ?c18) (by (repeat (first | exact Picks.nil | (apply Picks.cons; (repeat (first | exact Pick.here | apply Pick.there)))))) rfl ?nx20
  case c16 => (first | (simp [isCell]; done) | (simp [isCell, setAll, Value.cells]; done))
  case c19 => (first | (simp; done) | (simp [setAll, spl, Value.cells]; done))
  case c17 => (first | (simp; done) | (simp [setAll, spl, Value.cells]; done))
  case c18 => exact nfz0 _ _
  rintro v L' rfl
  refine G.nil ?_
  refine G.ptCast (b := be) (l' := [vint 3, vstr wA, vint 4]) (by (repeat (first | exact Pick.here | apply Pick.there))) rfl ?_
  refine G.then_n ?_
  refine G.seq ?_
  refine G.region ?_
  refine G.q (Quiet.move rfl) rfl ?_
  refine G.q (Quiet.loadAs (vs := [vint 3, vstr wA, vint 4]) rfl ag_35 (by (repeat (first | exact Pick.here | apply Pick.there))) (by simp) rfl) rfl ?_
  refine G.op (OpSpec.buildSlice (vs := [_]) el_23 ze_35 rfl rfl rfl rfl (by first | (simp [Value.cells]; done) | (intro v hv; simp only [List.mem_cons, List.not_mem_nil, or_false] at hv; subst hv; rfl)) (by decide)) (by (repeat (first | exact Picks.nil | (apply Picks.cons; (repeat (first | exact Pick.here | apply Pick.there)))))) rfl ?nx22
  rintro v L' ⟨bl, rfl, rfl⟩
  refine G.slMakeN 3 1 (b := bl) (xs := ([(3, (wA, 4))] : List Ev).flatMap evC) (by (repeat (first | exact Pick.here | apply Pick.there))) (by simp [evC, Value.cells]) rfl ?_
  refine G.op (OpSpec.call Tryd.func11 rfl rfl (vs := [_, _]) rfl (wfire_spec t aw4 _ [(3, (wA, 4))] (slR 35 3 (.slice (some ⟨bl, 0, none⟩) 1 1) 1 (([(3, (wA, 4))] : List Ev).flatMap evC)) (fun h hp => slR_rd hp) (by decide) (by decide))) (by (repeat (first | exact Picks.nil | (apply Picks.cons; (repeat (first | exact Pick.here | apply Pick.there)))))) rfl ?nx24
  rintro v L' ⟨al, cl, rfl, rfl⟩; rw [awake_5]; dsimp only
  refine G.q (Quiet.assign rfl) rfl ?_
  refine G.nil ?_
  refine G.then_n ?_
  refine G.seq ?_
  refine G.region ?_
  refine G.q (Quiet.move rfl) rfl ?_
  refine G.op (OpSpec.call Tryd.func10 rfl rfl (vs := [_, _]) rfl (wcount_spec t aw5 1)) (by (repeat (first | exact Picks.nil | (apply Picks.cons; (repeat (first | exact Pick.here | apply Pick.there)))))) rfl ?nx26
  rintro v L' ⟨rfl, rfl⟩; rw [awake_6.1]
  refine G.q (Quiet.assign rfl) rfl ?_
  refine G.nil ?_
  refine G.then_n ?_
  refine G.seq ?_
  refine G.region ?_
  refine G.q (Quiet.move rfl) rfl ?_
  refine G.q (Quiet.loadAs (vs := [vint 3, vstr wA, vint 4]) rfl ag_35 (by (repeat (first | exact Pick.here | apply Pick.there))) (by simp) rfl) rfl ?_
  refine G.q (Quiet.buildN (pl := [(0, 1), (1, 3)]) (us := [(0, vint 1), (1, .agg ([vint 3, vstr wA, vint 4] : List Value).toArray)]) (cells := [vint 1, vint 3, vstr wA, vint 4]) Tryd.underlying37 (by kernel_rfl) ze_37 rfl rfl) rfl ?_
  refine G.q (Quiet.loadAs (vs := [vint 3, vstr wA, vint 4]) rfl ag_35 (by (repeat (first | exact Pick.here | apply Pick.there))) (by simp) rfl) rfl ?_
  refine G.q (Quiet.buildN (pl := [(0, 1), (1, 3)]) (us := [(0, vint 2), (1, .agg ([vint 3, vstr wA, vint 4] : List Value).toArray)]) (cells := [vint 2, vint 3, vstr wA, vint 4]) Tryd.underlying37 (by kernel_rfl) ze_37 rfl rfl) rfl ?_
  refine G.op (OpSpec.buildSlice (vs := [_, _]) el_32 ze_37 rfl rfl rfl rfl (by first | (simp [Value.cells]; done) | (intro v hv; simp only [List.mem_cons, List.not_mem_nil, or_false] at hv; subst hv; rfl)) (by decide)) (by (repeat (first | exact Picks.nil | (apply Picks.cons; (repeat (first | exact Pick.here | apply Pick.there)))))) rfl ?nx32
  rintro v L' ⟨bt, rfl, rfl⟩
  refine G.slMakeN 4 2 (b := bt) (xs := ([(1, (3, (wA, 4))), (2, (3, (wA, 4)))] : List Tld).flatMap tldC) (by (repeat (first | exact Pick.here | apply Pick.there))) (by simp [tldC, Value.cells]) rfl ?_
  refine G.op (OpSpec.call Tryd.func13 rfl rfl (vs := [_, _]) rfl (told_spec ([(1, (3, (wA, 4))), (2, (3, (wA, 4)))] : List Tld) ([(1, (3, (wA, 4))), (2, (3, (wA, 4)))] : List Tld) _ _ (by decide))) (by (repeat (first | exact Picks.nil | (apply Picks.cons; (repeat (first | exact Pick.here | apply Pick.there)))))) rfl ?nx34
  rintro v L' ⟨rfl, rfl⟩; rw [decide_eq_true rfl]
  refine G.q (Quiet.assign rfl) rfl ?_
  refine G.nil ?_
  refine G.then_n ?_
  refine G.seq ?_
  refine G.region ?_
  refine G.q (Quiet.move rfl) rfl ?_
  refine G.q (Quiet.as (v' := .bool true) (by rfl) (Quiet.int rfl rfl rfl)) rfl ?_
  refine G.q (Quiet.move rfl) rfl ?_
  refine G.grun (t := 37) rfl rfl rfl ?_
  refine G.q (Quiet.move rfl) rfl ?_
  refine G.grun (t := 37) rfl rfl rfl ?_
  refine G.q (Quiet.as (v' := .bool true) (by rfl) (Quiet.int rfl rfl rfl)) rfl ?_
  refine G.q (Quiet.pickT rfl rfl) rfl ?_
  refine G.q (Quiet.move rfl) rfl ?_
  refine G.grun (t := 41) rfl rfl rfl ?_
  refine G.q (Quiet.move rfl) rfl ?_
  refine G.grun (t := 41) rfl rfl rfl ?_
  refine G.q (Quiet.as (v' := .bool true) (by rfl) (Quiet.int rfl rfl rfl)) rfl ?_
  refine G.q (Quiet.pickT rfl rfl) rfl ?_
  refine G.q (Quiet.move rfl) rfl ?_
  refine G.grun (t := 45) rfl rfl rfl ?_
  refine G.q (Quiet.move rfl) rfl ?_
  refine G.grun (t := 45) rfl rfl rfl ?_
  refine G.q (Quiet.as (v' := .bool true) (by rfl) (Quiet.int rfl rfl rfl)) rfl ?_
  refine G.q (Quiet.pickT rfl rfl) rfl ?_
  refine G.q (Quiet.move rfl) rfl ?_
  refine G.grun (t := 49) rfl rfl rfl ?_
  refine G.q (Quiet.move rfl) rfl ?_
  refine G.q (Quiet.pickT rfl rfl) rfl ?_
  refine G.q (Quiet.move rfl) rfl ?_
  refine G.grun (t := 52) rfl rfl rfl ?_
  refine G.q (Quiet.move rfl) rfl ?_
  refine G.grun (t := 52) rfl rfl rfl ?_
  refine G.q (Quiet.as (v' := .bool true) (by rfl) (Quiet.int rfl rfl rfl)) rfl ?_
  refine G.q (Quiet.pickT rfl rfl) rfl ?_
  refine G.q (Quiet.move rfl) rfl ?_
  refine G.grun (t := 56) rfl rfl rfl ?_
  refine G.q (Quiet.move rfl) rfl ?_
  refine G.grun (t := 56) rfl rfl rfl ?_
  refine G.op (OpSpec.call Tryd.func10 rfl rfl (vs := [_, _]) rfl (wcount_spec t aw5 2)) (by (repeat (first | exact Picks.nil | (apply Picks.cons; (repeat (first | exact Pick.here | apply Pick.there)))))) rfl ?nx41
  rintro v L' ⟨rfl, rfl⟩; rw [awake_6.2]
  refine G.grun (t := 56) rfl rfl rfl ?_
  refine G.q (Quiet.as (v' := .bool true) (by rfl) (Quiet.int rfl rfl rfl)) rfl ?_
  refine G.q (Quiet.pickT rfl rfl) rfl ?_
  refine G.q (Quiet.assign rfl) rfl ?_
  refine G.nil ?_
  refine G.then_n ?_
  refine G.ret ?_
  exact G.done (l := [.tmp 0]) rfl rfl ⟨rfl, rfl⟩ (by (repeat (first | exact Picks.nil | (apply Picks.cons; (repeat (first | exact Pick.here | apply Pick.there)))))) (by (repeat (first | exact Suff.here | apply Suff.there)))

set_option maxRecDepth 100000 in
theorem wgone11_spec (va vb ve : Value) (xs ys : List Arm) (es : List Ev) (p : HP) (ha : ArmsA p va xs) (hb : ArmsA p vb ys) (he : EvsA p ve es) : Fn Tryd.prog 5 #[va, vb, ve] [p] fun v L => v = .bool true ∧ L = [p] := by
  refine Fn.intro (vs := [va, vb, ve]) Tryd.func5 rfl rfl ?_
  intro F W
  refine G.rdAny (p := p) ha.cells (by (repeat (first | exact Pick.here | apply Pick.there))) fun aa ca e0 _ => ?_
  subst e0
  have hla := ha.len
  refine G.rdAny (p := p) hb.cells (by (repeat (first | exact Pick.here | apply Pick.there))) fun ab cb e0 _ => ?_
  subst e0
  have hlb := hb.len
  refine G.rdAny (p := p) he.cells (by (repeat (first | exact Pick.here | apply Pick.there))) fun ae ce e0 _ => ?_
  subst e0
  have hle := he.len
  refine G.seq ?_
  refine G.region ?_
  refine G.q (Quiet.assign rfl) rfl ?_
  refine G.nil ?_
  refine G.then_n ?_
  refine G.seq ?_
  refine G.region ?_
  refine G.op (OpSpec.call Tryd.func7 rfl rfl (vs := []) rfl (awake11_spec)) (by (repeat (first | exact Picks.nil | (apply Picks.cons; (repeat (first | exact Pick.here | apply Pick.there)))))) rfl ?nx2
  rintro v L' ⟨rfl, rfl⟩
  refine G.q (Quiet.assign rfl) rfl ?_
  refine G.nil ?_
  refine G.then_n ?_
  refine G.seq ?_
  refine G.region ?_
  refine G.op (OpSpec.call Tryd.func8 rfl rfl (vs := []) rfl (wnew_spec)) (by (repeat (first | exact Picks.nil | (apply Picks.cons; (repeat (first | exact Pick.here | apply Pick.there)))))) rfl ?nx4
  rintro v L' ⟨t8, rfl, rfl⟩
  refine G.q (Quiet.assign rfl) rfl ?_
  refine G.nil ?_
  refine G.then_n ?_
  refine G.seq ?_
  refine G.region ?_
  refine G.op (OpSpec.call Tryd.func8 rfl rfl (vs := []) rfl (wnew_spec)) (by (repeat (first | exact Picks.nil | (apply Picks.cons; (repeat (first | exact Pick.here | apply Pick.there)))))) rfl ?nx6
  rintro v L' ⟨t9, rfl, rfl⟩
  refine G.q (Quiet.assign rfl) rfl ?_
  refine G.nil ?_
  refine G.then_n ?_
  refine G.seq ?_
  refine G.seq ?_
  refine G.region ?_
  refine G.q (Quiet.move rfl) rfl ?_
  refine G.q (Quiet.not rfl) rfl ?_
  refine G.q (Quiet.move rfl) rfl ?_
  refine G.grun (t := 20) rfl rfl rfl ?_
  refine G.q (Quiet.move rfl) rfl ?_
  refine G.grun (t := 20) rfl rfl rfl ?_
  refine G.q (Quiet.as (v' := .bool false) (by rfl) (Quiet.ptreq rfl rfl Tryd.underlying25)) rfl ?_
  refine G.q (Quiet.pickF rfl rfl) rfl ?_
  refine G.q (Quiet.move rfl) rfl ?_
  refine G.grun (t := 24) rfl rfl rfl ?_
  refine G.q (Quiet.move rfl) rfl ?_
  refine G.grun (t := 24) rfl rfl rfl ?_
  refine G.q (Quiet.as (v' := .bool false) (by rfl) (Quiet.ptreq rfl rfl Tryd.underlying25)) rfl ?_
  refine G.q (Quiet.pickF rfl rfl) rfl ?_
  refine G.nil ?_
  refine G.then_n ?_
  refine G.condF rfl ?_
  refine G.skip ?_
  refine G.then_n ?_
  refine G.seq ?_
  refine G.joinK (ι := List Wt) (fun q E => E) (fun q => [tbR t8 q]) (fun q => q.length ≤ 60 ∧ ∀ w ∈ q, w.1 = 3) (pre := [tbR t8 []]) (ts := [1, 2, 6, 8, 9]) (.cons rfl (.cons rfl (.cons rfl (.cons rfl (.cons rfl (.nil)))))) (by (repeat (first | exact Picks.nil | (apply Picks.cons; (repeat (first | exact Pick.here | apply Pick.there)))))) ?_ ?_
  · refine G.seq ?_
    refine G.region ?_
    refine G.q (Quiet.assign rfl) rfl ?_
    refine G.nil ?_
    refine G.then_n ?_
    refine G.block ?_
    refine G.loopK (ι := Nat × (List Wt)) (fun q E => (10, vint q.1) :: E) (fun q => [tbR t8 q.2]) (fun q => q.1 ≤ xs.length ∧ q.1 ≤ 60 ∧ q.2.length ≤ q.1 ∧ ∀ w ∈ q.2, w.1 = 3) (fun q => xs.length - q.1) (0, []) (ts := [0, 1, 2, 6, 8, 9]) (.cons rfl (.cons rfl (.cons rfl (.cons rfl (.cons rfl (.cons rfl (.nil))))))) (⟨Nat.zero_le _, Nat.zero_le _, Nat.zero_le _, by simp⟩) ⟨rfl, rfl, rfl, rfl, rfl, rfl, rfl, trivial⟩ (by (repeat (first | exact Picks.nil | (apply Picks.cons; (repeat (first | exact Pick.here | apply Pick.there)))))) ?_
    rintro ⟨i, ω⟩ ⟨hi, hi60, hwl, h3⟩
    dsimp only
    dsimp only at hi hi60 hwl h3
    refine G.seq ?_
    refine G.seq ?_
    refine G.region ?_
    refine G.q (Quiet.move rfl) rfl ?_
    refine G.q (Quiet.move rfl) rfl ?_
    refine G.q (Quiet.slen rfl Tryd.underlying22 rfl) rfl ?_
    refine G.q (Quiet.int rfl rfl rfl) rfl ?_
    refine G.q (Quiet.move rfl) rfl ?_
    refine G.dec (t := 32) rfl (fun h7_32 => ?_) (fun h7_32 => ?_)
    · refine G.kDT (t := 31) rfl h7_32 ?_
      refine G.grun (t := 32) rfl rfl rfl ?_
      refine G.q (Quiet.move rfl) rfl ?_
      refine G.grun (t := 32) rfl rfl rfl ?_
      refine G.q (Quiet.int rfl rfl rfl) rfl ?_
      refine G.q (Quiet.pickT rfl rfl) rfl ?_
      refine G.nil ?_
      refine G.then_n ?_
      refine G.condD rfl (fun h35 => ?_) (fun h35 => ?_)
      · have hi2 : i < xs.length := by omega
        have hp1 := ha.paths _ (List.getElem_mem hi2)
        refine G.rdShape (p := p) ha.cells (by (repeat (first | exact Pick.here | apply Pick.there))) (by omega) fun ba oa e0 => ?_
        subst e0
        refine G.skip ?_
        refine G.then_n ?_
        refine G.seq ?_
        refine G.block ?_
        refine G.draw [11] [[0, 1, 2, 3, 4, 5, 6, 7, 8, 9, 10, 11]] mixed (by kernel_rfl) ?_
        refine Phases.go [] (by (repeat (first | exact Picks.nil | (apply Picks.cons; (repeat (first | exact Pick.here | apply Pick.there)))))) ?_
        refine D.qw [11] rfl (by kernel_rfl) (Quiet.move rfl) ?_
        refine D.qw [3, 4, 5, 11] rfl (by kernel_rfl) (Quiet.move rfl) ?_
        refine D.qw [3, 4, 5, 11] rfl (by kernel_rfl) (Quiet.move rfl) ?_
        refine D.qw [4, 5, 11] rfl (by kernel_rfl) (Quiet.indexAddr rfl rfl el_22 (by omega)) ?_
        refine D.qw [5, 11] rfl (by kernel_rfl) (Quiet.fieldAddr rfl fo_30_0) ?_
        refine D.qw [11] rfl (by kernel_rfl) (Quiet.loadRd (sz := 5) (j := i * 5 + 0) (p := p) rfl ag_3 (by (repeat (first | exact Pick.here | apply Pick.there))) ha.cells (by omega) ((arm_cell (l := xs) (i := i) (k := 0) (by omega) (by decide)).trans rfl)) ?_
        refine D.qw [8, 9, 10, 11] rfl (by kernel_rfl) (Quiet.move rfl) ?_
        refine D.qw [8, 9, 10, 11] rfl (by kernel_rfl) (Quiet.move rfl) ?_
        refine D.qw [9, 10, 11] rfl (by kernel_rfl) (Quiet.indexAddr rfl rfl el_22 (by omega)) ?_
        refine D.qw [10, 11] rfl (by kernel_rfl) (Quiet.fieldAddr rfl fo_30_1) ?_
        refine D.qw [11] rfl (by kernel_rfl) (Quiet.loadRd (sz := 5) (j := i * 5 + 1) (p := p) rfl ag_9 (by (repeat (first | exact Pick.here | apply Pick.there))) ha.cells (by omega) ((arm_cell (l := xs) (i := i) (k := 1) (by omega) (by decide)).trans rfl)) ?_
        refine D.h rfl (by kernel_rfl) (OpSpec.call Tryd.func9 rfl rfl (vs := [_, _, _, _]) rfl (wadd_spec t8 ω 3 xs[i].1 xs[i].2.1 (by first | decide | omega) (by first | assumption | decide))) (by (repeat (first | exact Picks.nil | (apply Picks.cons; (repeat (first | exact Pick.here | apply Pick.there)))))) ?nx29
        rintro v L' ⟨rfl, rfl⟩
        refine D.ph ?_
        refine Phases.fin ?_
        refine G.blk_n ?_
        refine G.then_n ?_
        refine G.region ?_
        refine G.q (Quiet.move rfl) rfl ?_
        refine G.q (Quiet.add rfl rfl (by omega)) rfl ?_
        refine G.q (Quiet.assign rfl) rfl ?_
        refine G.nil ?_
        refine G.then_n ?_
        exact G.roundK ((i + 1, (addW ω 3 xs[i].1 xs[i].2.1).1)) (⟨by dsimp only; omega, by dsimp only; omega, by dsimp only; have := add_len ω 3 xs[i].1 xs[i].2.1; omega, fun w hw => (add_mem hw).elim (h3 w) (fun e => by rw [e])⟩) (by dsimp only; omega) ⟨rfl, rfl, rfl, rfl, rfl, rfl, rfl, trivial⟩ (by (repeat (first | exact Picks.nil | (apply Picks.cons; (repeat (first | exact Pick.here | apply Pick.there)))))) (by ((repeat (apply Have.cons; (repeat (first | exact Pick.here | apply Pick.there)))); apply Have.base; repeat (first | exact Suff.here | apply Suff.there)))
      · refine G.exit ?_
        refine G.then_e ?_
        refine G.then_e ?_
        refine G.blk_e ?_
        refine G.then_n ?_
        exact G.meetK (ω) (⟨by omega, h3⟩) ⟨rfl, rfl, rfl, rfl, rfl, trivial⟩ (by (repeat (first | exact Picks.nil | (apply Picks.cons; (repeat (first | exact Pick.here | apply Pick.there)))))) (by ((repeat (apply Have.cons; (repeat (first | exact Pick.here | apply Pick.there)))); apply Have.base; repeat (first | exact Suff.here | apply Suff.there)))
    · refine G.kDF (t := 31) rfl h7_32 ?_
      refine G.gskip (t := 32) rfl rfl rfl rfl ?_
      refine G.gskip (t := 32) rfl rfl rfl rfl ?_
      refine G.q (Quiet.pickF rfl rfl) rfl ?_
      refine G.nil ?_
      refine G.then_n ?_
      refine G.condF rfl ?_
      refine G.exit ?_
      refine G.then_e ?_
      refine G.then_e ?_
      refine G.blk_e ?_
      refine G.then_n ?_
      exact G.meetK (ω) (⟨by omega, h3⟩) ⟨rfl, rfl, rfl, rfl, rfl, trivial⟩ (by (repeat (first | exact Picks.nil | (apply Picks.cons; (repeat (first | exact Pick.here | apply Pick.there)))))) (by ((repeat (apply Have.cons; (repeat (first | exact Pick.here | apply Pick.there)))); apply Have.base; repeat (first | exact Suff.here | apply Suff.there)))
  · rintro ω1 ⟨hw1, h31⟩
    refine G.seq ?_
    refine G.tbCast (t := t9) (ω' := dropW ω1 3) (by (repeat (first | exact Pick.here | apply Pick.there))) (drop_all h31) ?_
    refine G.joinK (ι := List Wt) (fun q E => E) (fun q => [tbR t8 q, tbR t9 (dropW q 3)]) (fun q => q.length ≤ 120) (pre := [tbR t8 ω1, tbR t9 (dropW ω1 3)]) (ts := [2, 6, 8, 9]) (.cons rfl (.cons rfl (.cons rfl (.cons rfl (.nil))))) (by (repeat (first | exact Picks.nil | (apply Picks.cons; (repeat (first | exact Pick.here | apply Pick.there)))))) ?_ ?_
    · refine G.seq ?_
      refine G.region ?_
      refine G.q (Quiet.assign rfl) rfl ?_
      refine G.nil ?_
      refine G.then_n ?_
      refine G.block ?_
      refine G.loopK (ι := Nat × (List Wt)) (fun q E => (11, vint q.1) :: E) (fun q => [tbR t8 q.2, tbR t9 (dropW q.2 3)]) (fun q => q.1 ≤ ys.length ∧ q.1 ≤ 60 ∧ q.2.length ≤ 60 + q.1) (fun q => ys.length - q.1) (0, ω1) (ts := [1, 2, 6, 8, 9]) (.cons rfl (.cons rfl (.cons rfl (.cons rfl (.cons rfl (.nil)))))) (⟨Nat.zero_le _, Nat.zero_le _, hw1⟩) ⟨rfl, rfl, rfl, rfl, rfl, rfl, trivial⟩ (by (repeat (first | exact Picks.nil | (apply Picks.cons; (repeat (first | exact Pick.here | apply Pick.there)))))) ?_
      rintro ⟨i, ω⟩ ⟨hi, hi60, hwl⟩
      dsimp only
      dsimp only at hi hi60 hwl
      refine G.seq ?_
      refine G.seq ?_
      refine G.region ?_
      refine G.q (Quiet.move rfl) rfl ?_
      refine G.q (Quiet.move rfl) rfl ?_
      refine G.q (Quiet.slen rfl Tryd.underlying22 rfl) rfl ?_
      refine G.q (Quiet.int rfl rfl rfl) rfl ?_
      refine G.q (Quiet.move rfl) rfl ?_
      refine G.dec (t := 54) rfl (fun h11_54 => ?_) (fun h11_54 => ?_)
      · refine G.kDT (t := 53) rfl h11_54 ?_
        refine G.grun (t := 54) rfl rfl rfl ?_
        refine G.q (Quiet.move rfl) rfl ?_
        refine G.grun (t := 54) rfl rfl rfl ?_
        refine G.q (Quiet.int rfl rfl rfl) rfl ?_
        refine G.q (Quiet.pickT rfl rfl) rfl ?_
        refine G.nil ?_
        refine G.then_n ?_
        refine G.condD rfl (fun h57 => ?_) (fun h57 => ?_)
        · have hi2 : i < ys.length := by omega
          have hp1 := hb.paths _ (List.getElem_mem hi2)
          refine G.rdShape (p := p) hb.cells (by (repeat (first | exact Pick.here | apply Pick.there))) (by omega) fun bb ob e0 => ?_
          subst e0
          refine G.skip ?_
          refine G.then_n ?_
          refine G.seq ?_
          refine G.block ?_
          refine G.seq ?_
          refine G.draw [15] [[0, 1, 2, 3, 4, 5, 6, 7, 8, 9, 10, 11, 12, 13, 14, 15]] mixed (by kernel_rfl) ?_
          refine Phases.go [] (by (repeat (first | exact Picks.nil | (apply Picks.cons; (repeat (first | exact Pick.here | apply Pick.there)))))) ?_
          refine D.qw [15] rfl (by kernel_rfl) (Quiet.move rfl) ?_
          refine D.qw [2, 3, 4, 15] rfl (by kernel_rfl) (Quiet.move rfl) ?_
          refine D.qw [3, 4, 15] rfl (by kernel_rfl) (Quiet.remE rfl rfl (by omega) (by omega)) ?_
          refine D.qw [4, 15] rfl (by kernel_rfl) (Quiet.mul rfl rfl (by omega)) ?_
          refine D.qw [15] rfl (by kernel_rfl) (Quiet.add rfl rfl (by omega)) ?_
          refine D.qw [7, 8, 9, 15] rfl (by kernel_rfl) (Quiet.move rfl) ?_
          refine D.qw [7, 8, 9, 15] rfl (by kernel_rfl) (Quiet.move rfl) ?_
          refine D.qw [8, 9, 15] rfl (by kernel_rfl) (Quiet.indexAddr rfl rfl el_22 (by omega)) ?_
          refine D.qw [9, 15] rfl (by kernel_rfl) (Quiet.fieldAddr rfl fo_30_0) ?_
          refine D.qw [15] rfl (by kernel_rfl) (Quiet.loadRd (sz := 5) (j := i * 5 + 0) (p := p) rfl ag_3 (by (repeat (first | exact Pick.here | apply Pick.there))) hb.cells (by omega) ((arm_cell (l := ys) (i := i) (k := 0) (by omega) (by decide)).trans rfl)) ?_
          refine D.qw [12, 13, 14, 15] rfl (by kernel_rfl) (Quiet.move rfl) ?_
          refine D.qw [12, 13, 14, 15] rfl (by kernel_rfl) (Quiet.move rfl) ?_
          refine D.qw [13, 14, 15] rfl (by kernel_rfl) (Quiet.indexAddr rfl rfl el_22 (by omega)) ?_
          refine D.qw [14, 15] rfl (by kernel_rfl) (Quiet.fieldAddr rfl fo_30_1) ?_
          refine D.qw [15] rfl (by kernel_rfl) (Quiet.loadRd (sz := 5) (j := i * 5 + 1) (p := p) rfl ag_9 (by (repeat (first | exact Pick.here | apply Pick.there))) hb.cells (by omega) ((arm_cell (l := ys) (i := i) (k := 1) (by omega) (by decide)).trans rfl)) ?_
          refine D.h rfl (by kernel_rfl) (OpSpec.call Tryd.func9 rfl rfl (vs := [_, _, _, _]) rfl (wadd_spec t8 ω (1 + 3 * ((i : Int) % 3)) ys[i].1 ys[i].2.1 (by first | decide | omega) (by first | assumption | decide))) (by (repeat (first | exact Picks.nil | (apply Picks.cons; (repeat (first | exact Pick.here | apply Pick.there)))))) ?nx56
          rintro v L' ⟨rfl, rfl⟩
          refine D.ph ?_
          refine Phases.fin ?_
          refine G.then_n ?_
          refine G.draw [15] [[0, 1, 2, 3, 4, 5, 6, 7, 8, 9, 10, 11, 12, 13, 14, 15]] mixed (by kernel_rfl) ?_
          refine Phases.go [] (by (repeat (first | exact Picks.nil | (apply Picks.cons; (repeat (first | exact Pick.here | apply Pick.there)))))) ?_
          refine D.qw [15] rfl (by kernel_rfl) (Quiet.move rfl) ?_
          refine D.qw [2, 3, 4, 15] rfl (by kernel_rfl) (Quiet.move rfl) ?_
          refine D.qw [3, 4, 15] rfl (by kernel_rfl) (Quiet.remE rfl rfl (by omega) (by omega)) ?_
          refine D.qw [4, 15] rfl (by kernel_rfl) (Quiet.mul rfl rfl (by omega)) ?_
          refine D.qw [15] rfl (by kernel_rfl) (Quiet.add rfl rfl (by omega)) ?_
          refine D.qw [7, 8, 9, 15] rfl (by kernel_rfl) (Quiet.move rfl) ?_
          refine D.qw [7, 8, 9, 15] rfl (by kernel_rfl) (Quiet.move rfl) ?_
          refine D.qw [8, 9, 15] rfl (by kernel_rfl) (Quiet.indexAddr rfl rfl el_22 (by omega)) ?_
          refine D.qw [9, 15] rfl (by kernel_rfl) (Quiet.fieldAddr rfl fo_30_0) ?_
          refine D.qw [15] rfl (by kernel_rfl) (Quiet.loadRd (sz := 5) (j := i * 5 + 0) (p := p) rfl ag_3 (by (repeat (first | exact Pick.here | apply Pick.there))) hb.cells (by omega) ((arm_cell (l := ys) (i := i) (k := 0) (by omega) (by decide)).trans rfl)) ?_
          refine D.qw [12, 13, 14, 15] rfl (by kernel_rfl) (Quiet.move rfl) ?_
          refine D.qw [12, 13, 14, 15] rfl (by kernel_rfl) (Quiet.move rfl) ?_
          refine D.qw [13, 14, 15] rfl (by kernel_rfl) (Quiet.indexAddr rfl rfl el_22 (by omega)) ?_
          refine D.qw [14, 15] rfl (by kernel_rfl) (Quiet.fieldAddr rfl fo_30_1) ?_
          refine D.qw [15] rfl (by kernel_rfl) (Quiet.loadRd (sz := 5) (j := i * 5 + 1) (p := p) rfl ag_9 (by (repeat (first | exact Pick.here | apply Pick.there))) hb.cells (by omega) ((arm_cell (l := ys) (i := i) (k := 1) (by omega) (by decide)).trans rfl)) ?_
          refine D.h rfl (by kernel_rfl) (OpSpec.call Tryd.func9 rfl rfl (vs := [_, _, _, _]) rfl (wadd_spec t9 (dropW ω 3) (1 + 3 * ((i : Int) % 3)) ys[i].1 ys[i].2.1 (by first | decide | omega) (by first | assumption | decide))) (by (repeat (first | exact Picks.nil | (apply Picks.cons; (repeat (first | exact Pick.here | apply Pick.there)))))) ?nx73
          rintro v L' ⟨rfl, rfl⟩; rw [drop_add (ω := ω) (d := 3) (by omega)]
          refine D.ph ?_
          refine Phases.fin ?_
          refine G.blk_n ?_
          refine G.then_n ?_
          refine G.region ?_
          refine G.q (Quiet.move rfl) rfl ?_
          refine G.q (Quiet.add rfl rfl (by omega)) rfl ?_
          refine G.q (Quiet.assign rfl) rfl ?_
          refine G.nil ?_
          refine G.then_n ?_
          exact G.roundK ((i + 1, (addW ω (1 + 3 * ((i : Int) % 3)) ys[i].1 ys[i].2.1).1)) (⟨by dsimp only; omega, by dsimp only; omega, by dsimp only; have := add_len ω (1 + 3 * ((i : Int) % 3)) ys[i].1 ys[i].2.1; omega⟩) (by dsimp only; omega) ⟨rfl, rfl, rfl, rfl, rfl, rfl, trivial⟩ (by (repeat (first | exact Picks.nil | (apply Picks.cons; (repeat (first | exact Pick.here | apply Pick.there)))))) (by ((repeat (apply Have.cons; (repeat (first | exact Pick.here | apply Pick.there)))); apply Have.base; repeat (first | exact Suff.here | apply Suff.there)))
        · refine G.exit ?_
          refine G.then_e ?_
          refine G.then_e ?_
          refine G.blk_e ?_
          refine G.then_n ?_
          exact G.meetK (ω) (by omega) ⟨rfl, rfl, rfl, rfl, trivial⟩ (by (repeat (first | exact Picks.nil | (apply Picks.cons; (repeat (first | exact Pick.here | apply Pick.there)))))) (by ((repeat (apply Have.cons; (repeat (first | exact Pick.here | apply Pick.there)))); apply Have.base; repeat (first | exact Suff.here | apply Suff.there)))
      · refine G.kDF (t := 53) rfl h11_54 ?_
        refine G.gskip (t := 54) rfl rfl rfl rfl ?_
        refine G.gskip (t := 54) rfl rfl rfl rfl ?_
        refine G.q (Quiet.pickF rfl rfl) rfl ?_
        refine G.nil ?_
        refine G.then_n ?_
        refine G.condF rfl ?_
        refine G.exit ?_
        refine G.then_e ?_
        refine G.then_e ?_
        refine G.blk_e ?_
        refine G.then_n ?_
        exact G.meetK (ω) (by omega) ⟨rfl, rfl, rfl, rfl, trivial⟩ (by (repeat (first | exact Picks.nil | (apply Picks.cons; (repeat (first | exact Pick.here | apply Pick.there)))))) (by ((repeat (apply Have.cons; (repeat (first | exact Pick.here | apply Pick.there)))); apply Have.base; repeat (first | exact Suff.here | apply Suff.there)))
    · rintro ω2 hw2
      refine G.seq ?_
      refine G.region ?_
      refine G.q (Quiet.move rfl) rfl ?_
      refine G.op (OpSpec.call Tryd.func12 rfl rfl (vs := [_, _]) rfl (wdrop_spec t8 ω2 3 (by omega))) (by (repeat (first | exact Picks.nil | (apply Picks.cons; (repeat (first | exact Pick.here | apply Pick.there)))))) rfl ?nx79
      rintro v L' ⟨rfl, rfl⟩
      refine G.nil ?_
      refine G.then_n ?_
      refine G.seq ?_
      refine G.seq ?_
      refine G.region ?_
      refine G.q (Quiet.move rfl) rfl ?_
      refine G.op (OpSpec.call Tryd.func10 rfl rfl (vs := [_, _]) rfl (wcount_spec t8 (dropW ω2 3) 3)) (by (repeat (first | exact Picks.nil | (apply Picks.cons; (repeat (first | exact Pick.here | apply Pick.there)))))) rfl ?nx82
      rintro v L' ⟨rfl, rfl⟩; rw [cnt_none drop_not]
      refine G.q (Quiet.as (v' := .bool false) (by rfl) (Quiet.int rfl rfl rfl)) rfl ?_
      refine G.nil ?_
      refine G.then_n ?_
      refine G.condF rfl ?_
      refine G.skip ?_
      refine G.then_n ?_
      refine G.seq ?_
      refine G.seq ?_
      have hdl : (dropW ω2 3).length ≤ 120 := Nat.le_trans (List.length_filter_le _ _) hw2
      refine G.region ?_
      refine G.q (Quiet.assign rfl) rfl ?_
      refine G.nil ?_
      refine G.then_n ?_
      refine G.block ?_
      refine G.loopK (ι := Nat × (List Wt)) (fun q E => (12, vint q.1) :: E) (fun q => [tbR t8 q.2, tbR t9 q.2]) (fun q => q.1 ≤ es.length ∧ q.2.length ≤ 120 ∧ ∀ w ∈ q.2, w.1 ≠ 3) (fun q => es.length - q.1) (0, dropW ω2 3) (ts := [2, 8, 9]) (.cons rfl (.cons rfl (.cons rfl (.nil)))) (⟨Nat.zero_le _, hdl, drop_not⟩) ⟨rfl, rfl, rfl, rfl, trivial⟩ (by (repeat (first | exact Picks.nil | (apply Picks.cons; (repeat (first | exact Pick.here | apply Pick.there)))))) ?_
      rintro ⟨i, ω⟩ ⟨hi, hwl, h3⟩
      dsimp only
      dsimp only at hi hwl h3
      refine G.seq ?_
      refine G.seq ?_
      refine G.region ?_
      refine G.q (Quiet.move rfl) rfl ?_
      refine G.q (Quiet.move rfl) rfl ?_
      refine G.q (Quiet.slen rfl Tryd.underlying23 rfl) rfl ?_
      refine G.q (Quiet.int rfl rfl rfl) rfl ?_
      refine G.nil ?_
      refine G.then_n ?_
      refine G.condD rfl (fun h100 => ?_) (fun h100 => ?_)
      · have hi2 : i < es.length := by omega
        have hp1 := he.paths _ (List.getElem_mem hi2)
        refine G.rdShape (p := p) he.cells (by (repeat (first | exact Pick.here | apply Pick.there))) (by omega) fun be oe e0 => ?_
        subst e0
        refine G.skip ?_
        refine G.then_n ?_
        refine G.seq ?_
        refine G.block ?_
        refine G.seq ?_
        refine G.region ?_
        refine G.q (Quiet.move rfl) rfl ?_
        refine G.q (Quiet.move rfl) rfl ?_
        refine G.q (Quiet.move rfl) rfl ?_
        refine G.q (Quiet.indexAddr rfl rfl el_23 (by omega)) rfl ?_
        refine G.q (Quiet.loadRdA (sz := 3) (j := i * 3) (k := 3) (p := p) (vs := evC es[i]) rfl ag_35 (by (repeat (first | exact Pick.here | apply Pick.there))) he.cells (by simp) (by omega) (by omega) (flatMap_at (f := evC) (sz := 3) (fun _ _ => rfl) (by omega))) rfl ?_
        refine G.op (OpSpec.buildSlice (vs := [_]) el_23 ze_35 rfl rfl rfl rfl (by first | (simp [Value.cells]; done) | (intro v hv; simp only [List.mem_cons, List.not_mem_nil, or_false] at hv; subst hv; rfl)) (by decide)) (by (repeat (first | exact Picks.nil | (apply Picks.cons; (repeat (first | exact Pick.here | apply Pick.there)))))) rfl ?nx95
        rintro v L' ⟨be21, rfl, rfl⟩
        refine G.slMakeN 3 1 (b := be21) (xs := ([es[i]] : List Ev).flatMap evC) (by (repeat (first | exact Pick.here | apply Pick.there))) (by simp [evC, Value.cells]) rfl ?_
        refine G.op (OpSpec.call Tryd.func11 rfl rfl (vs := [_, _]) rfl (wfire_spec t8 ω _ [es[i]] (slR 35 3 (.slice (some ⟨be21, 0, none⟩) 1 1) 1 (([es[i]] : List Ev).flatMap evC)) (fun h hp => slR_rd hp) (by omega) (by simp))) (by (repeat (first | exact Picks.nil | (apply Picks.cons; (repeat (first | exact Pick.here | apply Pick.there)))))) rfl ?nx97
        rintro v L' ⟨a21, c21, rfl, rfl⟩
        refine G.q (Quiet.assign rfl) rfl ?_
        refine G.nil ?_
        refine G.then_n ?_
        refine G.seq ?_
        refine G.region ?_
        refine G.q (Quiet.move rfl) rfl ?_
        refine G.q (Quiet.move rfl) rfl ?_
        refine G.q (Quiet.move rfl) rfl ?_
        refine G.q (Quiet.indexAddr rfl rfl el_23 (by omega)) rfl ?_
        refine G.q (Quiet.loadRdA (sz := 3) (j := i * 3) (k := 3) (p := p) (vs := evC es[i]) rfl ag_35 (by (repeat (first | exact Pick.here | apply Pick.there))) he.cells (by simp) (by omega) (by omega) (flatMap_at (f := evC) (sz := 3) (fun _ _ => rfl) (by omega))) rfl ?_
        refine G.op (OpSpec.buildSlice (vs := [_]) el_23 ze_35 rfl rfl rfl rfl (by first | (simp [Value.cells]; done) | (intro v hv; simp only [List.mem_cons, List.not_mem_nil, or_false] at hv; subst hv; rfl)) (by decide)) (by (repeat (first | exact Picks.nil | (apply Picks.cons; (repeat (first | exact Pick.here | apply Pick.there)))))) rfl ?nx104
        rintro v L' ⟨be22, rfl, rfl⟩
        refine G.slMakeN 3 1 (b := be22) (xs := ([es[i]] : List Ev).flatMap evC) (by (repeat (first | exact Pick.here | apply Pick.there))) (by simp [evC, Value.cells]) rfl ?_
        refine G.op (OpSpec.call Tryd.func11 rfl rfl (vs := [_, _]) rfl (wfire_spec t9 ω _ [es[i]] (slR 35 3 (.slice (some ⟨be22, 0, none⟩) 1 1) 1 (([es[i]] : List Ev).flatMap evC)) (fun h hp => slR_rd hp) (by omega) (by simp))) (by (repeat (first | exact Picks.nil | (apply Picks.cons; (repeat (first | exact Pick.here | apply Pick.there)))))) rfl ?nx106
        rintro v L' ⟨a22, c22, rfl, rfl⟩
        refine G.q (Quiet.assign rfl) rfl ?_
        refine G.nil ?_
        refine G.then_n ?_
        refine G.seq ?_
        have hol : (fireL ω [es[i]]).2.length ≤ 1048576 * 1048576 := by have := (fire_len ω [es[i]] 1).2; unfold fireL; simp at this ⊢; omega
        refine G.region ?_
        refine G.q (Quiet.move rfl) rfl ?_
        refine G.q (Quiet.move rfl) rfl ?_
        refine G.op (OpSpec.call Tryd.func13 rfl rfl (vs := [_, _]) rfl (told_spec (fireL ω [es[i]]).2 (fireL ω [es[i]]).2 _ _ (by omega))) (by (repeat (first | exact Picks.nil | (apply Picks.cons; (repeat (first | exact Pick.here | apply Pick.there)))))) rfl ?nx108
        rintro v L' ⟨rfl, rfl⟩; rw [decide_eq_true rfl]
        refine G.q (Quiet.not rfl) rfl ?_
        refine G.nil ?_
        refine G.then_n ?_
        refine G.condF rfl ?_
        refine G.skip ?_
        refine G.blk_n ?_
        refine G.then_n ?_
        refine G.region ?_
        refine G.q (Quiet.move rfl) rfl ?_
        refine G.q (Quiet.add rfl rfl (by omega)) rfl ?_
        refine G.q (Quiet.assign rfl) rfl ?_
        refine G.nil ?_
        refine G.then_n ?_
        have hfl := (fire_tbl ω es[i]).1
        exact G.roundK ((i + 1, (fireL ω [es[i]]).1)) (⟨by dsimp only; omega, by dsimp only; rw [hfl]; exact Nat.le_trans (left_len _ _ _) hwl, by dsimp only; rw [hfl]; exact fun w hw => h3 w (left_mem hw)⟩) (by dsimp only; omega) ⟨rfl, rfl, rfl, rfl, trivial⟩ (by (repeat (first | exact Picks.nil | (apply Picks.cons; (repeat (first | exact Pick.here | apply Pick.there)))))) (by ((repeat (apply Have.cons; (repeat (first | exact Pick.here | apply Pick.there)))); apply Have.base; repeat (first | exact Suff.here | apply Suff.there)))
      · obtain ⟨hg1, hg2⟩ := gone_last (s := 3) (by decide) h3
        refine G.exit ?_
        refine G.then_e ?_
        refine G.then_e ?_
        refine G.blk_e ?_
        refine G.then_n ?_
        refine G.seq ?_
        refine G.region ?_
        refine G.q (Quiet.move rfl) rfl ?_
        refine G.op (OpSpec.call Tryd.func9 rfl rfl (vs := [_, _, _, _]) rfl (wadd_spec t8 ω 3 1 wA (by decide) (by decide))) (by (repeat (first | exact Picks.nil | (apply Picks.cons; (repeat (first | exact Pick.here | apply Pick.there)))))) rfl ?nx114
        rintro v L' ⟨rfl, rfl⟩; rw [hg1]; dsimp only
        refine G.q (Quiet.as (v' := .bool true) (by rfl) (Quiet.int rfl rfl rfl)) rfl ?_
        refine G.q (Quiet.move rfl) rfl ?_
        refine G.grun (t := 124) rfl rfl rfl ?_
        refine G.q (Quiet.move rfl) rfl ?_
        refine G.grun (t := 124) rfl rfl rfl ?_
        refine G.op (OpSpec.call Tryd.func10 rfl rfl (vs := [_, _]) rfl (wcount_spec t8 (ω ++ [(3, (1, wA))]) 3)) (by (repeat (first | exact Picks.nil | (apply Picks.cons; (repeat (first | exact Pick.here | apply Pick.there)))))) rfl ?nx118
        rintro v L' ⟨rfl, rfl⟩; rw [hg2]
        refine G.grun (t := 124) rfl rfl rfl ?_
        refine G.q (Quiet.as (v' := .bool true) (by rfl) (Quiet.int rfl rfl rfl)) rfl ?_
        refine G.q (Quiet.pickT rfl rfl) rfl ?_
        refine G.q (Quiet.assign rfl) rfl ?_
        refine G.nil ?_
        refine G.then_n ?_
        refine G.ret ?_
        exact G.done (l := [.tmp 6]) rfl rfl ⟨rfl, rfl⟩ (by (repeat (first | exact Picks.nil | (apply Picks.cons; (repeat (first | exact Pick.here | apply Pick.there)))))) (by (repeat (first | exact Suff.here | apply Suff.there)))

set_option maxRecDepth 100000 in
theorem wapart11_spec (va vb ve : Value) (xs ys : List Arm) (es : List Ev) (p : HP) (ha : ArmsA p va xs) (hb : ArmsA p vb ys) (he : EvsA p ve es) : Fn Tryd.prog 4 #[va, vb, ve] [p] fun v L => v = .bool true ∧ L = [p] := by
  refine Fn.intro (vs := [va, vb, ve]) Tryd.func4 rfl rfl ?_
  intro F W
  refine G.rdAny (p := p) ha.cells (by (repeat (first | exact Pick.here | apply Pick.there))) fun aa ca e0 _ => ?_
  subst e0
  have hla := ha.len
  refine G.rdAny (p := p) hb.cells (by (repeat (first | exact Pick.here | apply Pick.there))) fun ab cb e0 _ => ?_
  subst e0
  have hlb := hb.len
  refine G.rdAny (p := p) he.cells (by (repeat (first | exact Pick.here | apply Pick.there))) fun ae ce e0 _ => ?_
  subst e0
  have hle := he.len
  refine G.seq ?_
  refine G.region ?_
  refine G.q (Quiet.assign rfl) rfl ?_
  refine G.nil ?_
  refine G.then_n ?_
  refine G.seq ?_
  refine G.region ?_
  refine G.op (OpSpec.call Tryd.func7 rfl rfl (vs := []) rfl (awake11_spec)) (by (repeat (first | exact Picks.nil | (apply Picks.cons; (repeat (first | exact Pick.here | apply Pick.there)))))) rfl ?nx2
  rintro v L' ⟨rfl, rfl⟩
  refine G.q (Quiet.assign rfl) rfl ?_
  refine G.nil ?_
  refine G.then_n ?_
  refine G.seq ?_
  refine G.region ?_
  refine G.op (OpSpec.call Tryd.func8 rfl rfl (vs := []) rfl (wnew_spec)) (by (repeat (first | exact Picks.nil | (apply Picks.cons; (repeat (first | exact Pick.here | apply Pick.there)))))) rfl ?nx4
  rintro v L' ⟨t8, rfl, rfl⟩
  refine G.q (Quiet.assign rfl) rfl ?_
  refine G.nil ?_
  refine G.then_n ?_
  refine G.seq ?_
  refine G.region ?_
  refine G.op (OpSpec.call Tryd.func8 rfl rfl (vs := []) rfl (wnew_spec)) (by (repeat (first | exact Picks.nil | (apply Picks.cons; (repeat (first | exact Pick.here | apply Pick.there)))))) rfl ?nx6
  rintro v L' ⟨t9, rfl, rfl⟩
  refine G.q (Quiet.assign rfl) rfl ?_
  refine G.nil ?_
  refine G.then_n ?_
  refine G.seq ?_
  refine G.seq ?_
  refine G.region ?_
  refine G.q (Quiet.move rfl) rfl ?_
  refine G.q (Quiet.not rfl) rfl ?_
  refine G.q (Quiet.move rfl) rfl ?_
  refine G.grun (t := 23) rfl rfl rfl ?_
  refine G.q (Quiet.move rfl) rfl ?_
  refine G.grun (t := 23) rfl rfl rfl ?_
  refine G.q (Quiet.as (v' := .bool false) (by rfl) (Quiet.ptreq rfl rfl Tryd.underlying25)) rfl ?_
  refine G.q (Quiet.pickF rfl rfl) rfl ?_
  refine G.q (Quiet.move rfl) rfl ?_
  refine G.grun (t := 27) rfl rfl rfl ?_
  refine G.q (Quiet.move rfl) rfl ?_
  refine G.grun (t := 27) rfl rfl rfl ?_
  refine G.q (Quiet.as (v' := .bool false) (by rfl) (Quiet.ptreq rfl rfl Tryd.underlying25)) rfl ?_
  refine G.q (Quiet.pickF rfl rfl) rfl ?_
  refine G.nil ?_
  refine G.then_n ?_
  refine G.condF rfl ?_
  refine G.skip ?_
  refine G.then_n ?_
  refine G.seq ?_
  refine G.joinK (ι := List Wt) (fun q E => E) (fun q => [tbR t8 q, tbR t9 q]) (fun q => q.length ≤ 60 ∧ ∀ w ∈ q, w.1 = 5) (pre := [tbR t8 [], tbR t9 []]) (ts := [1, 2, 8, 9]) (.cons rfl (.cons rfl (.cons rfl (.cons rfl (.nil))))) (by (repeat (first | exact Picks.nil | (apply Picks.cons; (repeat (first | exact Pick.here | apply Pick.there)))))) ?_ ?_
  · refine G.seq ?_
    refine G.region ?_
    refine G.q (Quiet.assign rfl) rfl ?_
    refine G.nil ?_
    refine G.then_n ?_
    refine G.block ?_
    refine G.loopK (ι := Nat × (List Wt)) (fun q E => (10, vint q.1) :: E) (fun q => [tbR t8 q.2, tbR t9 q.2]) (fun q => q.1 ≤ xs.length ∧ q.1 ≤ 60 ∧ q.2.length ≤ q.1 ∧ ∀ w ∈ q.2, w.1 = 5) (fun q => xs.length - q.1) (0, []) (ts := [0, 1, 2, 8, 9]) (.cons rfl (.cons rfl (.cons rfl (.cons rfl (.cons rfl (.nil)))))) (⟨Nat.zero_le _, Nat.zero_le _, Nat.zero_le _, by simp⟩) ⟨rfl, rfl, rfl, rfl, rfl, rfl, trivial⟩ (by (repeat (first | exact Picks.nil | (apply Picks.cons; (repeat (first | exact Pick.here | apply Pick.there)))))) ?_
    rintro ⟨i, ω⟩ ⟨hi, hi60, hwl, h3⟩
    dsimp only
    dsimp only at hi hi60 hwl h3
    refine G.seq ?_
    refine G.seq ?_
    refine G.region ?_
    refine G.q (Quiet.move rfl) rfl ?_
    refine G.q (Quiet.move rfl) rfl ?_
    refine G.q (Quiet.slen rfl Tryd.underlying22 rfl) rfl ?_
    refine G.q (Quiet.int rfl rfl rfl) rfl ?_
    refine G.q (Quiet.move rfl) rfl ?_
    refine G.dec (t := 35) rfl (fun h7_35 => ?_) (fun h7_35 => ?_)
    · refine G.kDT (t := 34) rfl h7_35 ?_
      refine G.grun (t := 35) rfl rfl rfl ?_
      refine G.q (Quiet.move rfl) rfl ?_
      refine G.grun (t := 35) rfl rfl rfl ?_
      refine G.q (Quiet.int rfl rfl rfl) rfl ?_
      refine G.q (Quiet.pickT rfl rfl) rfl ?_
      refine G.nil ?_
      refine G.then_n ?_
      refine G.condD rfl (fun h38 => ?_) (fun h38 => ?_)
      · have hi2 : i < xs.length := by omega
        have hp1 := ha.paths _ (List.getElem_mem hi2)
        refine G.rdShape (p := p) ha.cells (by (repeat (first | exact Pick.here | apply Pick.there))) (by omega) fun ba oa e0 => ?_
        subst e0
        refine G.skip ?_
        refine G.then_n ?_
        refine G.seq ?_
        refine G.block ?_
        refine G.seq ?_
        refine G.draw [11, 23] [[0, 1, 2, 3, 4, 5, 6, 7, 8, 9, 10, 12, 13, 14, 15, 16, 17, 18, 19, 20, 21, 22, 11], [23], [24]] mixed (by kernel_rfl) ?_
        refine Phases.go [p] (by (repeat (first | exact Picks.nil | (apply Picks.cons; (repeat (first | exact Pick.here | apply Pick.there)))))) ?_
        refine D.qw [11] rfl (by kernel_rfl) (Quiet.move rfl) ?_
        refine D.qw [3, 4, 5, 11] rfl (by kernel_rfl) (Quiet.move rfl) ?_
        refine D.qw [3, 4, 5, 11] rfl (by kernel_rfl) (Quiet.move rfl) ?_
        refine D.qw [4, 5, 11] rfl (by kernel_rfl) (Quiet.indexAddr rfl rfl el_22 (by omega)) ?_
        refine D.qw [5, 11] rfl (by kernel_rfl) (Quiet.fieldAddr rfl fo_30_0) ?_
        refine D.qw [11] rfl (by kernel_rfl) (Quiet.loadRd (sz := 5) (j := i * 5 + 0) (p := p) rfl ag_3 (by (repeat (first | exact Pick.here | apply Pick.there))) ha.cells (by omega) ((arm_cell (l := xs) (i := i) (k := 0) (by omega) (by decide)).trans rfl)) ?_
        refine D.qw [8, 9, 10, 11] rfl (by kernel_rfl) (Quiet.move rfl) ?_
        refine D.qw [8, 9, 10, 11] rfl (by kernel_rfl) (Quiet.move rfl) ?_
        refine D.qw [9, 10, 11] rfl (by kernel_rfl) (Quiet.indexAddr rfl rfl el_22 (by omega)) ?_
        refine D.qw [10, 11] rfl (by kernel_rfl) (Quiet.fieldAddr rfl fo_30_1) ?_
        refine D.qw [11] rfl (by kernel_rfl) (Quiet.loadRd (sz := 5) (j := i * 5 + 1) (p := p) rfl ag_9 (by (repeat (first | exact Pick.here | apply Pick.there))) ha.cells (by omega) ((arm_cell (l := xs) (i := i) (k := 1) (by omega) (by decide)).trans rfl)) ?_
        refine D.q rfl (by kernel_rfl) (Quiet.move rfl) ?_
        refine D.q rfl (by kernel_rfl) (Quiet.move rfl) ?_
        refine D.q rfl (by kernel_rfl) (Quiet.move rfl) ?_
        refine D.q rfl (by kernel_rfl) (Quiet.indexAddr rfl rfl el_22 (by omega)) ?_
        refine D.q rfl (by kernel_rfl) (Quiet.fieldAddr rfl fo_30_0) ?_
        refine D.q rfl (by kernel_rfl) (Quiet.loadRd (sz := 5) (j := i * 5 + 0) (p := p) rfl ag_3 (by (repeat (first | exact Pick.here | apply Pick.there))) ha.cells (by omega) ((arm_cell (l := xs) (i := i) (k := 0) (by omega) (by decide)).trans rfl)) ?_
        refine D.q rfl (by kernel_rfl) (Quiet.move rfl) ?_
        refine D.q rfl (by kernel_rfl) (Quiet.move rfl) ?_
        refine D.q rfl (by kernel_rfl) (Quiet.indexAddr rfl rfl el_22 (by omega)) ?_
        refine D.q rfl (by kernel_rfl) (Quiet.fieldAddr rfl fo_30_1) ?_
        refine D.q rfl (by kernel_rfl) (Quiet.loadRd (sz := 5) (j := i * 5 + 1) (p := p) rfl ag_9 (by (repeat (first | exact Pick.here | apply Pick.there))) ha.cells (by omega) ((arm_cell (l := xs) (i := i) (k := 1) (by omega) (by decide)).trans rfl)) ?_
        refine D.h rfl (by kernel_rfl) (OpSpec.call Tryd.func9 rfl rfl (vs := [_, _, _, _]) rfl (wadd_spec t8 ω 5 xs[i].1 xs[i].2.1 (by first | decide | omega) (by first | assumption | decide))) (by (repeat (first | exact Picks.nil | (apply Picks.cons; (repeat (first | exact Pick.here | apply Pick.there)))))) ?nx40
        rintro v L' ⟨rfl, rfl⟩
        refine D.ph ?_
        refine Phases.go [] (by (repeat (first | exact Picks.nil | (apply Picks.cons; (repeat (first | exact Pick.here | apply Pick.there)))))) ?_
        refine D.h rfl (by kernel_rfl) (OpSpec.call Tryd.func9 rfl rfl (vs := [_, _, _, _]) rfl (wadd_spec t9 ω 5 xs[i].1 xs[i].2.1 (by first | decide | omega) (by first | assumption | decide))) (by (repeat (first | exact Picks.nil | (apply Picks.cons; (repeat (first | exact Pick.here | apply Pick.there)))))) ?nx42
        rintro v L' ⟨rfl, rfl⟩
        refine D.ph ?_
        refine Phases.go [] (by (repeat (first | exact Picks.nil | (apply Picks.cons; (repeat (first | exact Pick.here | apply Pick.there)))))) ?_
        refine D.qw [] rfl (by kernel_rfl) (Quiet.as (v' := .bool false) (by simp) (Quiet.int rfl rfl rfl)) ?_
        refine D.ph ?_
        refine Phases.fin ?_
        refine G.then_n ?_
        refine G.condF rfl ?_
        refine G.skip ?_
        refine G.blk_n ?_
        refine G.then_n ?_
        refine G.region ?_
        refine G.q (Quiet.move rfl) rfl ?_
        refine G.q (Quiet.add rfl rfl (by omega)) rfl ?_
        refine G.q (Quiet.assign rfl) rfl ?_
        refine G.nil ?_
        refine G.then_n ?_
        exact G.roundK ((i + 1, (addW ω 5 xs[i].1 xs[i].2.1).1)) (⟨by dsimp only; omega, by dsimp only; omega, by dsimp only; have := add_len ω 5 xs[i].1 xs[i].2.1; omega, fun w hw => (add_mem hw).elim (h3 w) (fun e => by rw [e])⟩) (by dsimp only; omega) ⟨rfl, rfl, rfl, rfl, rfl, rfl, trivial⟩ (by (repeat (first | exact Picks.nil | (apply Picks.cons; (repeat (first | exact Pick.here | apply Pick.there)))))) (by ((repeat (apply Have.cons; (repeat (first | exact Pick.here | apply Pick.there)))); apply Have.base; repeat (first | exact Suff.here | apply Suff.there)))
      · refine G.exit ?_
        refine G.then_e ?_
        refine G.then_e ?_
        refine G.blk_e ?_
        refine G.then_n ?_
        exact G.meetK (ω) (⟨by omega, h3⟩) ⟨rfl, rfl, rfl, rfl, trivial⟩ (by (repeat (first | exact Picks.nil | (apply Picks.cons; (repeat (first | exact Pick.here | apply Pick.there)))))) (by ((repeat (apply Have.cons; (repeat (first | exact Pick.here | apply Pick.there)))); apply Have.base; repeat (first | exact Suff.here | apply Suff.there)))
    · refine G.kDF (t := 34) rfl h7_35 ?_
      refine G.gskip (t := 35) rfl rfl rfl rfl ?_
      refine G.gskip (t := 35) rfl rfl rfl rfl ?_
      refine G.q (Quiet.pickF rfl rfl) rfl ?_
      refine G.nil ?_
      refine G.then_n ?_
      refine G.condF rfl ?_
      refine G.exit ?_
      refine G.then_e ?_
      refine G.then_e ?_
      refine G.blk_e ?_
      refine G.then_n ?_
      exact G.meetK (ω) (⟨by omega, h3⟩) ⟨rfl, rfl, rfl, rfl, trivial⟩ (by (repeat (first | exact Picks.nil | (apply Picks.cons; (repeat (first | exact Pick.here | apply Pick.there)))))) (by ((repeat (apply Have.cons; (repeat (first | exact Pick.here | apply Pick.there)))); apply Have.base; repeat (first | exact Suff.here | apply Suff.there)))
  · rintro ω1 ⟨hw1, h31⟩
    refine G.seq ?_
    refine G.tbCast (t := t8) (ω' := onlyW ω1 5) (by (repeat (first | exact Pick.here | apply Pick.there))) (only_all h31) ?_
    refine G.joinK (ι := List Wt) (fun q E => E) (fun q => [tbR t8 (onlyW q 5), tbR t9 q]) (fun q => q.length ≤ 120 ∧ ∀ w ∈ q, 1 ≤ w.1) (pre := [tbR t8 (onlyW ω1 5), tbR t9 ω1]) (ts := [2, 8, 9]) (.cons rfl (.cons rfl (.cons rfl (.nil)))) (by (repeat (first | exact Picks.nil | (apply Picks.cons; (repeat (first | exact Pick.here | apply Pick.there)))))) ?_ ?_
    · refine G.seq ?_
      refine G.region ?_
      refine G.q (Quiet.assign rfl) rfl ?_
      refine G.nil ?_
      refine G.then_n ?_
      refine G.block ?_
      refine G.loopK (ι := Nat × (List Wt)) (fun q E => (11, vint q.1) :: E) (fun q => [tbR t8 (onlyW q.2 5), tbR t9 q.2]) (fun q => q.1 ≤ ys.length ∧ q.1 ≤ 60 ∧ q.2.length ≤ 60 + q.1 ∧ ∀ w ∈ q.2, 1 ≤ w.1) (fun q => ys.length - q.1) (0, ω1) (ts := [1, 2, 8, 9]) (.cons rfl (.cons rfl (.cons rfl (.cons rfl (.nil))))) (⟨Nat.zero_le _, Nat.zero_le _, hw1, fun w hw => by rw [h31 w hw]; decide⟩) ⟨rfl, rfl, rfl, rfl, rfl, trivial⟩ (by (repeat (first | exact Picks.nil | (apply Picks.cons; (repeat (first | exact Pick.here | apply Pick.there)))))) ?_
      rintro ⟨i, ω⟩ ⟨hi, hi60, hwl, hpos⟩
      dsimp only
      dsimp only at hi hi60 hwl hpos
      refine G.seq ?_
      refine G.seq ?_
      refine G.region ?_
      refine G.q (Quiet.move rfl) rfl ?_
      refine G.q (Quiet.move rfl) rfl ?_
      refine G.q (Quiet.slen rfl Tryd.underlying22 rfl) rfl ?_
      refine G.q (Quiet.int rfl rfl rfl) rfl ?_
      refine G.q (Quiet.move rfl) rfl ?_
      refine G.dec (t := 70) rfl (fun h12_70 => ?_) (fun h12_70 => ?_)
      · refine G.kDT (t := 69) rfl h12_70 ?_
        refine G.grun (t := 70) rfl rfl rfl ?_
        refine G.q (Quiet.move rfl) rfl ?_
        refine G.grun (t := 70) rfl rfl rfl ?_
        refine G.q (Quiet.int rfl rfl rfl) rfl ?_
        refine G.q (Quiet.pickT rfl rfl) rfl ?_
        refine G.nil ?_
        refine G.then_n ?_
        refine G.condD rfl (fun h73 => ?_) (fun h73 => ?_)
        · have hi2 : i < ys.length := by omega
          have hp1 := hb.paths _ (List.getElem_mem hi2)
          refine G.rdShape (p := p) hb.cells (by (repeat (first | exact Pick.here | apply Pick.there))) (by omega) fun bb ob e0 => ?_
          subst e0
          refine G.skip ?_
          refine G.then_n ?_
          refine G.seq ?_
          refine G.block ?_
          refine G.seq ?_
          refine G.draw [14] [[0, 1, 2, 3, 4, 5, 6, 7, 8, 9, 10, 11, 12, 13, 14]] mixed (by kernel_rfl) ?_
          refine Phases.go [] (by (repeat (first | exact Picks.nil | (apply Picks.cons; (repeat (first | exact Pick.here | apply Pick.there)))))) ?_
          refine D.qw [14] rfl (by kernel_rfl) (Quiet.move rfl) ?_
          refine D.qw [2, 3, 14] rfl (by kernel_rfl) (Quiet.move rfl) ?_
          refine D.qw [3, 14] rfl (by kernel_rfl) (Quiet.remE rfl rfl (by omega) (by omega)) ?_
          refine D.qw [14] rfl (by kernel_rfl) (Quiet.add rfl rfl (by omega)) ?_
          refine D.qw [6, 7, 8, 14] rfl (by kernel_rfl) (Quiet.move rfl) ?_
          refine D.qw [6, 7, 8, 14] rfl (by kernel_rfl) (Quiet.move rfl) ?_
          refine D.qw [7, 8, 14] rfl (by kernel_rfl) (Quiet.indexAddr rfl rfl el_22 (by omega)) ?_
          refine D.qw [8, 14] rfl (by kernel_rfl) (Quiet.fieldAddr rfl fo_30_0) ?_
          refine D.qw [14] rfl (by kernel_rfl) (Quiet.loadRd (sz := 5) (j := i * 5 + 0) (p := p) rfl ag_3 (by (repeat (first | exact Pick.here | apply Pick.there))) hb.cells (by omega) ((arm_cell (l := ys) (i := i) (k := 0) (by omega) (by decide)).trans rfl)) ?_
          refine D.qw [11, 12, 13, 14] rfl (by kernel_rfl) (Quiet.move rfl) ?_
          refine D.qw [11, 12, 13, 14] rfl (by kernel_rfl) (Quiet.move rfl) ?_
          refine D.qw [12, 13, 14] rfl (by kernel_rfl) (Quiet.indexAddr rfl rfl el_22 (by omega)) ?_
          refine D.qw [13, 14] rfl (by kernel_rfl) (Quiet.fieldAddr rfl fo_30_1) ?_
          refine D.qw [14] rfl (by kernel_rfl) (Quiet.loadRd (sz := 5) (j := i * 5 + 1) (p := p) rfl ag_9 (by (repeat (first | exact Pick.here | apply Pick.there))) hb.cells (by omega) ((arm_cell (l := ys) (i := i) (k := 1) (by omega) (by decide)).trans rfl)) ?_
          refine D.h rfl (by kernel_rfl) (OpSpec.call Tryd.func9 rfl rfl (vs := [_, _, _, _]) rfl (wadd_spec t9 ω (1 + (i : Int) % 9) ys[i].1 ys[i].2.1 (by first | decide | omega) (by first | assumption | decide))) (by (repeat (first | exact Picks.nil | (apply Picks.cons; (repeat (first | exact Pick.here | apply Pick.there)))))) ?nx69
          rintro v L' ⟨rfl, rfl⟩
          refine D.ph ?_
          refine Phases.fin ?_
          refine G.then_n ?_
          refine G.seq ?_
          refine G.region ?_
          refine G.q (Quiet.move rfl) rfl ?_
          refine G.q (Quiet.remE rfl rfl (by omega) (by omega)) rfl ?_
          refine G.q (Quiet.int rfl rfl rfl) rfl ?_
          refine G.nil ?_
          refine G.then_n ?_
          refine G.condD rfl (fun h93 => ?_) (fun h93 => ?_)
          · refine G.draw [11] [[0, 1, 2, 3, 4, 5, 6, 7, 8, 9, 10, 11]] mixed (by kernel_rfl) ?_
            refine Phases.go [] (by (repeat (first | exact Picks.nil | (apply Picks.cons; (repeat (first | exact Pick.here | apply Pick.there)))))) ?_
            refine D.qw [11] rfl (by kernel_rfl) (Quiet.move rfl) ?_
            refine D.qw [3, 4, 5, 11] rfl (by kernel_rfl) (Quiet.move rfl) ?_
            refine D.qw [3, 4, 5, 11] rfl (by kernel_rfl) (Quiet.move rfl) ?_
            refine D.qw [4, 5, 11] rfl (by kernel_rfl) (Quiet.indexAddr rfl rfl el_22 (by omega)) ?_
            refine D.qw [5, 11] rfl (by kernel_rfl) (Quiet.fieldAddr rfl fo_30_0) ?_
            refine D.qw [11] rfl (by kernel_rfl) (Quiet.loadRd (sz := 5) (j := i * 5 + 0) (p := p) rfl ag_3 (by (repeat (first | exact Pick.here | apply Pick.there))) hb.cells (by omega) ((arm_cell (l := ys) (i := i) (k := 0) (by omega) (by decide)).trans rfl)) ?_
            refine D.qw [8, 9, 10, 11] rfl (by kernel_rfl) (Quiet.move rfl) ?_
            refine D.qw [8, 9, 10, 11] rfl (by kernel_rfl) (Quiet.move rfl) ?_
            refine D.qw [9, 10, 11] rfl (by kernel_rfl) (Quiet.indexAddr rfl rfl el_22 (by omega)) ?_
            refine D.qw [10, 11] rfl (by kernel_rfl) (Quiet.fieldAddr rfl fo_30_1) ?_
            refine D.qw [11] rfl (by kernel_rfl) (Quiet.loadRd (sz := 5) (j := i * 5 + 1) (p := p) rfl ag_9 (by (repeat (first | exact Pick.here | apply Pick.there))) hb.cells (by omega) ((arm_cell (l := ys) (i := i) (k := 1) (by omega) (by decide)).trans rfl)) ?_
            refine D.h rfl (by kernel_rfl) (OpSpec.call Tryd.func9 rfl rfl (vs := [_, _, _, _]) rfl (wadd_spec t8 (onlyW ω 5) 5 ys[i].1 ys[i].2.1 (by first | decide | omega) (by first | assumption | decide))) (by (repeat (first | exact Picks.nil | (apply Picks.cons; (repeat (first | exact Pick.here | apply Pick.there)))))) ?nx85
            rintro v L' ⟨rfl, rfl⟩
            refine D.ph ?_
            refine Phases.fin ?_
            refine G.blk_n ?_
            refine G.then_n ?_
            refine G.region ?_
            refine G.q (Quiet.move rfl) rfl ?_
            refine G.q (Quiet.add rfl rfl (by omega)) rfl ?_
            refine G.q (Quiet.assign rfl) rfl ?_
            refine G.nil ?_
            refine G.then_n ?_
            have hpos' : ∀ w ∈ (addW ω (1 + (i : Int) % 9) ys[i].1 ys[i].2.1).1, 1 ≤ w.1 := fun w hw => (add_mem hw).elim (hpos w) (fun e => by rw [e]; dsimp only; omega)
            refine G.tbCast (t := t8) (ω' := onlyW (addW ω (1 + (i : Int) % 9) ys[i].1 ys[i].2.1).1 5) (by (repeat (first | exact Pick.here | apply Pick.there))) (by rw [show (1 + (i : Int) % 9) = 5 by omega, only_add]) ?_
            exact G.roundK ((i + 1, (addW ω (1 + (i : Int) % 9) ys[i].1 ys[i].2.1).1)) (⟨by dsimp only; omega, by dsimp only; omega, by dsimp only; have := add_len ω (1 + (i : Int) % 9) ys[i].1 ys[i].2.1; omega, hpos'⟩) (by dsimp only; omega) ⟨rfl, rfl, rfl, rfl, rfl, trivial⟩ (by (repeat (first | exact Picks.nil | (apply Picks.cons; (repeat (first | exact Pick.here | apply Pick.there)))))) (by ((repeat (apply Have.cons; (repeat (first | exact Pick.here | apply Pick.there)))); apply Have.base; repeat (first | exact Suff.here | apply Suff.there)))
          · refine G.skip ?_
            refine G.blk_n ?_
            refine G.then_n ?_
            refine G.region ?_
            refine G.q (Quiet.move rfl) rfl ?_
            refine G.q (Quiet.add rfl rfl (by omega)) rfl ?_
            refine G.q (Quiet.assign rfl) rfl ?_
            refine G.nil ?_
            refine G.then_n ?_
            have hpos' : ∀ w ∈ (addW ω (1 + (i : Int) % 9) ys[i].1 ys[i].2.1).1, 1 ≤ w.1 := fun w hw => (add_mem hw).elim (hpos w) (fun e => by rw [e]; dsimp only; omega)
            refine G.tbCast (t := t8) (ω' := onlyW (addW ω (1 + (i : Int) % 9) ys[i].1 ys[i].2.1).1 5) (by (repeat (first | exact Pick.here | apply Pick.there))) (only_out (by omega)) ?_
            exact G.roundK ((i + 1, (addW ω (1 + (i : Int) % 9) ys[i].1 ys[i].2.1).1)) (⟨by dsimp only; omega, by dsimp only; omega, by dsimp only; have := add_len ω (1 + (i : Int) % 9) ys[i].1 ys[i].2.1; omega, hpos'⟩) (by dsimp only; omega) ⟨rfl, rfl, rfl, rfl, rfl, trivial⟩ (by (repeat (first | exact Picks.nil | (apply Picks.cons; (repeat (first | exact Pick.here | apply Pick.there)))))) (by ((repeat (apply Have.cons; (repeat (first | exact Pick.here | apply Pick.there)))); apply Have.base; repeat (first | exact Suff.here | apply Suff.there)))
        · refine G.exit ?_
          refine G.then_e ?_
          refine G.then_e ?_
          refine G.blk_e ?_
          refine G.then_n ?_
          exact G.meetK (ω) (⟨by omega, hpos⟩) ⟨rfl, rfl, rfl, trivial⟩ (by (repeat (first | exact Picks.nil | (apply Picks.cons; (repeat (first | exact Pick.here | apply Pick.there)))))) (by ((repeat (apply Have.cons; (repeat (first | exact Pick.here | apply Pick.there)))); apply Have.base; repeat (first | exact Suff.here | apply Suff.there)))
      · refine G.kDF (t := 69) rfl h12_70 ?_
        refine G.gskip (t := 70) rfl rfl rfl rfl ?_
        refine G.gskip (t := 70) rfl rfl rfl rfl ?_
        refine G.q (Quiet.pickF rfl rfl) rfl ?_
        refine G.nil ?_
        refine G.then_n ?_
        refine G.condF rfl ?_
        refine G.exit ?_
        refine G.then_e ?_
        refine G.then_e ?_
        refine G.blk_e ?_
        refine G.then_n ?_
        exact G.meetK (ω) (⟨by omega, hpos⟩) ⟨rfl, rfl, rfl, trivial⟩ (by (repeat (first | exact Picks.nil | (apply Picks.cons; (repeat (first | exact Pick.here | apply Pick.there)))))) (by ((repeat (apply Have.cons; (repeat (first | exact Pick.here | apply Pick.there)))); apply Have.base; repeat (first | exact Suff.here | apply Suff.there)))
    · rintro ω2 ⟨hw2, hpos2⟩
      refine G.seq ?_
      refine G.seq ?_
      refine G.region ?_
      refine G.q (Quiet.assign rfl) rfl ?_
      refine G.nil ?_
      refine G.then_n ?_
      refine G.block ?_
      refine G.loopK (ι := Nat × (List Wt)) (fun q E => (12, vint q.1) :: E) (fun q => [tbR t8 (onlyW q.2 5), tbR t9 q.2]) (fun q => q.1 ≤ es.length ∧ q.2.length ≤ 120 ∧ ∀ w ∈ q.2, 1 ≤ w.1) (fun q => es.length - q.1) (0, ω2) (ts := [2, 8, 9]) (.cons rfl (.cons rfl (.cons rfl (.nil)))) (⟨Nat.zero_le _, hw2, hpos2⟩) ⟨rfl, rfl, rfl, rfl, trivial⟩ (by (repeat (first | exact Picks.nil | (apply Picks.cons; (repeat (first | exact Pick.here | apply Pick.there)))))) ?_
      rintro ⟨i, ω⟩ ⟨hi, hwl, hpos⟩
      dsimp only
      dsimp only at hi hwl hpos
      have hol := only_len ω 5
      refine G.seq ?_
      refine G.seq ?_
      refine G.region ?_
      refine G.q (Quiet.move rfl) rfl ?_
      refine G.q (Quiet.move rfl) rfl ?_
      refine G.q (Quiet.slen rfl Tryd.underlying23 rfl) rfl ?_
      refine G.q (Quiet.int rfl rfl rfl) rfl ?_
      refine G.nil ?_
      refine G.then_n ?_
      refine G.condD rfl (fun h109 => ?_) (fun h109 => ?_)
      · have hi2 : i < es.length := by omega
        have hp1 := he.paths _ (List.getElem_mem hi2)
        refine G.rdShape (p := p) he.cells (by (repeat (first | exact Pick.here | apply Pick.there))) (by omega) fun be oe e0 => ?_
        subst e0
        have htl := tell_len ω es[i].1 es[i].2.1
        refine G.skip ?_
        refine G.then_n ?_
        refine G.seq ?_
        refine G.block ?_
        refine G.seq ?_
        refine G.region ?_
        refine G.q (Quiet.move rfl) rfl ?_
        refine G.q (Quiet.move rfl) rfl ?_
        refine G.q (Quiet.move rfl) rfl ?_
        refine G.q (Quiet.indexAddr rfl rfl el_23 (by omega)) rfl ?_
        refine G.q (Quiet.loadRdA (sz := 3) (j := i * 3) (k := 3) (p := p) (vs := evC es[i]) rfl ag_35 (by (repeat (first | exact Pick.here | apply Pick.there))) he.cells (by simp) (by omega) (by omega) (flatMap_at (f := evC) (sz := 3) (fun _ _ => rfl) (by omega))) rfl ?_
        refine G.op (OpSpec.buildSlice (vs := [_]) el_23 ze_35 rfl rfl rfl rfl (by first | (simp [Value.cells]; done) | (intro v hv; simp only [List.mem_cons, List.not_mem_nil, or_false] at hv; subst hv; rfl)) (by decide)) (by (repeat (first | exact Picks.nil | (apply Picks.cons; (repeat (first | exact Pick.here | apply Pick.there)))))) rfl ?nx102
        rintro v L' ⟨be20, rfl, rfl⟩
        refine G.slMakeN 3 1 (b := be20) (xs := ([es[i]] : List Ev).flatMap evC) (by (repeat (first | exact Pick.here | apply Pick.there))) (by simp [evC, Value.cells]) rfl ?_
        refine G.op (OpSpec.call Tryd.func11 rfl rfl (vs := [_, _]) rfl (wfire_spec t8 (onlyW ω 5) _ [es[i]] (slR 35 3 (.slice (some ⟨be20, 0, none⟩) 1 1) 1 (([es[i]] : List Ev).flatMap evC)) (fun h hp => slR_rd hp) (by omega) (by simp))) (by (repeat (first | exact Picks.nil | (apply Picks.cons; (repeat (first | exact Pick.here | apply Pick.there)))))) rfl ?nx104
        rintro v L' ⟨a20, c20, rfl, rfl⟩; rw [(only_fire ω 5 es[i]).1]
        refine G.q (Quiet.assign rfl) rfl ?_
        refine G.nil ?_
        refine G.then_n ?_
        refine G.seq ?_
        refine G.region ?_
        refine G.q (Quiet.move rfl) rfl ?_
        refine G.q (Quiet.move rfl) rfl ?_
        refine G.q (Quiet.move rfl) rfl ?_
        refine G.q (Quiet.indexAddr rfl rfl el_23 (by omega)) rfl ?_
        refine G.q (Quiet.loadRdA (sz := 3) (j := i * 3) (k := 3) (p := p) (vs := evC es[i]) rfl ag_35 (by (repeat (first | exact Pick.here | apply Pick.there))) he.cells (by simp) (by omega) (by omega) (flatMap_at (f := evC) (sz := 3) (fun _ _ => rfl) (by omega))) rfl ?_
        refine G.op (OpSpec.buildSlice (vs := [_]) el_23 ze_35 rfl rfl rfl rfl (by first | (simp [Value.cells]; done) | (intro v hv; simp only [List.mem_cons, List.not_mem_nil, or_false] at hv; subst hv; rfl)) (by decide)) (by (repeat (first | exact Picks.nil | (apply Picks.cons; (repeat (first | exact Pick.here | apply Pick.there)))))) rfl ?nx111
        rintro v L' ⟨be21, rfl, rfl⟩
        refine G.slMakeN 3 1 (b := be21) (xs := ([es[i]] : List Ev).flatMap evC) (by (repeat (first | exact Pick.here | apply Pick.there))) (by simp [evC, Value.cells]) rfl ?_
        refine G.op (OpSpec.call Tryd.func11 rfl rfl (vs := [_, _]) rfl (wfire_spec t9 ω _ [es[i]] (slR 35 3 (.slice (some ⟨be21, 0, none⟩) 1 1) 1 (([es[i]] : List Ev).flatMap evC)) (fun h hp => slR_rd hp) (by omega) (by simp))) (by (repeat (first | exact Picks.nil | (apply Picks.cons; (repeat (first | exact Pick.here | apply Pick.there)))))) rfl ?nx113
        rintro v L' ⟨a21, c21, rfl, rfl⟩; rw [(fire_tbl ω es[i]).1, (fire_tbl ω es[i]).2]
        refine G.q (Quiet.assign rfl) rfl ?_
        refine G.nil ?_
        refine G.then_n ?_
        refine G.seq ?_
        refine G.region ?_
        refine G.q (Quiet.assign rfl) rfl ?_
        refine G.nil ?_
        refine G.then_n ?_
        refine G.seq ?_
        refine G.region ?_
        refine G.q (Quiet.assign rfl) rfl ?_
        refine G.nil ?_
        refine G.then_n ?_
        refine G.seq ?_
        refine G.seq ?_
        refine G.region ?_
        refine G.q (Quiet.assign rfl) rfl ?_
        refine G.nil ?_
        refine G.then_n ?_
        refine G.block ?_
        have hovl : ((tellW ω es[i].1 es[i].2.1).map fun x => (x, es[i])).length = (tellW ω es[i].1 es[i].2.1).length := List.length_map _
        refine G.loopK (ι := Nat × Bool) (fun q E => (17, vint q.1) :: (15, .bool q.2) :: (16, vint (lastZ (tellW ω es[i].1 es[i].2.1) q.1)) :: E) (fun q => []) (fun q => q.1 ≤ (tellW ω es[i].1 es[i].2.1).length ∧ q.2 = hasZ (tellW ω es[i].1 es[i].2.1) 5 q.1) (fun q => (tellW ω es[i].1 es[i].2.1).length - q.1) (0, false) (ts := [2, 8, 9, 12, 13, 14, 106, 107, 108, 109, 112, 113, 114, 115, 116, 117, 118, 119, 120, 121, 122, 123, 124, 125]) (.cons rfl (.cons rfl (.cons rfl (.cons rfl (.cons rfl (.cons rfl (.cons rfl (.cons rfl (.cons rfl (.cons rfl (.cons rfl (.cons rfl (.cons rfl (.cons rfl (.cons rfl (.cons rfl (.cons rfl (.cons rfl (.cons rfl (.cons rfl (.cons rfl (.cons rfl (.cons rfl (.cons rfl (.nil))))))))))))))))))))))))) (⟨Nat.zero_le _, rfl⟩) ⟨rfl, rfl, rfl, rfl, rfl, rfl, rfl, rfl, rfl, rfl, rfl, rfl, rfl, rfl, rfl, rfl, rfl, rfl, rfl, rfl, rfl, rfl, rfl, rfl, rfl, rfl, rfl, trivial⟩ (by (repeat (first | exact Picks.nil | (apply Picks.cons; (repeat (first | exact Pick.here | apply Pick.there)))))) ?_
        rintro ⟨j, b⟩ ⟨hj, hb5⟩
        dsimp only
        dsimp only at hj hb5
        refine G.seq ?_
        refine G.seq ?_
        refine G.region ?_
        refine G.q (Quiet.move rfl) rfl ?_
        refine G.q (Quiet.move rfl) rfl ?_
        refine G.q (Quiet.slen rfl Tryd.underlying32 rfl) rfl ?_
        refine G.q (Quiet.int rfl rfl rfl) rfl ?_
        refine G.nil ?_
        refine G.then_n ?_
        refine G.condD rfl (fun h129 => ?_) (fun h129 => ?_)
        · have hj2 : j < (tellW ω es[i].1 es[i].2.1).length := by omega
          have hj3 : j < ((tellW ω es[i].1 es[i].2.1).map fun x => (x, es[i])).length := by omega
          obtain ⟨htc, hte⟩ := told_to (e := es[i]) hj2
          have hlt := last_lt hpos hj2
          refine G.slShape (v := .slice a21 _ c21) (by (repeat (first | exact Pick.here | apply Pick.there))) (by omega) fun bt bt' e0 mbt _ => ?_
          simp only [Value.slice.injEq, true_and] at e0
          obtain ⟨rfl, rfl⟩ := e0
          refine G.skip ?_
          refine G.then_n ?_
          refine G.seq ?_
          refine G.block ?_
          refine G.seq ?_
          refine G.seq ?_
          refine G.draw [] [[0, 1, 2, 3, 4, 5, 6, 7, 8, 9, 10, 11, 12, 13, 14, 15, 16, 17, 18]] mixed (by kernel_rfl) ?_
          refine Phases.go [] (by (repeat (first | exact Picks.nil | (apply Picks.cons; (repeat (first | exact Pick.here | apply Pick.there)))))) ?_
          refine D.qw [2, 3, 4, 6, 7, 8, 9, 10, 11, 12, 13, 14, 15, 16, 17, 18] rfl (by kernel_rfl) (Quiet.move rfl) ?_
          refine D.qw [2, 3, 4, 6, 7, 8, 9, 10, 11, 12, 13, 14, 15, 16, 17, 18] rfl (by kernel_rfl) (Quiet.move rfl) ?_
          refine D.qw [3, 4, 6, 7, 8, 9, 10, 11, 12, 13, 14, 15, 16, 17, 18] rfl (by kernel_rfl) (Quiet.indexAddr rfl rfl el_32 (by omega)) ?_
          refine D.qw [4, 6, 7, 8, 9, 10, 11, 12, 13, 14, 15, 16, 17, 18] rfl (by kernel_rfl) (Quiet.fieldAddr rfl fo_37_0) ?_
          refine D.qw [6, 7, 8, 9, 10, 11, 12, 13, 14, 15, 16, 17, 18] rfl (by kernel_rfl) (Quiet.loadRd (sz := 4) (j := j * 4 + 0) (p := slR 37 4 _ ((tellW ω es[i].1 es[i].2.1).map fun x => (x, es[i])).length (((tellW ω es[i].1 es[i].2.1).map fun x => (x, es[i])).flatMap tldC)) rfl ag_3 (by (repeat (first | exact Pick.here | apply Pick.there))) (fun h hp => slR_rd hp) (by omega) htc) ?_
          refine D.qw [6, 7, 8, 9, 10, 11, 12, 13, 14, 15, 16, 17, 18] rfl (by kernel_rfl) (Quiet.move rfl) ?_
          refine D.qw [7, 8, 9, 10, 11, 12, 13, 14, 15, 16, 17, 18] rfl (by kernel_rfl) (Quiet.as (v' := .bool false) (by exact congrArg Value.bool (decide_eq_false (by omega))) (Quiet.int rfl rfl rfl)) ?_
          refine D.qw [8, 9, 10, 11, 12, 13, 14, 15, 16, 17, 18] rfl (by kernel_rfl) (Quiet.move rfl) ?_
          refine D.gqw [10, 11, 12, 17, 18] (t := 139) rfl rfl rfl (by kernel_rfl) (Quiet.move rfl) ?_
          refine D.gqw [10, 11, 12, 17, 18] (t := 139) rfl rfl rfl (by kernel_rfl) (Quiet.move rfl) ?_
          refine D.gqw [11, 12, 17, 18] (t := 139) rfl rfl rfl (by kernel_rfl) (Quiet.indexAddr rfl rfl el_32 (by omega)) ?_
          refine D.gqw [12, 17, 18] (t := 139) rfl rfl rfl (by kernel_rfl) (Quiet.fieldAddr rfl fo_37_1) ?_
          refine D.gqw [17, 18] (t := 139) rfl rfl rfl (by kernel_rfl) (Quiet.loadRdA (sz := 4) (j := j * 4 + 1) (k := 3) (p := slR 37 4 _ ((tellW ω es[i].1 es[i].2.1).map fun x => (x, es[i])).length (((tellW ω es[i].1 es[i].2.1).map fun x => (x, es[i])).flatMap tldC)) (vs := evC es[i]) rfl ag_35 (by (repeat (first | exact Pick.here | apply Pick.there))) (fun h hp => slR_rd hp) (by omega) (by omega) (by omega) hte) ?_
          refine D.gqw [15, 16, 17, 18] (t := 139) rfl rfl rfl (by kernel_rfl) (Quiet.move rfl) ?_
          refine D.gqw [15, 16, 17, 18] (t := 139) rfl rfl rfl (by kernel_rfl) (Quiet.move rfl) ?_
          refine D.gqw [16, 17, 18] (t := 139) rfl rfl rfl (by kernel_rfl) (Quiet.indexAddr rfl rfl el_23 (by omega)) ?_
          refine D.gqw [17, 18] (t := 139) rfl rfl rfl (by kernel_rfl) (Quiet.loadRdA (sz := 3) (j := i * 3) (k := 3) (p := p) (vs := evC es[i]) rfl ag_35 (by (repeat (first | exact Pick.here | apply Pick.there))) he.cells (by simp) (by omega) (by omega) (flatMap_at (f := evC) (sz := 3) (fun _ _ => rfl) (by omega))) ?_
          refine D.gqw [18] (t := 139) rfl rfl rfl (by kernel_rfl) (Quiet.as (v' := .bool false) (by simp) (Quiet.structNe (r := decide (es[i] = es[i])) rfl rfl (by kernel_rfl) (ev_eq 9998 _ _))) ?_
          refine D.qw [] rfl (by kernel_rfl) (Quiet.pickF rfl rfl) ?_
          refine D.ph ?_
          refine Phases.fin ?_
          refine G.then_n ?_
          refine G.condF rfl ?_
          refine G.skip ?_
          refine G.then_n ?_
          refine G.seq ?_
          refine G.region ?_
          refine G.q (Quiet.move rfl) rfl ?_
          refine G.q (Quiet.move rfl) rfl ?_
          refine G.q (Quiet.indexAddr rfl rfl el_32 (by omega)) rfl ?_
          refine G.q (Quiet.fieldAddr rfl fo_37_0) rfl ?_
          refine G.q (Quiet.loadRd (sz := 4) (j := j * 4 + 0) (p := slR 37 4 _ ((tellW ω es[i].1 es[i].2.1).map fun x => (x, es[i])).length (((tellW ω es[i].1 es[i].2.1).map fun x => (x, es[i])).flatMap tldC)) rfl ag_3 (by (repeat (first | exact Pick.here | apply Pick.there))) (fun h hp => slR_rd hp) (by omega) htc) rfl ?_
          refine G.q (Quiet.assign rfl) rfl ?_
          refine G.nil ?_
          refine G.then_n ?_
          refine G.region ?_
          refine G.q (Quiet.move rfl) rfl ?_
          refine G.q (Quiet.move rfl) rfl ?_
          refine G.bool (t := 157) rfl (fun h30_157 => ?_) (fun h30_157 => ?_)
          · refine G.kB (t := 156) rfl h30_157 ?_
            refine G.gskip (t := 157) rfl rfl rfl rfl ?_
            refine G.gskip (t := 157) rfl rfl rfl rfl ?_
            refine G.q (Quiet.pickT rfl rfl) rfl ?_
            refine G.q (Quiet.assign rfl) rfl ?_
            refine G.nil ?_
            refine G.blk_n ?_
            refine G.then_n ?_
            refine G.region ?_
            refine G.q (Quiet.move rfl) rfl ?_
            refine G.q (Quiet.add rfl rfl (by omega)) rfl ?_
            refine G.q (Quiet.assign rfl) rfl ?_
            refine G.nil ?_
            refine G.then_n ?_
            exact G.roundK ((j + 1, true)) (⟨by dsimp only; omega, by dsimp only; rw [hasZ, ← hb5, h30_157]; rfl⟩) (by dsimp only; omega) ⟨rfl, rfl, rfl, rfl, rfl, rfl, rfl, rfl, rfl, rfl, rfl, rfl, rfl, rfl, rfl, rfl, rfl, rfl, rfl, rfl, rfl, rfl, rfl, rfl, rfl, rfl, rfl, trivial⟩ (by (repeat (first | exact Picks.nil | (apply Picks.cons; (repeat (first | exact Pick.here | apply Pick.there)))))) (by ((repeat (apply Have.cons; (repeat (first | exact Pick.here | apply Pick.there)))); apply Have.base; repeat (first | exact Suff.here | apply Suff.there)))
          · refine G.kB (t := 156) rfl h30_157 ?_
            refine G.grun (t := 157) rfl rfl rfl ?_
            refine G.q (Quiet.move rfl) rfl ?_
            refine G.grun (t := 157) rfl rfl rfl ?_
            refine G.q (Quiet.int rfl rfl rfl) rfl ?_
            refine G.q (Quiet.pickF rfl rfl) rfl ?_
            refine G.q (Quiet.assign rfl) rfl ?_
            refine G.nil ?_
            refine G.blk_n ?_
            refine G.then_n ?_
            refine G.region ?_
            refine G.q (Quiet.move rfl) rfl ?_
            refine G.q (Quiet.add rfl rfl (by omega)) rfl ?_
            refine G.q (Quiet.assign rfl) rfl ?_
            refine G.nil ?_
            refine G.then_n ?_
            exact G.roundK ((j + 1, decide ((tellW ω es[i].1 es[i].2.1).getD j 0 = 5))) (⟨by dsimp only; omega, by dsimp only; rw [hasZ, ← hb5, h30_157, Bool.false_or]⟩) (by dsimp only; omega) ⟨rfl, rfl, rfl, rfl, rfl, rfl, rfl, rfl, rfl, rfl, rfl, rfl, rfl, rfl, rfl, rfl, rfl, rfl, rfl, rfl, rfl, rfl, rfl, rfl, rfl, rfl, rfl, trivial⟩ (by (repeat (first | exact Picks.nil | (apply Picks.cons; (repeat (first | exact Pick.here | apply Pick.there)))))) (by ((repeat (apply Have.cons; (repeat (first | exact Pick.here | apply Pick.there)))); apply Have.base; repeat (first | exact Suff.here | apply Suff.there)))
        · have hjj : j = (tellW ω es[i].1 es[i].2.1).length := by omega
          rw [hjj, has_all] at hb5
          refine G.exit ?_
          refine G.then_e ?_
          refine G.then_e ?_
          refine G.blk_e ?_
          refine G.then_n ?_
          refine G.seq ?_
          refine G.region ?_
          by_cases h5 : 5 ∈ (tellW ω es[i].1 es[i].2.1)
          · have hm1 := (only_fire ω 5 es[i]).2
            rw [if_pos h5] at hm1
            rw [decide_eq_true h5] at hb5
            subst hb5
            rw [hm1]
            refine G.q (Quiet.move rfl) rfl ?_
            refine G.q (Quiet.slen rfl Tryd.underlying32 rfl) rfl ?_
            refine G.q (Quiet.as (v' := .bool true) (by rfl) (Quiet.int rfl rfl rfl)) rfl ?_
            refine G.q (Quiet.move rfl) rfl ?_
            refine G.q (Quiet.as (v' := .bool false) (by rfl) (Quiet.boolne rfl rfl Tryd.underlying4)) rfl ?_
            refine G.q (Quiet.move rfl) rfl ?_
            refine G.grun (t := 166) rfl rfl rfl ?_
            refine G.q (Quiet.move rfl) rfl ?_
            refine G.grun (t := 166) rfl rfl rfl ?_
            refine G.q (Quiet.slen rfl Tryd.underlying32 rfl) rfl ?_
            refine G.grun (t := 166) rfl rfl rfl ?_
            refine G.q (Quiet.as (v' := .bool false) (by rfl) (Quiet.int rfl rfl rfl)) rfl ?_
            refine G.q (Quiet.pickF rfl rfl) rfl ?_
            refine G.q (Quiet.move rfl) rfl ?_
            refine G.grun (t := 171) rfl rfl rfl ?_
            refine G.q (Quiet.move rfl) rfl ?_
            refine G.grun (t := 171) rfl rfl rfl ?_
            refine G.op (OpSpec.call Tryd.func10 rfl rfl (vs := [_, _]) rfl (wcount_spec t8 (onlyW (leftW ω es[i].1 es[i].2.1) 5) 5)) (by (repeat (first | exact Picks.nil | (apply Picks.cons; (repeat (first | exact Pick.here | apply Pick.there)))))) rfl ?nx160
            rintro v L' ⟨rfl, rfl⟩; rw [only_cnt]
            refine G.grun (t := 171) rfl rfl rfl ?_
            refine G.q (Quiet.move rfl) rfl ?_
            refine G.grun (t := 171) rfl rfl rfl ?_
            refine G.op (OpSpec.call Tryd.func10 rfl rfl (vs := [_, _]) rfl (wcount_spec t9 (leftW ω es[i].1 es[i].2.1) 5)) (by (repeat (first | exact Picks.nil | (apply Picks.cons; (repeat (first | exact Pick.here | apply Pick.there)))))) rfl ?nx163
            rintro v L' ⟨rfl, rfl⟩
            refine G.grun (t := 171) rfl rfl rfl ?_
            refine G.q (Quiet.as (v' := .bool false) (by simp) (Quiet.int rfl rfl rfl)) rfl ?_
            refine G.q (Quiet.pickF rfl rfl) rfl ?_
            refine G.nil ?_
            refine G.then_n ?_
            refine G.condF rfl ?_
            refine G.skip ?_
            refine G.blk_n ?_
            refine G.then_n ?_
            refine G.region ?_
            refine G.q (Quiet.move rfl) rfl ?_
            refine G.q (Quiet.add rfl rfl (by omega)) rfl ?_
            refine G.q (Quiet.assign rfl) rfl ?_
            refine G.nil ?_
            refine G.then_n ?_
            exact G.roundK ((i + 1, leftW ω es[i].1 es[i].2.1)) (⟨by dsimp only; omega, Nat.le_trans (left_len _ _ _) hwl, fun w hw => hpos w (left_mem hw)⟩) (by dsimp only; omega) ⟨rfl, rfl, rfl, rfl, trivial⟩ (by (repeat (first | exact Picks.nil | (apply Picks.cons; (repeat (first | exact Pick.here | apply Pick.there)))))) (by ((repeat (apply Have.cons; (repeat (first | exact Pick.here | apply Pick.there)))); apply Have.base; repeat (first | exact Suff.here | apply Suff.there)))
          · have hm1 := (only_fire ω 5 es[i]).2
            rw [if_neg h5] at hm1
            rw [decide_eq_false h5] at hb5
            subst hb5
            rw [hm1]
            refine G.q (Quiet.move rfl) rfl ?_
            refine G.q (Quiet.slen rfl Tryd.underlying32 rfl) rfl ?_
            refine G.q (Quiet.as (v' := .bool false) (by rfl) (Quiet.int rfl rfl rfl)) rfl ?_
            refine G.q (Quiet.move rfl) rfl ?_
            refine G.q (Quiet.as (v' := .bool false) (by rfl) (Quiet.boolne rfl rfl Tryd.underlying4)) rfl ?_
            refine G.q (Quiet.move rfl) rfl ?_
            refine G.grun (t := 166) rfl rfl rfl ?_
            refine G.q (Quiet.move rfl) rfl ?_
            refine G.grun (t := 166) rfl rfl rfl ?_
            refine G.q (Quiet.slen rfl Tryd.underlying32 rfl) rfl ?_
            refine G.grun (t := 166) rfl rfl rfl ?_
            refine G.q (Quiet.as (v' := .bool false) (by rfl) (Quiet.int rfl rfl rfl)) rfl ?_
            refine G.q (Quiet.pickF rfl rfl) rfl ?_
            refine G.q (Quiet.move rfl) rfl ?_
            refine G.grun (t := 171) rfl rfl rfl ?_
            refine G.q (Quiet.move rfl) rfl ?_
            refine G.grun (t := 171) rfl rfl rfl ?_
            refine G.op (OpSpec.call Tryd.func10 rfl rfl (vs := [_, _]) rfl (wcount_spec t8 (onlyW (leftW ω es[i].1 es[i].2.1) 5) 5)) (by (repeat (first | exact Picks.nil | (apply Picks.cons; (repeat (first | exact Pick.here | apply Pick.there)))))) rfl ?nx177
            rintro v L' ⟨rfl, rfl⟩; rw [only_cnt]
            refine G.grun (t := 171) rfl rfl rfl ?_
            refine G.q (Quiet.move rfl) rfl ?_
            refine G.grun (t := 171) rfl rfl rfl ?_
            refine G.op (OpSpec.call Tryd.func10 rfl rfl (vs := [_, _]) rfl (wcount_spec t9 (leftW ω es[i].1 es[i].2.1) 5)) (by (repeat (first | exact Picks.nil | (apply Picks.cons; (repeat (first | exact Pick.here | apply Pick.there)))))) rfl ?nx180
            rintro v L' ⟨rfl, rfl⟩
            refine G.grun (t := 171) rfl rfl rfl ?_
            refine G.q (Quiet.as (v' := .bool false) (by simp) (Quiet.int rfl rfl rfl)) rfl ?_
            refine G.q (Quiet.pickF rfl rfl) rfl ?_
            refine G.nil ?_
            refine G.then_n ?_
            refine G.condF rfl ?_
            refine G.skip ?_
            refine G.blk_n ?_
            refine G.then_n ?_
            refine G.region ?_
            refine G.q (Quiet.move rfl) rfl ?_
            refine G.q (Quiet.add rfl rfl (by omega)) rfl ?_
            refine G.q (Quiet.assign rfl) rfl ?_
            refine G.nil ?_
            refine G.then_n ?_
            exact G.roundK ((i + 1, leftW ω es[i].1 es[i].2.1)) (⟨by dsimp only; omega, Nat.le_trans (left_len _ _ _) hwl, fun w hw => hpos w (left_mem hw)⟩) (by dsimp only; omega) ⟨rfl, rfl, rfl, rfl, trivial⟩ (by (repeat (first | exact Picks.nil | (apply Picks.cons; (repeat (first | exact Pick.here | apply Pick.there)))))) (by ((repeat (apply Have.cons; (repeat (first | exact Pick.here | apply Pick.there)))); apply Have.base; repeat (first | exact Suff.here | apply Suff.there)))
      · refine G.exit ?_
        refine G.then_e ?_
        refine G.then_e ?_
        refine G.blk_e ?_
        refine G.then_n ?_
        refine G.seq ?_
        refine G.region ?_
        refine G.q (Quiet.assign rfl) rfl ?_
        refine G.nil ?_
        refine G.then_n ?_
        refine G.ret ?_
        exact G.done (l := [.tmp 6]) rfl rfl ⟨rfl, rfl⟩ (by (repeat (first | exact Picks.nil | (apply Picks.cons; (repeat (first | exact Pick.here | apply Pick.there)))))) (by (repeat (first | exact Suff.here | apply Suff.there)))

set_option maxRecDepth 100000 in
theorem wonce11_spec (va ve : Value) (xs : List Arm) (es : List Ev) (p : HP) (ha : ArmsA p va xs) (he : EvsA p ve es) : Fn Tryd.prog 3 #[va, ve] [p] fun v L => v = .bool true ∧ L = [p] := by
  refine Fn.intro (vs := [va, ve]) Tryd.func3 rfl rfl ?_
  intro F W
  refine G.rdAny (p := p) ha.cells (by (repeat (first | exact Pick.here | apply Pick.there))) fun aa ca e0 _ => ?_
  subst e0
  have hla := ha.len
  refine G.rdAny (p := p) he.cells (by (repeat (first | exact Pick.here | apply Pick.there))) fun ae ce e0 _ => ?_
  subst e0
  have hle := he.len
  refine G.seq ?_
  refine G.region ?_
  refine G.q (Quiet.assign rfl) rfl ?_
  refine G.nil ?_
  refine G.then_n ?_
  refine G.seq ?_
  refine G.region ?_
  refine G.op (OpSpec.call Tryd.func7 rfl rfl (vs := []) rfl (awake11_spec)) (by (repeat (first | exact Picks.nil | (apply Picks.cons; (repeat (first | exact Pick.here | apply Pick.there)))))) rfl ?nx2
  rintro v L' ⟨rfl, rfl⟩
  refine G.q (Quiet.assign rfl) rfl ?_
  refine G.nil ?_
  refine G.then_n ?_
  refine G.seq ?_
  refine G.region ?_
  refine G.op (OpSpec.call Tryd.func8 rfl rfl (vs := []) rfl (wnew_spec)) (by (repeat (first | exact Picks.nil | (apply Picks.cons; (repeat (first | exact Pick.here | apply Pick.there)))))) rfl ?nx4
  rintro v L' ⟨t6, rfl, rfl⟩
  refine G.q (Quiet.assign rfl) rfl ?_
  refine G.nil ?_
  refine G.then_n ?_
  refine G.seq ?_
  refine G.seq ?_
  refine G.region ?_
  refine G.q (Quiet.move rfl) rfl ?_
  refine G.q (Quiet.not rfl) rfl ?_
  refine G.q (Quiet.move rfl) rfl ?_
  refine G.grun (t := 21) rfl rfl rfl ?_
  refine G.q (Quiet.move rfl) rfl ?_
  refine G.grun (t := 21) rfl rfl rfl ?_
  refine G.q (Quiet.as (v' := .bool false) (by rfl) (Quiet.ptreq rfl rfl Tryd.underlying25)) rfl ?_
  refine G.q (Quiet.pickF rfl rfl) rfl ?_
  refine G.nil ?_
  refine G.then_n ?_
  refine G.condF rfl ?_
  refine G.skip ?_
  refine G.then_n ?_
  refine G.seq ?_
  refine G.joinK (ι := List Wt) (fun q E => E) (fun q => [tbR t6 q]) (fun q => q.length ≤ 60 ∧ OnceI xs q) (pre := [tbR t6 []]) (ts := [0, 1, 4, 6]) (.cons rfl (.cons rfl (.cons rfl (.cons rfl (.nil))))) (by (repeat (first | exact Picks.nil | (apply Picks.cons; (repeat (first | exact Pick.here | apply Pick.there)))))) ?_ ?_
  · refine G.seq ?_
    refine G.region ?_
    refine G.q (Quiet.assign rfl) rfl ?_
    refine G.nil ?_
    refine G.then_n ?_
    refine G.block ?_
    refine G.loopK (ι := Nat × (List Wt)) (fun q E => (7, vint q.1) :: E) (fun q => [tbR t6 q.2]) (fun q => q.1 ≤ xs.length ∧ q.1 ≤ 60 ∧ q.2.length ≤ q.1 ∧ OnceI xs q.2) (fun q => xs.length - q.1) (0, []) (ts := [0, 1, 4, 6]) (.cons rfl (.cons rfl (.cons rfl (.cons rfl (.nil))))) (⟨Nat.zero_le _, Nat.zero_le _, Nat.zero_le _, OnceI.nil xs⟩) ⟨rfl, rfl, rfl, rfl, rfl, trivial⟩ (by (repeat (first | exact Picks.nil | (apply Picks.cons; (repeat (first | exact Pick.here | apply Pick.there)))))) ?_
    rintro ⟨i, ω⟩ ⟨hi, hi60, hwl, hO⟩
    dsimp only
    dsimp only at hi hi60 hwl hO
    refine G.seq ?_
    refine G.seq ?_
    refine G.region ?_
    refine G.q (Quiet.move rfl) rfl ?_
    refine G.q (Quiet.move rfl) rfl ?_
    refine G.q (Quiet.slen rfl Tryd.underlying22 rfl) rfl ?_
    refine G.q (Quiet.int rfl rfl rfl) rfl ?_
    refine G.q (Quiet.move rfl) rfl ?_
    refine G.dec (t := 29) rfl (fun h6_29 => ?_) (fun h6_29 => ?_)
    · refine G.kDT (t := 28) rfl h6_29 ?_
      refine G.grun (t := 29) rfl rfl rfl ?_
      refine G.q (Quiet.move rfl) rfl ?_
      refine G.grun (t := 29) rfl rfl rfl ?_
      refine G.q (Quiet.int rfl rfl rfl) rfl ?_
      refine G.q (Quiet.pickT rfl rfl) rfl ?_
      refine G.nil ?_
      refine G.then_n ?_
      refine G.condD rfl (fun h32 => ?_) (fun h32 => ?_)
      · have hi2 : i < xs.length := by omega
        have hp1 := ha.paths _ (List.getElem_mem hi2)
        refine G.rdShape (p := p) ha.cells (by (repeat (first | exact Pick.here | apply Pick.there))) (by omega) fun ba oa e0 => ?_
        subst e0
        refine G.skip ?_
        refine G.then_n ?_
        refine G.seq ?_
        refine G.block ?_
        refine G.draw [11] [[0, 1, 2, 3, 4, 5, 6, 7, 8, 9, 10, 11]] mixed (by kernel_rfl) ?_
        refine Phases.go [] (by (repeat (first | exact Picks.nil | (apply Picks.cons; (repeat (first | exact Pick.here | apply Pick.there)))))) ?_
        refine D.qw [11] rfl (by kernel_rfl) (Quiet.move rfl) ?_
        refine D.qw [3, 4, 5, 11] rfl (by kernel_rfl) (Quiet.move rfl) ?_
        refine D.qw [3, 4, 5, 11] rfl (by kernel_rfl) (Quiet.move rfl) ?_
        refine D.qw [4, 5, 11] rfl (by kernel_rfl) (Quiet.indexAddr rfl rfl el_22 (by omega)) ?_
        refine D.qw [5, 11] rfl (by kernel_rfl) (Quiet.fieldAddr rfl fo_30_0) ?_
        refine D.qw [11] rfl (by kernel_rfl) (Quiet.loadRd (sz := 5) (j := i * 5 + 0) (p := p) rfl ag_3 (by (repeat (first | exact Pick.here | apply Pick.there))) ha.cells (by omega) ((arm_cell (l := xs) (i := i) (k := 0) (by omega) (by decide)).trans rfl)) ?_
        refine D.qw [8, 9, 10, 11] rfl (by kernel_rfl) (Quiet.move rfl) ?_
        refine D.qw [8, 9, 10, 11] rfl (by kernel_rfl) (Quiet.move rfl) ?_
        refine D.qw [9, 10, 11] rfl (by kernel_rfl) (Quiet.indexAddr rfl rfl el_22 (by omega)) ?_
        refine D.qw [10, 11] rfl (by kernel_rfl) (Quiet.fieldAddr rfl fo_30_1) ?_
        refine D.qw [11] rfl (by kernel_rfl) (Quiet.loadRd (sz := 5) (j := i * 5 + 1) (p := p) rfl ag_9 (by (repeat (first | exact Pick.here | apply Pick.there))) ha.cells (by omega) ((arm_cell (l := xs) (i := i) (k := 1) (by omega) (by decide)).trans rfl)) ?_
        refine D.h rfl (by kernel_rfl) (OpSpec.call Tryd.func9 rfl rfl (vs := [_, _, _, _]) rfl (wadd_spec t6 ω 1 xs[i].1 xs[i].2.1 (by first | decide | omega) (by first | assumption | decide))) (by (repeat (first | exact Picks.nil | (apply Picks.cons; (repeat (first | exact Pick.here | apply Pick.there)))))) ?nx26
        rintro v L' ⟨rfl, rfl⟩
        refine D.ph ?_
        refine Phases.fin ?_
        refine G.blk_n ?_
        refine G.then_n ?_
        refine G.region ?_
        refine G.q (Quiet.move rfl) rfl ?_
        refine G.q (Quiet.add rfl rfl (by omega)) rfl ?_
        refine G.q (Quiet.assign rfl) rfl ?_
        refine G.nil ?_
        refine G.then_n ?_
        exact G.roundK ((i + 1, (addW ω 1 xs[i].1 xs[i].2.1).1)) (⟨by dsimp only; omega, by dsimp only; omega, by dsimp only; have := add_len ω 1 xs[i].1 xs[i].2.1; omega, hO.add hi2⟩) (by dsimp only; omega) ⟨rfl, rfl, rfl, rfl, rfl, trivial⟩ (by (repeat (first | exact Picks.nil | (apply Picks.cons; (repeat (first | exact Pick.here | apply Pick.there)))))) (by ((repeat (apply Have.cons; (repeat (first | exact Pick.here | apply Pick.there)))); apply Have.base; repeat (first | exact Suff.here | apply Suff.there)))
      · refine G.exit ?_
        refine G.then_e ?_
        refine G.then_e ?_
        refine G.blk_e ?_
        refine G.then_n ?_
        exact G.meetK (ω) (⟨by omega, hO⟩) ⟨rfl, rfl, rfl, rfl, trivial⟩ (by (repeat (first | exact Picks.nil | (apply Picks.cons; (repeat (first | exact Pick.here | apply Pick.there)))))) (by ((repeat (apply Have.cons; (repeat (first | exact Pick.here | apply Pick.there)))); apply Have.base; repeat (first | exact Suff.here | apply Suff.there)))
    · refine G.kDF (t := 28) rfl h6_29 ?_
      refine G.gskip (t := 29) rfl rfl rfl rfl ?_
      refine G.gskip (t := 29) rfl rfl rfl rfl ?_
      refine G.q (Quiet.pickF rfl rfl) rfl ?_
      refine G.nil ?_
      refine G.then_n ?_
      refine G.condF rfl ?_
      refine G.exit ?_
      refine G.then_e ?_
      refine G.then_e ?_
      refine G.blk_e ?_
      refine G.then_n ?_
      exact G.meetK (ω) (⟨by omega, hO⟩) ⟨rfl, rfl, rfl, rfl, trivial⟩ (by (repeat (first | exact Picks.nil | (apply Picks.cons; (repeat (first | exact Pick.here | apply Pick.there)))))) (by ((repeat (apply Have.cons; (repeat (first | exact Pick.here | apply Pick.there)))); apply Have.base; repeat (first | exact Suff.here | apply Suff.there)))
  · rintro ω1 ⟨hw1, hO1⟩
    refine G.seq ?_
    refine G.region ?_
    refine G.q (Quiet.move rfl) rfl ?_
    refine G.op (OpSpec.call Tryd.func10 rfl rfl (vs := [_, _]) rfl (wcount_spec t6 ω1 1)) (by (repeat (first | exact Picks.nil | (apply Picks.cons; (repeat (first | exact Pick.here | apply Pick.there)))))) rfl ?nx32
    rintro v L' ⟨rfl, rfl⟩; rw [hO1.cnt]
    refine G.q (Quiet.assign rfl) rfl ?_
    refine G.nil ?_
    refine G.then_n ?_
    refine G.seq ?_
    refine G.region ?_
    refine G.q (Quiet.assign rfl) rfl ?_
    refine G.nil ?_
    refine G.then_n ?_
    refine G.seq ?_
    refine G.seq ?_
    refine G.region ?_
    refine G.q (Quiet.assign rfl) rfl ?_
    refine G.nil ?_
    refine G.then_n ?_
    refine G.block ?_
    refine G.loopK (ι := Nat × (List Wt) × Nat) (fun q E => (10, vint q.1) :: (9, vint q.2.2) :: E) (fun q => [tbR t6 q.2.1]) (fun q => q.1 ≤ es.length ∧ OnceI xs q.2.1 ∧ q.2.2 + q.2.1.length ≤ ω1.length) (fun q => es.length - q.1) (0, ω1, 0) (ts := [0, 1, 6, 8]) (.cons rfl (.cons rfl (.cons rfl (.cons rfl (.nil))))) (⟨Nat.zero_le _, hO1, by simp⟩) ⟨rfl, rfl, rfl, rfl, rfl, rfl, trivial⟩ (by (repeat (first | exact Picks.nil | (apply Picks.cons; (repeat (first | exact Pick.here | apply Pick.there)))))) ?_
    rintro ⟨i, ω, g⟩ ⟨hi, hO, hg⟩
    dsimp only
    dsimp only at hi hO hg
    refine G.seq ?_
    refine G.seq ?_
    refine G.region ?_
    refine G.q (Quiet.move rfl) rfl ?_
    refine G.q (Quiet.move rfl) rfl ?_
    refine G.q (Quiet.slen rfl Tryd.underlying23 rfl) rfl ?_
    refine G.q (Quiet.int rfl rfl rfl) rfl ?_
    refine G.nil ?_
    refine G.then_n ?_
    refine G.condD rfl (fun h52 => ?_) (fun h52 => ?_)
    · have hi2 : i < es.length := by omega
      have hp1 := he.paths _ (List.getElem_mem hi2)
      refine G.rdShape (p := p) he.cells (by (repeat (first | exact Pick.here | apply Pick.there))) (by omega) fun be oe e0 => ?_
      subst e0
      have hO2 : OnceI xs (fireL ω [es[i]]).1 := by rw [(fire_tbl ω es[i]).1]; exact hO.left _ _
      refine G.skip ?_
      refine G.then_n ?_
      refine G.seq ?_
      refine G.block ?_
      refine G.seq ?_
      refine G.region ?_
      refine G.q (Quiet.move rfl) rfl ?_
      refine G.op (OpSpec.call Tryd.func10 rfl rfl (vs := [_, _]) rfl (wcount_spec t6 ω 1)) (by (repeat (first | exact Picks.nil | (apply Picks.cons; (repeat (first | exact Pick.here | apply Pick.there)))))) rfl ?nx41
      rintro v L' ⟨rfl, rfl⟩; rw [hO.cnt]
      refine G.q (Quiet.assign rfl) rfl ?_
      refine G.nil ?_
      refine G.then_n ?_
      refine G.seq ?_
      refine G.region ?_
      refine G.q (Quiet.move rfl) rfl ?_
      refine G.q (Quiet.move rfl) rfl ?_
      refine G.q (Quiet.move rfl) rfl ?_
      refine G.q (Quiet.indexAddr rfl rfl el_23 (by omega)) rfl ?_
      refine G.q (Quiet.loadRdA (sz := 3) (j := i * 3) (k := 3) (p := p) (vs := evC es[i]) rfl ag_35 (by (repeat (first | exact Pick.here | apply Pick.there))) he.cells (by simp) (by omega) (by omega) (flatMap_at (f := evC) (sz := 3) (fun _ _ => rfl) (by omega))) rfl ?_
      refine G.op (OpSpec.buildSlice (vs := [_]) el_23 ze_35 rfl rfl rfl rfl (by first | (simp [Value.cells]; done) | (intro v hv; simp only [List.mem_cons, List.not_mem_nil, or_false] at hv; subst hv; rfl)) (by decide)) (by (repeat (first | exact Picks.nil | (apply Picks.cons; (repeat (first | exact Pick.here | apply Pick.there)))))) rfl ?nx48
      rintro v L' ⟨be15, rfl, rfl⟩
      refine G.slMakeN 3 1 (b := be15) (xs := ([es[i]] : List Ev).flatMap evC) (by (repeat (first | exact Pick.here | apply Pick.there))) (by simp [evC, Value.cells]) rfl ?_
      refine G.op (OpSpec.call Tryd.func11 rfl rfl (vs := [_, _]) rfl (wfire_spec t6 ω _ [es[i]] (slR 35 3 (.slice (some ⟨be15, 0, none⟩) 1 1) 1 (([es[i]] : List Ev).flatMap evC)) (fun h hp => slR_rd hp) (by omega) (by simp))) (by (repeat (first | exact Picks.nil | (apply Picks.cons; (repeat (first | exact Pick.here | apply Pick.there)))))) rfl ?nx50
      rintro v L' ⟨a15, c15, rfl, rfl⟩
      refine G.q (Quiet.assign rfl) rfl ?_
      refine G.nil ?_
      refine G.then_n ?_
      refine G.seq ?_
      refine G.region ?_
      rcases hO.fire es[i] with ⟨hf1, hf2⟩ | ⟨hf1, hf2, hf3, hf4⟩
      · rw [hf1, hf2]
        have hf5 : ([] : List Tld).length = 0 := rfl
        refine G.q (Quiet.move rfl) rfl ?_
        refine G.op (OpSpec.call Tryd.func10 rfl rfl (vs := [_, _]) rfl (wcount_spec t6 ω 1)) (by (repeat (first | exact Picks.nil | (apply Picks.cons; (repeat (first | exact Pick.here | apply Pick.there)))))) rfl ?nx53
        rintro v L' ⟨rfl, rfl⟩; rw [hO.cnt]
        refine G.q (Quiet.assign rfl) rfl ?_
        refine G.nil ?_
        refine G.then_n ?_
        refine G.seq ?_
        refine G.seq ?_
        refine G.draw [] [[0, 1, 2, 3, 4, 5, 6, 7, 8, 9, 10, 11, 12, 13, 14, 15, 16, 17, 18, 19, 20, 21, 22, 23, 24, 25, 26, 27, 28, 29, 30, 31, 32, 33, 34, 35, 36, 37, 38, 39, 40, 41, 42, 43, 44, 45, 46]] mixed (by kernel_rfl) ?_
        refine Phases.go [] (by (repeat (first | exact Picks.nil | (apply Picks.cons; (repeat (first | exact Pick.here | apply Pick.there)))))) ?_
        refine D.qw [1, 2, 3, 4, 5, 6, 7, 8, 9, 10, 11, 12, 13, 14, 15, 16, 17, 18, 19, 20, 21, 22, 23, 24, 25, 26, 27, 28, 29, 30, 31, 32, 33, 34, 35, 36, 37, 38, 39, 40, 41, 42, 43, 44, 45, 46] rfl (by kernel_rfl) (Quiet.move rfl) ?_
        refine D.qw [2, 3, 4, 5, 6, 7, 8, 9, 10, 11, 12, 13, 14, 15, 16, 17, 18, 19, 20, 21, 22, 23, 24, 25, 26, 27, 28, 29, 30, 31, 32, 33, 34, 35, 36, 37, 38, 39, 40, 41, 42, 43, 44, 45, 46] rfl (by kernel_rfl) (Quiet.slen rfl Tryd.underlying32 rfl) ?_
        refine D.qw [3, 4, 5, 6, 7, 8, 9, 10, 11, 12, 13, 14, 15, 16, 17, 18, 19, 20, 21, 22, 23, 24, 25, 26, 27, 28, 29, 30, 31, 32, 33, 34, 35, 36, 37, 38, 39, 40, 41, 42, 43, 44, 45, 46] rfl (by kernel_rfl) (Quiet.as (v' := .bool false) (by rfl) (Quiet.int rfl rfl rfl)) ?_
        refine D.qw [4, 5, 6, 7, 8, 9, 10, 11, 12, 13, 14, 15, 16, 17, 18, 19, 20, 21, 22, 23, 24, 25, 26, 27, 28, 29, 30, 31, 32, 33, 34, 35, 36, 37, 38, 39, 40, 41, 42, 43, 44, 45, 46] rfl (by kernel_rfl) (Quiet.move rfl) ?_
        refine D.gqw [5, 6, 7, 8, 9, 10, 11, 12, 13, 14, 15, 16, 17, 18, 19, 20, 21, 22, 23, 24, 25, 26, 27, 28, 29, 30, 31, 32, 33, 34, 35, 36, 37, 38, 39, 40, 41, 42, 43, 44, 45, 46] (t := 69) rfl rfl rfl (by kernel_rfl) (Quiet.move rfl) ?_
        refine D.gqw [6, 7, 8, 9, 10, 11, 12, 13, 14, 15, 16, 17, 18, 19, 20, 21, 22, 23, 24, 25, 26, 27, 28, 29, 30, 31, 32, 33, 34, 35, 36, 37, 38, 39, 40, 41, 42, 43, 44, 45, 46] (t := 69) rfl rfl rfl (by kernel_rfl) (Quiet.slen rfl Tryd.underlying32 rfl) ?_
        refine D.gqw [7, 8, 9, 10, 11, 12, 13, 14, 15, 16, 17, 18, 19, 20, 21, 22, 23, 24, 25, 26, 27, 28, 29, 30, 31, 32, 33, 34, 35, 36, 37, 38, 39, 40, 41, 42, 43, 44, 45, 46] (t := 69) rfl rfl rfl (by kernel_rfl) (Quiet.as (v' := .bool true) (by rfl) (Quiet.int rfl rfl rfl)) ?_
        refine D.gqw [8, 9, 10, 11, 12, 13, 14, 15, 16, 17, 18, 19, 20, 21, 22, 23, 24, 25, 26, 27, 28, 29, 30, 31, 32, 33, 34, 35, 36, 37, 38, 39, 40, 41, 42, 43, 44, 45, 46] (t := 69) rfl rfl rfl (by kernel_rfl) (Quiet.move rfl) ?_
        refine D.gqw [10, 11, 12, 13, 14, 15, 16, 17, 18, 19, 20, 21, 22, 23, 24, 25, 26, 27, 28, 29, 30, 31, 32, 33, 34, 35, 36, 37, 38, 39, 40, 41, 42, 43, 44, 45, 46] (t := 73) rfl rfl rfl (by kernel_rfl) (Quiet.move rfl) ?_
        refine D.gqw [10, 11, 12, 13, 14, 15, 16, 17, 18, 19, 20, 21, 22, 23, 24, 25, 26, 27, 28, 29, 30, 31, 32, 33, 34, 35, 36, 37, 38, 39, 40, 41, 42, 43, 44, 45, 46] (t := 73) rfl rfl rfl (by kernel_rfl) (Quiet.move rfl) ?_
        refine D.gqw [11, 12, 13, 14, 15, 16, 17, 18, 19, 20, 21, 22, 23, 24, 25, 26, 27, 28, 29, 30, 31, 32, 33, 34, 35, 36, 37, 38, 39, 40, 41, 42, 43, 44, 45, 46] (t := 73) rfl rfl rfl (by kernel_rfl) (Quiet.as (v' := .bool false) (by simp) (Quiet.int rfl rfl rfl)) ?_
        refine D.gqw [12, 13, 14, 15, 16, 17, 18, 19, 20, 21, 22, 23, 24, 25, 26, 27, 28, 29, 30, 31, 32, 33, 34, 35, 36, 37, 38, 39, 40, 41, 42, 43, 44, 45, 46] (t := 69) rfl rfl rfl (by kernel_rfl) (Quiet.pickT rfl rfl) ?_
        refine D.qw [13, 14, 15, 16, 17, 18, 19, 20, 21, 22, 23, 24, 25, 26, 27, 28, 29, 30, 31, 32, 33, 34, 35, 36, 37, 38, 39, 40, 41, 42, 43, 44, 45, 46] rfl (by kernel_rfl) (Quiet.pickF rfl rfl) ?_
        refine D.qw [14, 15, 16, 17, 18, 19, 20, 21, 22, 23, 24, 25, 26, 27, 28, 29, 30, 31, 32, 33, 34, 35, 36, 37, 38, 39, 40, 41, 42, 43, 44, 45, 46] rfl (by kernel_rfl) (Quiet.move rfl) ?_
        refine D.gqw [15, 16, 17, 18, 19, 20, 21, 22, 23, 24, 25, 26, 27, 28, 29, 30, 31, 32, 33, 34, 35, 36, 37, 38, 39, 40, 41, 42, 43, 44, 45, 46] (t := 79) rfl rfl rfl (by kernel_rfl) (Quiet.move rfl) ?_
        refine D.gqw [16, 17, 18, 19, 20, 21, 22, 23, 24, 25, 26, 27, 28, 29, 30, 31, 32, 33, 34, 35, 36, 37, 38, 39, 40, 41, 42, 43, 44, 45, 46] (t := 79) rfl rfl rfl (by kernel_rfl) (Quiet.slen rfl Tryd.underlying32 rfl) ?_
        refine D.gqw [17, 18, 19, 20, 21, 22, 23, 24, 25, 26, 27, 28, 29, 30, 31, 32, 33, 34, 35, 36, 37, 38, 39, 40, 41, 42, 43, 44, 45, 46] (t := 79) rfl rfl rfl (by kernel_rfl) (Quiet.as (v' := .bool false) (by rfl) (Quiet.int rfl rfl rfl)) ?_
        refine D.gqw [18, 19, 20, 21, 22, 23, 24, 25, 26, 27, 28, 29, 30, 31, 32, 33, 34, 35, 36, 37, 38, 39, 40, 41, 42, 43, 44, 45, 46] (t := 79) rfl rfl rfl (by kernel_rfl) (Quiet.move rfl) ?_
        refine D.gs (t := 83) rfl rfl rfl rfl (by kernel_rfl) ?_
        refine D.gs (t := 83) rfl rfl rfl rfl (by kernel_rfl) ?_
        refine D.gs (t := 83) rfl rfl rfl rfl (by kernel_rfl) ?_
        refine D.gs (t := 83) rfl rfl rfl rfl (by kernel_rfl) ?_
        refine D.gsU (t := 87) rfl rfl rfl (by kernel_rfl) ?_
        refine D.gsU (t := 87) rfl rfl rfl (by kernel_rfl) ?_
        refine D.gsU (t := 87) rfl rfl rfl (by kernel_rfl) ?_
        refine D.gsU (t := 87) rfl rfl rfl (by kernel_rfl) ?_
        refine D.gs (t := 83) rfl rfl rfl rfl (by kernel_rfl) ?_
        refine D.gs (t := 83) rfl rfl rfl rfl (by kernel_rfl) ?_
        refine D.gsU (t := 93) rfl rfl rfl (by kernel_rfl) ?_
        refine D.gsU (t := 93) rfl rfl rfl (by kernel_rfl) ?_
        refine D.gsU (t := 93) rfl rfl rfl (by kernel_rfl) ?_
        refine D.gsU (t := 93) rfl rfl rfl (by kernel_rfl) ?_
        refine D.gsU (t := 93) rfl rfl rfl (by kernel_rfl) ?_
        refine D.gs (t := 83) rfl rfl rfl rfl (by kernel_rfl) ?_
        refine D.gs (t := 83) rfl rfl rfl rfl (by kernel_rfl) ?_
        refine D.gsU (t := 100) rfl rfl rfl (by kernel_rfl) ?_
        refine D.gsU (t := 100) rfl rfl rfl (by kernel_rfl) ?_
        refine D.gsU (t := 100) rfl rfl rfl (by kernel_rfl) ?_
        refine D.gsU (t := 100) rfl rfl rfl (by kernel_rfl) ?_
        refine D.gsU (t := 100) rfl rfl rfl (by kernel_rfl) ?_
        refine D.gsU (t := 100) rfl rfl rfl (by kernel_rfl) ?_
        refine D.gsU (t := 100) rfl rfl rfl (by kernel_rfl) ?_
        refine D.gsU (t := 100) rfl rfl rfl (by kernel_rfl) ?_
        refine D.gsU (t := 100) rfl rfl rfl (by kernel_rfl) ?_
        refine D.gs (t := 83) rfl rfl rfl rfl (by kernel_rfl) ?_
        refine D.gqw [46] (t := 79) rfl rfl rfl (by kernel_rfl) (Quiet.pickF rfl rfl) ?_
        refine D.qw [] rfl (by kernel_rfl) (Quiet.pickF rfl rfl) ?_
        refine D.ph ?_
        refine Phases.fin ?_
        refine G.then_n ?_
        refine G.condF rfl ?_
        refine G.skip ?_
        refine G.then_n ?_
        refine G.seq ?_
        refine G.region ?_
        refine G.q (Quiet.move rfl) rfl ?_
        refine G.q (Quiet.slen rfl Tryd.underlying32 rfl) rfl ?_
        refine G.q (Quiet.as (v' := .bool true) (by rfl) (Quiet.int rfl rfl rfl)) rfl ?_
        refine G.q (Quiet.assign rfl) rfl ?_
        refine G.nil ?_
        refine G.then_n ?_
        refine G.seq ?_
        refine G.seq ?_
        refine G.region ?_
        refine G.q (Quiet.assign rfl) rfl ?_
        refine G.nil ?_
        refine G.then_n ?_
        refine G.block ?_
        refine G.loopK (ι := Nat × Bool) (fun q E => (15, vint q.1) :: (14, .bool q.2) :: E) (fun q => []) (fun q => q.1 ≤ xs.length ∧ q.2 = true) (fun q => xs.length - q.1) (0, true) (ts := [0, 1, 6, 8, 9, 10, 11, 12, 13, 49, 50, 51, 52, 55, 56, 57, 58, 59, 60, 61, 62, 63, 64, 65, 66, 67, 68, 69, 70, 71, 72, 73, 74, 75, 76, 77, 78, 79, 80, 81, 82, 83, 84, 85, 86, 87, 88, 89, 90, 91, 92, 93, 94, 95, 96, 97, 98, 99, 100, 101, 102, 103, 104, 105, 106, 107, 108, 109, 110, 111, 112, 113, 114, 115]) (.cons rfl (.cons rfl (.cons rfl (.cons rfl (.cons rfl (.cons rfl (.cons rfl (.cons rfl (.cons rfl (.cons rfl (.cons rfl (.cons rfl (.cons rfl (.cons rfl (.cons rfl (.cons rfl (.cons rfl (.cons rfl (.cons rfl (.cons rfl (.cons rfl (.cons rfl (.cons rfl (.cons rfl (.cons rfl (.cons rfl (.cons rfl (.cons rfl (.cons rfl (.cons rfl (.cons rfl (.cons rfl (.cons rfl (.cons rfl (.cons rfl (.cons rfl (.cons rfl (.cons rfl (.cons rfl (.cons rfl (.cons rfl (.cons rfl (.cons rfl (.cons rfl (.cons rfl (.cons rfl (.cons rfl (.cons rfl (.cons rfl (.cons rfl (.cons rfl (.cons rfl (.cons rfl (.cons rfl (.cons rfl (.cons rfl (.cons rfl (.cons rfl (.cons rfl (.cons rfl (.cons rfl (.cons rfl (.cons rfl (.cons rfl (.cons rfl (.cons rfl (.cons rfl (.cons rfl (.cons rfl (.cons rfl (.cons rfl (.cons rfl (.cons rfl (.cons rfl (.nil))))))))))))))))))))))))))))))))))))))))))))))))))))))))))))))))))))))))))) (⟨Nat.zero_le _, rfl⟩) ⟨rfl, rfl, rfl, rfl, rfl, rfl, rfl, rfl, rfl, rfl, rfl, rfl, rfl, rfl, rfl, rfl, rfl, rfl, rfl, rfl, rfl, rfl, rfl, rfl, rfl, rfl, rfl, rfl, rfl, rfl, rfl, rfl, rfl, rfl, rfl, rfl, rfl, rfl, rfl, rfl, rfl, rfl, rfl, rfl, rfl, rfl, rfl, rfl, rfl, rfl, rfl, rfl, rfl, rfl, rfl, rfl, rfl, rfl, rfl, rfl, rfl, rfl, rfl, rfl, rfl, rfl, rfl, rfl, rfl, rfl, rfl, rfl, rfl, rfl, rfl, rfl, trivial⟩ (by (repeat (first | exact Picks.nil | (apply Picks.cons; (repeat (first | exact Pick.here | apply Pick.there)))))) ?_
        rintro ⟨j, b⟩ ⟨hj, hbt⟩
        dsimp only
        dsimp only at hj hbt
        refine G.seq ?_
        refine G.seq ?_
        refine G.region ?_
        refine G.q (Quiet.move rfl) rfl ?_
        refine G.q (Quiet.move rfl) rfl ?_
        refine G.q (Quiet.slen rfl Tryd.underlying22 rfl) rfl ?_
        refine G.q (Quiet.int rfl rfl rfl) rfl ?_
        refine G.nil ?_
        refine G.then_n ?_
        refine G.condD rfl (fun h119 => ?_) (fun h119 => ?_)
        · have hi3 : j < xs.length := by omega
          refine G.rdShape (p := p) ha.cells (by (repeat (first | exact Pick.here | apply Pick.there))) (by omega) fun ba oa e0 => ?_
          subst e0
          refine G.skip ?_
          refine G.then_n ?_
          refine G.seq ?_
          refine G.block ?_
          refine G.draw [] [[0, 1, 2, 3, 4, 5, 6, 7, 8, 9, 10, 11, 12, 13, 14]] mixed (by kernel_rfl) ?_
          refine Phases.go [] (by (repeat (first | exact Picks.nil | (apply Picks.cons; (repeat (first | exact Pick.here | apply Pick.there)))))) ?_
          refine D.qw [1, 2, 3, 4, 5, 6, 7, 8, 9, 10, 11, 12, 13, 14] rfl (by kernel_rfl) (Quiet.move rfl) ?_
          refine D.qw [2, 3, 4, 5, 6, 7, 8, 9, 10, 11, 12, 13, 14] rfl (by kernel_rfl) (Quiet.move rfl) ?_
          refine D.bool (t := 123) rfl (fun h23_123 => ?_) (fun h23_123 => ?_)
          · refine D.kB (t := 122) rfl h23_123 ?_
            refine D.gs (t := 123) rfl rfl rfl rfl (by kernel_rfl) ?_
            refine D.gs (t := 123) rfl rfl rfl rfl (by kernel_rfl) ?_
            refine D.gs (t := 123) rfl rfl rfl rfl (by kernel_rfl) ?_
            refine D.gs (t := 123) rfl rfl rfl rfl (by kernel_rfl) ?_
            refine D.gs (t := 123) rfl rfl rfl rfl (by kernel_rfl) ?_
            refine D.gs (t := 123) rfl rfl rfl rfl (by kernel_rfl) ?_
            refine D.gs (t := 123) rfl rfl rfl rfl (by kernel_rfl) ?_
            refine D.gs (t := 123) rfl rfl rfl rfl (by kernel_rfl) ?_
            refine D.gs (t := 123) rfl rfl rfl rfl (by kernel_rfl) ?_
            refine D.gs (t := 123) rfl rfl rfl rfl (by kernel_rfl) ?_
            refine D.gs (t := 123) rfl rfl rfl rfl (by kernel_rfl) ?_
            refine D.qw [14] rfl (by kernel_rfl) (Quiet.pickT rfl rfl) ?_
            refine D.qw [] rfl (by kernel_rfl) (Quiet.assign rfl) ?_
            refine D.ph ?_
            refine Phases.fin ?_
            refine G.blk_n ?_
            refine G.then_n ?_
            refine G.region ?_
            refine G.q (Quiet.move rfl) rfl ?_
            refine G.q (Quiet.add rfl rfl (by omega)) rfl ?_
            refine G.q (Quiet.assign rfl) rfl ?_
            refine G.nil ?_
            refine G.then_n ?_
            exact G.roundK ((j + 1, true)) (⟨by dsimp only; omega, rfl⟩) (by dsimp only; omega) ⟨rfl, rfl, rfl, rfl, rfl, rfl, rfl, rfl, rfl, rfl, rfl, rfl, rfl, rfl, rfl, rfl, rfl, rfl, rfl, rfl, rfl, rfl, rfl, rfl, rfl, rfl, rfl, rfl, rfl, rfl, rfl, rfl, rfl, rfl, rfl, rfl, rfl, rfl, rfl, rfl, rfl, rfl, rfl, rfl, rfl, rfl, rfl, rfl, rfl, rfl, rfl, rfl, rfl, rfl, rfl, rfl, rfl, rfl, rfl, rfl, rfl, rfl, rfl, rfl, rfl, rfl, rfl, rfl, rfl, rfl, rfl, rfl, rfl, rfl, rfl, rfl, trivial⟩ (by (repeat (first | exact Picks.nil | (apply Picks.cons; (repeat (first | exact Pick.here | apply Pick.there)))))) (by ((repeat (apply Have.cons; (repeat (first | exact Pick.here | apply Pick.there)))); apply Have.base; repeat (first | exact Suff.here | apply Suff.there)))
          · exfalso; rw [hbt] at h23_123; cases h23_123
        · subst hbt
          refine G.exit ?_
          refine G.then_e ?_
          refine G.then_e ?_
          refine G.blk_e ?_
          refine G.then_n ?_
          refine G.seq ?_
          refine G.region ?_
          refine G.q (Quiet.move rfl) rfl ?_
          refine G.q (Quiet.move rfl) rfl ?_
          refine G.q (Quiet.move rfl) rfl ?_
          refine G.q (Quiet.indexAddr rfl rfl el_23 (by omega)) rfl ?_
          refine G.q (Quiet.loadRdA (sz := 3) (j := i * 3) (k := 3) (p := p) (vs := evC es[i]) rfl ag_35 (by (repeat (first | exact Pick.here | apply Pick.there))) he.cells (by simp) (by omega) (by omega) (flatMap_at (f := evC) (sz := 3) (fun _ _ => rfl) (by omega))) rfl ?_
          refine G.op (OpSpec.buildSlice (vs := [_]) el_23 ze_35 rfl rfl rfl rfl (by first | (simp [Value.cells]; done) | (intro v hv; simp only [List.mem_cons, List.not_mem_nil, or_false] at hv; subst hv; rfl)) (by decide)) (by (repeat (first | exact Picks.nil | (apply Picks.cons; (repeat (first | exact Pick.here | apply Pick.there)))))) rfl ?nx79
          rintro v L' ⟨be24, rfl, rfl⟩
          refine G.slMakeN 3 1 (b := be24) (xs := ([es[i]] : List Ev).flatMap evC) (by (repeat (first | exact Pick.here | apply Pick.there))) (by simp [evC, Value.cells]) rfl ?_
          refine G.op (OpSpec.call Tryd.func11 rfl rfl (vs := [_, _]) rfl (wfire_spec t6 ω _ [es[i]] (slR 35 3 (.slice (some ⟨be24, 0, none⟩) 1 1) 1 (([es[i]] : List Ev).flatMap evC)) (fun h hp => slR_rd hp) (by omega) (by simp))) (by (repeat (first | exact Picks.nil | (apply Picks.cons; (repeat (first | exact Pick.here | apply Pick.there)))))) rfl ?nx81
          rintro v L' ⟨a24, c24, rfl, rfl⟩; rw [hf1, hf2]
          refine G.q (Quiet.assign rfl) rfl ?_
          refine G.nil ?_
          refine G.then_n ?_
          refine G.seq ?_
          refine G.seq ?_
          refine G.region ?_
          refine G.q (Quiet.move rfl) rfl ?_
          refine G.q (Quiet.as (v' := .bool false) (by rfl) (Quiet.not rfl)) rfl ?_
          refine G.q (Quiet.move rfl) rfl ?_
          refine G.grun (t := 145) rfl rfl rfl ?_
          refine G.q (Quiet.move rfl) rfl ?_
          refine G.grun (t := 145) rfl rfl rfl ?_
          refine G.q (Quiet.slen rfl Tryd.underlying32 rfl) rfl ?_
          refine G.grun (t := 145) rfl rfl rfl ?_
          refine G.q (Quiet.as (v' := .bool false) (by rfl) (Quiet.int rfl rfl rfl)) rfl ?_
          refine G.q (Quiet.pickF rfl rfl) rfl ?_
          refine G.nil ?_
          refine G.then_n ?_
          refine G.condF rfl ?_
          refine G.skip ?_
          refine G.then_n ?_
          refine G.region ?_
          refine G.q (Quiet.move rfl) rfl ?_
          refine G.q (Quiet.move rfl) rfl ?_
          refine G.q (Quiet.slen rfl Tryd.underlying32 rfl) rfl ?_
          refine G.q (Quiet.add rfl rfl (by omega)) rfl ?_
          refine G.q (Quiet.assign rfl) rfl ?_
          refine G.nil ?_
          refine G.blk_n ?_
          refine G.then_n ?_
          refine G.region ?_
          refine G.q (Quiet.move rfl) rfl ?_
          refine G.q (Quiet.add rfl rfl (by omega)) rfl ?_
          refine G.q (Quiet.assign rfl) rfl ?_
          refine G.nil ?_
          refine G.then_n ?_
          exact G.roundK ((i + 1, ω, g + 0)) (⟨by dsimp only; omega, hO, by dsimp only; omega⟩) (by dsimp only; omega) ⟨rfl, rfl, rfl, rfl, rfl, rfl, trivial⟩ (by (repeat (first | exact Picks.nil | (apply Picks.cons; (repeat (first | exact Pick.here | apply Pick.there)))))) (by ((repeat (apply Have.cons; (repeat (first | exact Pick.here | apply Pick.there)))); apply Have.base; repeat (first | exact Suff.here | apply Suff.there)))
      · rw [hf1]
        have hf5 : ([(1, es[i])] : List Tld).length = 1 := rfl
        refine G.q (Quiet.move rfl) rfl ?_
        refine G.op (OpSpec.call Tryd.func10 rfl rfl (vs := [_, _]) rfl (wcount_spec t6 (fireL ω [es[i]]).1 1)) (by (repeat (first | exact Picks.nil | (apply Picks.cons; (repeat (first | exact Pick.here | apply Pick.there)))))) rfl ?nx94
        rintro v L' ⟨rfl, rfl⟩; rw [hO2.cnt]
        refine G.q (Quiet.assign rfl) rfl ?_
        refine G.nil ?_
        refine G.then_n ?_
        refine G.seq ?_
        refine G.seq ?_
        refine G.slShape (v := .slice a15 _ c15) (by (repeat (first | exact Pick.here | apply Pick.there))) (by omega) fun bt bt' e0 mbt _ => ?_
        simp only [Value.slice.injEq, true_and] at e0
        obtain ⟨rfl, rfl⟩ := e0
        refine G.draw [] [[0, 1, 2, 3, 4, 5, 6, 7, 8, 9, 10, 11, 12, 13, 14, 15, 16, 17, 18, 19, 20, 21, 22, 23, 24, 25, 26, 27, 28, 29, 30, 31, 32, 33, 34, 35, 36, 37, 38, 39, 40, 41, 42, 43, 44, 45, 46]] mixed (by kernel_rfl) ?_
        refine Phases.go [] (by (repeat (first | exact Picks.nil | (apply Picks.cons; (repeat (first | exact Pick.here | apply Pick.there)))))) ?_
        refine D.qw [1, 2, 3, 4, 5, 6, 7, 8, 9, 10, 11, 12, 13, 14, 15, 16, 17, 18, 19, 20, 21, 22, 23, 24, 25, 26, 27, 28, 29, 30, 31, 32, 33, 34, 35, 36, 37, 38, 39, 40, 41, 42, 43, 44, 45, 46] rfl (by kernel_rfl) (Quiet.move rfl) ?_
        refine D.qw [2, 3, 4, 5, 6, 7, 8, 9, 10, 11, 12, 13, 14, 15, 16, 17, 18, 19, 20, 21, 22, 23, 24, 25, 26, 27, 28, 29, 30, 31, 32, 33, 34, 35, 36, 37, 38, 39, 40, 41, 42, 43, 44, 45, 46] rfl (by kernel_rfl) (Quiet.slen rfl Tryd.underlying32 rfl) ?_
        refine D.qw [3, 4, 5, 6, 7, 8, 9, 10, 11, 12, 13, 14, 15, 16, 17, 18, 19, 20, 21, 22, 23, 24, 25, 26, 27, 28, 29, 30, 31, 32, 33, 34, 35, 36, 37, 38, 39, 40, 41, 42, 43, 44, 45, 46] rfl (by kernel_rfl) (Quiet.as (v' := .bool false) (by rfl) (Quiet.int rfl rfl rfl)) ?_
        refine D.qw [4, 5, 6, 7, 8, 9, 10, 11, 12, 13, 14, 15, 16, 17, 18, 19, 20, 21, 22, 23, 24, 25, 26, 27, 28, 29, 30, 31, 32, 33, 34, 35, 36, 37, 38, 39, 40, 41, 42, 43, 44, 45, 46] rfl (by kernel_rfl) (Quiet.move rfl) ?_
        refine D.gqw [5, 6, 7, 8, 9, 10, 11, 12, 13, 14, 15, 16, 17, 18, 19, 20, 21, 22, 23, 24, 25, 26, 27, 28, 29, 30, 31, 32, 33, 34, 35, 36, 37, 38, 39, 40, 41, 42, 43, 44, 45, 46] (t := 69) rfl rfl rfl (by kernel_rfl) (Quiet.move rfl) ?_
        refine D.gqw [6, 7, 8, 9, 10, 11, 12, 13, 14, 15, 16, 17, 18, 19, 20, 21, 22, 23, 24, 25, 26, 27, 28, 29, 30, 31, 32, 33, 34, 35, 36, 37, 38, 39, 40, 41, 42, 43, 44, 45, 46] (t := 69) rfl rfl rfl (by kernel_rfl) (Quiet.slen rfl Tryd.underlying32 rfl) ?_
        refine D.gqw [7, 8, 9, 10, 11, 12, 13, 14, 15, 16, 17, 18, 19, 20, 21, 22, 23, 24, 25, 26, 27, 28, 29, 30, 31, 32, 33, 34, 35, 36, 37, 38, 39, 40, 41, 42, 43, 44, 45, 46] (t := 69) rfl rfl rfl (by kernel_rfl) (Quiet.as (v' := .bool false) (by rfl) (Quiet.int rfl rfl rfl)) ?_
        refine D.gqw [8, 9, 10, 11, 12, 13, 14, 15, 16, 17, 18, 19, 20, 21, 22, 23, 24, 25, 26, 27, 28, 29, 30, 31, 32, 33, 34, 35, 36, 37, 38, 39, 40, 41, 42, 43, 44, 45, 46] (t := 69) rfl rfl rfl (by kernel_rfl) (Quiet.move rfl) ?_
        refine D.gs (t := 73) rfl rfl rfl rfl (by kernel_rfl) ?_
        refine D.gs (t := 73) rfl rfl rfl rfl (by kernel_rfl) ?_
        refine D.gs (t := 73) rfl rfl rfl rfl (by kernel_rfl) ?_
        refine D.gqw [12, 13, 14, 15, 16, 17, 18, 19, 20, 21, 22, 23, 24, 25, 26, 27, 28, 29, 30, 31, 32, 33, 34, 35, 36, 37, 38, 39, 40, 41, 42, 43, 44, 45, 46] (t := 69) rfl rfl rfl (by kernel_rfl) (Quiet.pickF rfl rfl) ?_
        refine D.qw [13, 14, 15, 16, 17, 18, 19, 20, 21, 22, 23, 24, 25, 26, 27, 28, 29, 30, 31, 32, 33, 34, 35, 36, 37, 38, 39, 40, 41, 42, 43, 44, 45, 46] rfl (by kernel_rfl) (Quiet.pickF rfl rfl) ?_
        refine D.qw [14, 15, 16, 17, 18, 19, 20, 21, 22, 23, 24, 25, 26, 27, 28, 29, 30, 31, 32, 33, 34, 35, 36, 37, 38, 39, 40, 41, 42, 43, 44, 45, 46] rfl (by kernel_rfl) (Quiet.move rfl) ?_
        refine D.gqw [15, 16, 17, 18, 19, 20, 21, 22, 23, 24, 25, 26, 27, 28, 29, 30, 31, 32, 33, 34, 35, 36, 37, 38, 39, 40, 41, 42, 43, 44, 45, 46] (t := 79) rfl rfl rfl (by kernel_rfl) (Quiet.move rfl) ?_
        refine D.gqw [16, 17, 18, 19, 20, 21, 22, 23, 24, 25, 26, 27, 28, 29, 30, 31, 32, 33, 34, 35, 36, 37, 38, 39, 40, 41, 42, 43, 44, 45, 46] (t := 79) rfl rfl rfl (by kernel_rfl) (Quiet.slen rfl Tryd.underlying32 rfl) ?_
        refine D.gqw [17, 18, 19, 20, 21, 22, 23, 24, 25, 26, 27, 28, 29, 30, 31, 32, 33, 34, 35, 36, 37, 38, 39, 40, 41, 42, 43, 44, 45, 46] (t := 79) rfl rfl rfl (by kernel_rfl) (Quiet.as (v' := .bool true) (by rfl) (Quiet.int rfl rfl rfl)) ?_
        refine D.gqw [18, 19, 20, 21, 22, 23, 24, 25, 26, 27, 28, 29, 30, 31, 32, 33, 34, 35, 36, 37, 38, 39, 40, 41, 42, 43, 44, 45, 46] (t := 79) rfl rfl rfl (by kernel_rfl) (Quiet.move rfl) ?_
        refine D.gqw [20, 21, 22, 23, 24, 25, 26, 27, 28, 29, 30, 31, 32, 33, 34, 35, 36, 37, 38, 39, 40, 41, 42, 43, 44, 45, 46] (t := 83) rfl rfl rfl (by kernel_rfl) (Quiet.move rfl) ?_
        refine D.gqw [20, 21, 22, 23, 24, 25, 26, 27, 28, 29, 30, 31, 32, 33, 34, 35, 36, 37, 38, 39, 40, 41, 42, 43, 44, 45, 46] (t := 83) rfl rfl rfl (by kernel_rfl) (Quiet.move rfl) ?_
        refine D.gqw [21, 22, 23, 24, 25, 26, 27, 28, 29, 30, 31, 32, 33, 34, 35, 36, 37, 38, 39, 40, 41, 42, 43, 44, 45, 46] (t := 83) rfl rfl rfl (by kernel_rfl) (Quiet.as (v' := .bool false) (by exact congrArg Value.bool (decide_eq_false (by omega))) (Quiet.int rfl rfl rfl)) ?_
        refine D.gqw [22, 23, 24, 25, 26, 27, 28, 29, 30, 31, 32, 33, 34, 35, 36, 37, 38, 39, 40, 41, 42, 43, 44, 45, 46] (t := 83) rfl rfl rfl (by kernel_rfl) (Quiet.move rfl) ?_
        refine D.gqw [24, 25, 26, 27, 28, 29, 30, 31, 32, 33, 34, 35, 36, 37, 38, 39, 40, 41, 42, 43, 44, 45, 46] (t := 87) rfl rfl rfl (by kernel_rfl) (Quiet.move rfl) ?_
        refine D.gqw [24, 25, 26, 27, 28, 29, 30, 31, 32, 33, 34, 35, 36, 37, 38, 39, 40, 41, 42, 43, 44, 45, 46] (t := 87) rfl rfl rfl (by kernel_rfl) (Quiet.move rfl) ?_
        refine D.gqw [25, 26, 27, 28, 29, 30, 31, 32, 33, 34, 35, 36, 37, 38, 39, 40, 41, 42, 43, 44, 45, 46] (t := 87) rfl rfl rfl (by kernel_rfl) (Quiet.sub rfl rfl (by omega)) ?_
        refine D.gqw [26, 27, 28, 29, 30, 31, 32, 33, 34, 35, 36, 37, 38, 39, 40, 41, 42, 43, 44, 45, 46] (t := 87) rfl rfl rfl (by kernel_rfl) (Quiet.as (v' := .bool false) (by exact congrArg Value.bool (decide_eq_false (by omega))) (Quiet.int rfl rfl rfl)) ?_
        refine D.gqw [27, 28, 29, 30, 31, 32, 33, 34, 35, 36, 37, 38, 39, 40, 41, 42, 43, 44, 45, 46] (t := 83) rfl rfl rfl (by kernel_rfl) (Quiet.pickF rfl rfl) ?_
        refine D.gqw [28, 29, 30, 31, 32, 33, 34, 35, 36, 37, 38, 39, 40, 41, 42, 43, 44, 45, 46] (t := 83) rfl rfl rfl (by kernel_rfl) (Quiet.move rfl) ?_
        refine D.gqw [29, 30, 31, 32, 33, 34, 35, 36, 37, 38, 39, 40, 41, 42, 43, 44, 45, 46] (t := 93) rfl rfl rfl (by kernel_rfl) (Quiet.move rfl) ?_
        refine D.gqw [30, 31, 32, 33, 34, 35, 36, 37, 38, 39, 40, 41, 42, 43, 44, 45, 46] (t := 93) rfl rfl rfl (by kernel_rfl) (Quiet.indexAddr rfl rfl el_32 (by omega)) ?_
        refine D.gqw [31, 32, 33, 34, 35, 36, 37, 38, 39, 40, 41, 42, 43, 44, 45, 46] (t := 93) rfl rfl rfl (by kernel_rfl) (Quiet.fieldAddr rfl fo_37_0) ?_
        refine D.gqw [32, 33, 34, 35, 36, 37, 38, 39, 40, 41, 42, 43, 44, 45, 46] (t := 93) rfl rfl rfl (by kernel_rfl) (Quiet.loadRd (sz := 4) (j := 0) (p := slR 37 4 _ ([(1, es[i])] : List Tld).length (([(1, es[i])] : List Tld).flatMap tldC)) (v := vint 1) rfl ag_3 (by (repeat (first | exact Pick.here | apply Pick.there))) (fun h hp => slR_rd hp) rfl rfl) ?_
        refine D.gqw [33, 34, 35, 36, 37, 38, 39, 40, 41, 42, 43, 44, 45, 46] (t := 93) rfl rfl rfl (by kernel_rfl) (Quiet.as (v' := .bool false) (by rfl) (Quiet.int rfl rfl rfl)) ?_
        refine D.gqw [34, 35, 36, 37, 38, 39, 40, 41, 42, 43, 44, 45, 46] (t := 83) rfl rfl rfl (by kernel_rfl) (Quiet.pickF rfl rfl) ?_
        refine D.gqw [35, 36, 37, 38, 39, 40, 41, 42, 43, 44, 45, 46] (t := 83) rfl rfl rfl (by kernel_rfl) (Quiet.move rfl) ?_
        refine D.gqw [36, 37, 38, 43, 44, 45, 46] (t := 100) rfl rfl rfl (by kernel_rfl) (Quiet.move rfl) ?_
        refine D.gqw [37, 38, 43, 44, 45, 46] (t := 100) rfl rfl rfl (by kernel_rfl) (Quiet.indexAddr rfl rfl el_32 (by omega)) ?_
        refine D.gqw [38, 43, 44, 45, 46] (t := 100) rfl rfl rfl (by kernel_rfl) (Quiet.fieldAddr rfl fo_37_1) ?_
        refine D.gqw [43, 44, 45, 46] (t := 100) rfl rfl rfl (by kernel_rfl) (Quiet.loadRdA (sz := 4) (j := 1) (k := 3) (p := slR 37 4 _ ([(1, es[i])] : List Tld).length (([(1, es[i])] : List Tld).flatMap tldC)) (vs := evC es[i]) rfl ag_35 (by (repeat (first | exact Pick.here | apply Pick.there))) (fun h hp => slR_rd hp) rfl (by simp) (by simp) rfl) ?_
        refine D.gqw [41, 42, 43, 44, 45, 46] (t := 100) rfl rfl rfl (by kernel_rfl) (Quiet.move rfl) ?_
        refine D.gqw [41, 42, 43, 44, 45, 46] (t := 100) rfl rfl rfl (by kernel_rfl) (Quiet.move rfl) ?_
        refine D.gqw [42, 43, 44, 45, 46] (t := 100) rfl rfl rfl (by kernel_rfl) (Quiet.indexAddr rfl rfl el_23 (by omega)) ?_
        refine D.gqw [43, 44, 45, 46] (t := 100) rfl rfl rfl (by kernel_rfl) (Quiet.loadRdA (sz := 3) (j := i * 3) (k := 3) (p := p) (vs := evC es[i]) rfl ag_35 (by (repeat (first | exact Pick.here | apply Pick.there))) he.cells (by simp) (by omega) (by omega) (flatMap_at (f := evC) (sz := 3) (fun _ _ => rfl) (by omega))) ?_
        refine D.gqw [44, 45, 46] (t := 100) rfl rfl rfl (by kernel_rfl) (Quiet.as (v' := .bool false) (by simp) (Quiet.structNe (r := decide (es[i] = es[i])) rfl rfl (by kernel_rfl) (ev_eq 9998 _ _))) ?_
        refine D.gqw [45, 46] (t := 83) rfl rfl rfl (by kernel_rfl) (Quiet.pickF rfl rfl) ?_
        refine D.gqw [46] (t := 79) rfl rfl rfl (by kernel_rfl) (Quiet.pickT rfl rfl) ?_
        refine D.qw [] rfl (by kernel_rfl) (Quiet.pickF rfl rfl) ?_
        refine D.ph ?_
        refine Phases.fin ?_
        refine G.then_n ?_
        refine G.condF rfl ?_
        refine G.skip ?_
        refine G.then_n ?_
        refine G.seq ?_
        refine G.region ?_
        refine G.q (Quiet.move rfl) rfl ?_
        refine G.q (Quiet.slen rfl Tryd.underlying32 rfl) rfl ?_
        refine G.q (Quiet.as (v' := .bool false) (by rfl) (Quiet.int rfl rfl rfl)) rfl ?_
        refine G.q (Quiet.assign rfl) rfl ?_
        refine G.nil ?_
        refine G.then_n ?_
        refine G.seq ?_
        refine G.seq ?_
        refine G.region ?_
        refine G.q (Quiet.assign rfl) rfl ?_
        refine G.nil ?_
        refine G.then_n ?_
        refine G.block ?_
        refine G.loopK (ι := Nat × Bool) (fun q E => (15, vint q.1) :: (14, .bool q.2) :: E) (fun q => []) (fun q => q.1 ≤ xs.length ∧ q.2 = isPath (xs.take q.1) es[i].2.1) (fun q => xs.length - q.1) (0, false) (ts := [0, 1, 6, 8, 9, 10, 11, 12, 13, 49, 50, 51, 52, 55, 56, 57, 58, 59, 60, 61, 62, 63, 64, 65, 66, 67, 68, 69, 70, 71, 72, 73, 74, 75, 76, 77, 78, 79, 80, 81, 82, 83, 84, 85, 86, 87, 88, 89, 90, 91, 92, 93, 94, 95, 96, 97, 98, 99, 100, 101, 102, 103, 104, 105, 106, 107, 108, 109, 110, 111, 112, 113, 114, 115]) (.cons rfl (.cons rfl (.cons rfl (.cons rfl (.cons rfl (.cons rfl (.cons rfl (.cons rfl (.cons rfl (.cons rfl (.cons rfl (.cons rfl (.cons rfl (.cons rfl (.cons rfl (.cons rfl (.cons rfl (.cons rfl (.cons rfl (.cons rfl (.cons rfl (.cons rfl (.cons rfl (.cons rfl (.cons rfl (.cons rfl (.cons rfl (.cons rfl (.cons rfl (.cons rfl (.cons rfl (.cons rfl (.cons rfl (.cons rfl (.cons rfl (.cons rfl (.cons rfl (.cons rfl (.cons rfl (.cons rfl (.cons rfl (.cons rfl (.cons rfl (.cons rfl (.cons rfl (.cons rfl (.cons rfl (.cons rfl (.cons rfl (.cons rfl (.cons rfl (.cons rfl (.cons rfl (.cons rfl (.cons rfl (.cons rfl (.cons rfl (.cons rfl (.cons rfl (.cons rfl (.cons rfl (.cons rfl (.cons rfl (.cons rfl (.cons rfl (.cons rfl (.cons rfl (.cons rfl (.cons rfl (.cons rfl (.cons rfl (.cons rfl (.cons rfl (.cons rfl (.nil))))))))))))))))))))))))))))))))))))))))))))))))))))))))))))))))))))))))))) (⟨Nat.zero_le _, rfl⟩) ⟨rfl, rfl, rfl, rfl, rfl, rfl, rfl, rfl, rfl, rfl, rfl, rfl, rfl, rfl, rfl, rfl, rfl, rfl, rfl, rfl, rfl, rfl, rfl, rfl, rfl, rfl, rfl, rfl, rfl, rfl, rfl, rfl, rfl, rfl, rfl, rfl, rfl, rfl, rfl, rfl, rfl, rfl, rfl, rfl, rfl, rfl, rfl, rfl, rfl, rfl, rfl, rfl, rfl, rfl, rfl, rfl, rfl, rfl, rfl, rfl, rfl, rfl, rfl, rfl, rfl, rfl, rfl, rfl, rfl, rfl, rfl, rfl, rfl, rfl, rfl, rfl, trivial⟩ (by (repeat (first | exact Picks.nil | (apply Picks.cons; (repeat (first | exact Pick.here | apply Pick.there)))))) ?_
        rintro ⟨j, b⟩ ⟨hj, hbt⟩
        dsimp only
        dsimp only at hj hbt
        refine G.seq ?_
        refine G.seq ?_
        refine G.region ?_
        refine G.q (Quiet.move rfl) rfl ?_
        refine G.q (Quiet.move rfl) rfl ?_
        refine G.q (Quiet.slen rfl Tryd.underlying22 rfl) rfl ?_
        refine G.q (Quiet.int rfl rfl rfl) rfl ?_
        refine G.nil ?_
        refine G.then_n ?_
        refine G.condD rfl (fun h119 => ?_) (fun h119 => ?_)
        · have hi3 : j < xs.length := by omega
          refine G.rdShape (p := p) ha.cells (by (repeat (first | exact Pick.here | apply Pick.there))) (by omega) fun ba oa e0 => ?_
          subst e0
          refine G.skip ?_
          refine G.then_n ?_
          refine G.seq ?_
          refine G.block ?_
          refine G.draw [] [[0, 1, 2, 3, 4, 5, 6, 7, 8, 9, 10, 11, 12, 13, 14]] mixed (by kernel_rfl) ?_
          refine Phases.go [] (by (repeat (first | exact Picks.nil | (apply Picks.cons; (repeat (first | exact Pick.here | apply Pick.there)))))) ?_
          refine D.qw [1, 2, 3, 4, 5, 6, 7, 8, 9, 10, 11, 12, 13, 14] rfl (by kernel_rfl) (Quiet.move rfl) ?_
          refine D.qw [2, 3, 4, 5, 6, 7, 8, 9, 10, 11, 12, 13, 14] rfl (by kernel_rfl) (Quiet.move rfl) ?_
          refine D.bool (t := 123) rfl (fun h23_123 => ?_) (fun h23_123 => ?_)
          · refine D.kB (t := 122) rfl h23_123 ?_
            refine D.gs (t := 123) rfl rfl rfl rfl (by kernel_rfl) ?_
            refine D.gs (t := 123) rfl rfl rfl rfl (by kernel_rfl) ?_
            refine D.gs (t := 123) rfl rfl rfl rfl (by kernel_rfl) ?_
            refine D.gs (t := 123) rfl rfl rfl rfl (by kernel_rfl) ?_
            refine D.gs (t := 123) rfl rfl rfl rfl (by kernel_rfl) ?_
            refine D.gs (t := 123) rfl rfl rfl rfl (by kernel_rfl) ?_
            refine D.gs (t := 123) rfl rfl rfl rfl (by kernel_rfl) ?_
            refine D.gs (t := 123) rfl rfl rfl rfl (by kernel_rfl) ?_
            refine D.gs (t := 123) rfl rfl rfl rfl (by kernel_rfl) ?_
            refine D.gs (t := 123) rfl rfl rfl rfl (by kernel_rfl) ?_
            refine D.gs (t := 123) rfl rfl rfl rfl (by kernel_rfl) ?_
            refine D.qw [14] rfl (by kernel_rfl) (Quiet.pickT rfl rfl) ?_
            refine D.qw [] rfl (by kernel_rfl) (Quiet.assign rfl) ?_
            refine D.ph ?_
            refine Phases.fin ?_
            refine G.blk_n ?_
            refine G.then_n ?_
            refine G.region ?_
            refine G.q (Quiet.move rfl) rfl ?_
            refine G.q (Quiet.add rfl rfl (by omega)) rfl ?_
            refine G.q (Quiet.assign rfl) rfl ?_
            refine G.nil ?_
            refine G.then_n ?_
            exact G.roundK ((j + 1, true)) (⟨by dsimp only; omega, by dsimp only; rw [isPath_take hi3, ← hbt, h23_123]; rfl⟩) (by dsimp only; omega) ⟨rfl, rfl, rfl, rfl, rfl, rfl, rfl, rfl, rfl, rfl, rfl, rfl, rfl, rfl, rfl, rfl, rfl, rfl, rfl, rfl, rfl, rfl, rfl, rfl, rfl, rfl, rfl, rfl, rfl, rfl, rfl, rfl, rfl, rfl, rfl, rfl, rfl, rfl, rfl, rfl, rfl, rfl, rfl, rfl, rfl, rfl, rfl, rfl, rfl, rfl, rfl, rfl, rfl, rfl, rfl, rfl, rfl, rfl, rfl, rfl, rfl, rfl, rfl, rfl, rfl, rfl, rfl, rfl, rfl, rfl, rfl, rfl, rfl, rfl, rfl, rfl, trivial⟩ (by (repeat (first | exact Picks.nil | (apply Picks.cons; (repeat (first | exact Pick.here | apply Pick.there)))))) (by ((repeat (apply Have.cons; (repeat (first | exact Pick.here | apply Pick.there)))); apply Have.base; repeat (first | exact Suff.here | apply Suff.there)))
          · refine D.kB (t := 122) rfl h23_123 ?_
            refine D.gqw [4, 5, 6, 12, 13, 14] (t := 123) rfl rfl rfl (by kernel_rfl) (Quiet.move rfl) ?_
            refine D.gqw [4, 5, 6, 12, 13, 14] (t := 123) rfl rfl rfl (by kernel_rfl) (Quiet.move rfl) ?_
            refine D.gqw [5, 6, 12, 13, 14] (t := 123) rfl rfl rfl (by kernel_rfl) (Quiet.indexAddr rfl rfl el_22 (by omega)) ?_
            refine D.gqw [6, 12, 13, 14] (t := 123) rfl rfl rfl (by kernel_rfl) (Quiet.fieldAddr rfl fo_30_1) ?_
            refine D.gqw [12, 13, 14] (t := 123) rfl rfl rfl (by kernel_rfl) (Quiet.loadRd (sz := 5) (j := j * 5 + 1) (p := p) rfl ag_9 (by (repeat (first | exact Pick.here | apply Pick.there))) ha.cells (by omega) ((arm_cell (l := xs) (i := j) (k := 1) (by omega) (by decide)).trans rfl)) ?_
            refine D.gqw [9, 10, 11, 12, 13, 14] (t := 123) rfl rfl rfl (by kernel_rfl) (Quiet.move rfl) ?_
            refine D.gqw [9, 10, 11, 12, 13, 14] (t := 123) rfl rfl rfl (by kernel_rfl) (Quiet.move rfl) ?_
            refine D.gqw [10, 11, 12, 13, 14] (t := 123) rfl rfl rfl (by kernel_rfl) (Quiet.indexAddr rfl rfl el_23 (by omega)) ?_
            refine D.gqw [11, 12, 13, 14] (t := 123) rfl rfl rfl (by kernel_rfl) (Quiet.fieldAddr rfl fo_35_1) ?_
            refine D.gqw [12, 13, 14] (t := 123) rfl rfl rfl (by kernel_rfl) (Quiet.loadRd (sz := 3) (j := i * 3 + 1) (p := p) rfl ag_9 (by (repeat (first | exact Pick.here | apply Pick.there))) he.cells (by omega) ((ev_cell (l := es) (i := i) (k := 1) (by omega) (by decide)).trans rfl)) ?_
            refine D.gqw [13, 14] (t := 123) rfl rfl rfl (by kernel_rfl) (Quiet.streq rfl rfl) ?_
            refine D.qw [14] rfl (by kernel_rfl) (Quiet.pickF rfl rfl) ?_
            refine D.qw [] rfl (by kernel_rfl) (Quiet.assign rfl) ?_
            refine D.ph ?_
            refine Phases.fin ?_
            refine G.blk_n ?_
            refine G.then_n ?_
            refine G.region ?_
            refine G.q (Quiet.move rfl) rfl ?_
            refine G.q (Quiet.add rfl rfl (by omega)) rfl ?_
            refine G.q (Quiet.assign rfl) rfl ?_
            refine G.nil ?_
            refine G.then_n ?_
            exact G.roundK ((j + 1, decide (xs[j].2.1 = es[i].2.1))) (⟨by dsimp only; omega, by dsimp only; rw [isPath_take hi3, ← hbt, h23_123, Bool.false_or]⟩) (by dsimp only; omega) ⟨rfl, rfl, rfl, rfl, rfl, rfl, rfl, rfl, rfl, rfl, rfl, rfl, rfl, rfl, rfl, rfl, rfl, rfl, rfl, rfl, rfl, rfl, rfl, rfl, rfl, rfl, rfl, rfl, rfl, rfl, rfl, rfl, rfl, rfl, rfl, rfl, rfl, rfl, rfl, rfl, rfl, rfl, rfl, rfl, rfl, rfl, rfl, rfl, rfl, rfl, rfl, rfl, rfl, rfl, rfl, rfl, rfl, rfl, rfl, rfl, rfl, rfl, rfl, rfl, rfl, rfl, rfl, rfl, rfl, rfl, rfl, rfl, rfl, rfl, rfl, rfl, trivial⟩ (by (repeat (first | exact Picks.nil | (apply Picks.cons; (repeat (first | exact Pick.here | apply Pick.there)))))) (by ((repeat (apply Have.cons; (repeat (first | exact Pick.here | apply Pick.there)))); apply Have.base; repeat (first | exact Suff.here | apply Suff.there)))
        · rw [show j = xs.length by omega, List.take_length, hf4] at hbt
          subst hbt
          refine G.exit ?_
          refine G.then_e ?_
          refine G.then_e ?_
          refine G.blk_e ?_
          refine G.then_n ?_
          refine G.seq ?_
          refine G.region ?_
          refine G.q (Quiet.move rfl) rfl ?_
          refine G.q (Quiet.move rfl) rfl ?_
          refine G.q (Quiet.move rfl) rfl ?_
          refine G.q (Quiet.indexAddr rfl rfl el_23 (by omega)) rfl ?_
          refine G.q (Quiet.loadRdA (sz := 3) (j := i * 3) (k := 3) (p := p) (vs := evC es[i]) rfl ag_35 (by (repeat (first | exact Pick.here | apply Pick.there))) he.cells (by simp) (by omega) (by omega) (flatMap_at (f := evC) (sz := 3) (fun _ _ => rfl) (by omega))) rfl ?_
          refine G.op (OpSpec.buildSlice (vs := [_]) el_23 ze_35 rfl rfl rfl rfl (by first | (simp [Value.cells]; done) | (intro v hv; simp only [List.mem_cons, List.not_mem_nil, or_false] at hv; subst hv; rfl)) (by decide)) (by (repeat (first | exact Picks.nil | (apply Picks.cons; (repeat (first | exact Pick.here | apply Pick.there)))))) rfl ?nx147
          rintro v L' ⟨be24, rfl, rfl⟩
          refine G.slMakeN 3 1 (b := be24) (xs := ([es[i]] : List Ev).flatMap evC) (by (repeat (first | exact Pick.here | apply Pick.there))) (by simp [evC, Value.cells]) rfl ?_
          refine G.op (OpSpec.call Tryd.func11 rfl rfl (vs := [_, _]) rfl (wfire_spec t6 (fireL ω [es[i]]).1 _ [es[i]] (slR 35 3 (.slice (some ⟨be24, 0, none⟩) 1 1) 1 (([es[i]] : List Ev).flatMap evC)) (fun h hp => slR_rd hp) (by omega) (by simp))) (by (repeat (first | exact Picks.nil | (apply Picks.cons; (repeat (first | exact Pick.here | apply Pick.there)))))) rfl ?nx149
          rintro v L' ⟨a24, c24, rfl, rfl⟩; rw [(OnceI.again ω es[i]).1, (OnceI.again ω es[i]).2]
          refine G.q (Quiet.assign rfl) rfl ?_
          refine G.nil ?_
          refine G.then_n ?_
          refine G.seq ?_
          refine G.seq ?_
          refine G.region ?_
          refine G.q (Quiet.move rfl) rfl ?_
          refine G.q (Quiet.as (v' := .bool false) (by rfl) (Quiet.not rfl)) rfl ?_
          refine G.q (Quiet.move rfl) rfl ?_
          refine G.grun (t := 145) rfl rfl rfl ?_
          refine G.q (Quiet.move rfl) rfl ?_
          refine G.grun (t := 145) rfl rfl rfl ?_
          refine G.q (Quiet.slen rfl Tryd.underlying32 rfl) rfl ?_
          refine G.grun (t := 145) rfl rfl rfl ?_
          refine G.q (Quiet.as (v' := .bool false) (by rfl) (Quiet.int rfl rfl rfl)) rfl ?_
          refine G.q (Quiet.pickF rfl rfl) rfl ?_
          refine G.nil ?_
          refine G.then_n ?_
          refine G.condF rfl ?_
          refine G.skip ?_
          refine G.then_n ?_
          refine G.region ?_
          refine G.q (Quiet.move rfl) rfl ?_
          refine G.q (Quiet.move rfl) rfl ?_
          refine G.q (Quiet.slen rfl Tryd.underlying32 rfl) rfl ?_
          refine G.q (Quiet.add rfl rfl (by omega)) rfl ?_
          refine G.q (Quiet.assign rfl) rfl ?_
          refine G.nil ?_
          refine G.blk_n ?_
          refine G.then_n ?_
          refine G.region ?_
          refine G.q (Quiet.move rfl) rfl ?_
          refine G.q (Quiet.add rfl rfl (by omega)) rfl ?_
          refine G.q (Quiet.assign rfl) rfl ?_
          refine G.nil ?_
          refine G.then_n ?_
          exact G.roundK ((i + 1, (fireL ω [es[i]]).1, g + 1)) (⟨by dsimp only; omega, hO2, by dsimp only; omega⟩) (by dsimp only; omega) ⟨rfl, rfl, rfl, rfl, rfl, rfl, trivial⟩ (by (repeat (first | exact Picks.nil | (apply Picks.cons; (repeat (first | exact Pick.here | apply Pick.there)))))) (by ((repeat (apply Have.cons; (repeat (first | exact Pick.here | apply Pick.there)))); apply Have.base; repeat (first | exact Suff.here | apply Suff.there)))
    · refine G.exit ?_
      refine G.then_e ?_
      refine G.then_e ?_
      refine G.blk_e ?_
      refine G.then_n ?_
      refine G.seq ?_
      refine G.region ?_
      refine G.q (Quiet.move rfl) rfl ?_
      refine G.q (Quiet.move rfl) rfl ?_
      refine G.q (Quiet.as (v' := .bool true) (by exact congrArg Value.bool (decide_eq_true (by omega))) (Quiet.int rfl rfl rfl)) rfl ?_
      refine G.q (Quiet.assign rfl) rfl ?_
      refine G.nil ?_
      refine G.then_n ?_
      refine G.ret ?_
      exact G.done (l := [.tmp 4]) rfl rfl ⟨rfl, rfl⟩ (by (repeat (first | exact Picks.nil | (apply Picks.cons; (repeat (first | exact Pick.here | apply Pick.there)))))) (by (repeat (first | exact Suff.here | apply Suff.there)))

end Go.Proofs.YtnnbelmpbmfdnaaDoor
