/- Own work, by program: law 07: pick, Events, awake, under, TreeNeighbours: walked. -/
import Derived.Test.YtnnbelmpbmfdnaaDoorL7A
namespace Go.Proofs.YtnnbelmpbmfdnaaDoor
open Go
set_option maxRecDepth 100000 in
theorem pick7_spec  (c n : Int) (hc : -9223372036854775808 ≤ c ∧ c ≤ 9223372036854775807) (hn : 0 < n) : Fn Tryd.prog 29 #[vint c, vint n] [] fun v L => v = vint (pickZ c n) ∧ L = [] := by
  refine Fn.intro (vs := [vint c, vint n]) Tryd.func29 rfl rfl ?_
  intro F W
  refine G.seq ?_
  refine G.region ?_
  refine G.q (Quiet.assign rfl) rfl ?_
  refine G.nil ?_
  refine G.then_n ?_
  refine G.seq ?_
  refine G.seq ?_
  refine G.region ?_
  refine G.q (Quiet.move rfl) rfl ?_
  refine G.q (Quiet.int rfl rfl rfl) rfl ?_
  refine G.nil ?_
  refine G.then_n ?_
  refine G.condD rfl (fun h6 => ?_) (fun h6 => ?_)
  · refine G.region ?_
    refine G.q (Quiet.move rfl) rfl ?_
    refine G.q (Quiet.add rfl rfl (by omega)) rfl ?_
    refine G.q (Quiet.neg rfl (by omega)) rfl ?_
    refine G.q (Quiet.assign rfl) rfl ?_
    refine G.nil ?_
    refine G.then_n ?_
    refine G.seq ?_
    refine G.region ?_
    refine G.q (Quiet.move rfl) rfl ?_
    refine G.q (Quiet.move rfl) rfl ?_
    refine G.q (Quiet.remE rfl rfl (by omega) (by omega)) rfl ?_
    refine G.q (Quiet.assign rfl) rfl ?_
    refine G.nil ?_
    refine G.then_n ?_
    refine G.ret ?_
    have e : pickZ c n = (-(c + 1)) % n := by unfold pickZ; rw [if_pos h6]
    rw [e]
    exact G.done (l := [.tmp 4]) rfl rfl ⟨rfl, rfl⟩ (by (repeat (first | exact Picks.nil | (apply Picks.cons; (repeat (first | exact Pick.here | apply Pick.there)))))) (by (repeat (first | exact Suff.here | apply Suff.there)))
  · refine G.skip ?_
    refine G.then_n ?_
    refine G.seq ?_
    refine G.region ?_
    refine G.q (Quiet.move rfl) rfl ?_
    refine G.q (Quiet.move rfl) rfl ?_
    refine G.q (Quiet.remE rfl rfl (by omega) (by omega)) rfl ?_
    refine G.q (Quiet.assign rfl) rfl ?_
    refine G.nil ?_
    refine G.then_n ?_
    refine G.ret ?_
    have e : pickZ c n = (c) % n := by unfold pickZ; rw [if_neg h6]
    rw [e]
    exact G.done (l := [.tmp 4]) rfl rfl ⟨rfl, rfl⟩ (by (repeat (first | exact Picks.nil | (apply Picks.cons; (repeat (first | exact Pick.here | apply Pick.there)))))) (by (repeat (first | exact Suff.here | apply Suff.there)))

theorem fill_entry (zx : Int) (s0 s1 s2 s3 s4 s5 s6 s7 : Value) : Instr.fill (fun i => [(0, 1), (1, 1), (2, 1), (3, 8)].toArray[i]?) ([.int .i64 0, .int .i64 0, .int .i64 0, .int .i64 0, .string (bs []), .string (bs []), .slice none 0 0, .int .i64 0, .int .i64 0, .int .i64 0, .slice none 0 0] : List Value).toArray [(0, vint zx), (3, .agg ([s0, s1, s2, s3, s4, s5, s6, s7] : List Value).toArray)] = some (([vint zx, vint 0, vint 0] ++ [s0, s1, s2, s3, s4, s5, s6, s7] : List Value).toArray) := by kernel_rfl
def nilA : HP := fun _ => True
theorem nilA_ok (h : Hp) : nilA h := trivial
set_option maxRecDepth 100000 in
theorem events_spec (xs ys : List Ev) (va vb : Value) (h1 : xs.length ≤ 4611686018427387904) : Fn Tryd.prog 27 #[va, vb] [slR 35 3 va xs.length (xs.flatMap evC), slR 35 3 vb ys.length (ys.flatMap evC)] fun v L => v = .bool (decide (xs = ys)) ∧ L = [slR 35 3 va xs.length (xs.flatMap evC), slR 35 3 vb ys.length (ys.flatMap evC)] := by
  refine Fn.intro (vs := [va, vb]) Tryd.func27 rfl rfl ?_
  intro F W
  refine G.slAny (v := va) (by (repeat (first | exact Pick.here | apply Pick.there))) fun aa ca e0 _ => ?_
  subst e0
  refine G.slAny (v := vb) (by (repeat (first | exact Pick.here | apply Pick.there))) fun ab cb e0 _ => ?_
  subst e0
  refine G.seq ?_
  refine G.region ?_
  refine G.q (Quiet.assign rfl) rfl ?_
  refine G.nil ?_
  refine G.then_n ?_
  refine G.seq ?_
  refine G.seq ?_
  refine G.region ?_
  refine G.q (Quiet.move rfl) rfl ?_
  refine G.q (Quiet.slen rfl Tryd.underlying23 rfl) rfl ?_
  refine G.q (Quiet.move rfl) rfl ?_
  refine G.q (Quiet.slen rfl Tryd.underlying23 rfl) rfl ?_
  refine G.q (Quiet.int rfl rfl rfl) rfl ?_
  refine G.nil ?_
  refine G.then_n ?_
  refine G.condN rfl (fun h10 => ?_) (fun h10 => ?_)
  · refine G.seq ?_
    refine G.region ?_
    refine G.q (Quiet.assign rfl) rfl ?_
    refine G.nil ?_
    refine G.then_n ?_
    refine G.ret ?_
    refine G.then_r ?_
    exact G.done (l := [.tmp 4]) rfl rfl ⟨by rw [decide_eq_false (fun e => h10 (by rw [e]))], rfl⟩ (by (repeat (first | exact Picks.nil | (apply Picks.cons; (repeat (first | exact Pick.here | apply Pick.there)))))) (by (repeat (first | exact Suff.here | apply Suff.there)))
  · have hlen : xs.length = ys.length := by omega
    refine G.skip ?_
    refine G.then_n ?_
    refine G.seq ?_
    refine G.seq ?_
    refine G.region ?_
    refine G.q (Quiet.assign rfl) rfl ?_
    refine G.nil ?_
    refine G.then_n ?_
    refine G.block ?_
    refine G.loopK (ι := Nat) (fun q E => (5, vint q) :: E) (fun q => []) (fun q => q ≤ xs.length ∧ xs.take q = ys.take q) (fun q => xs.length - q) (0) (ts := [0, 1]) (.cons rfl (.cons rfl (.nil))) (⟨Nat.zero_le _, rfl⟩) ⟨rfl, rfl, rfl, trivial⟩ (by (repeat (first | exact Picks.nil | (apply Picks.cons; (repeat (first | exact Pick.here | apply Pick.there)))))) ?_
    rintro i ⟨hi, hpre⟩
    refine G.seq ?_
    refine G.seq ?_
    refine G.region ?_
    refine G.q (Quiet.move rfl) rfl ?_
    refine G.q (Quiet.move rfl) rfl ?_
    refine G.q (Quiet.slen rfl Tryd.underlying23 rfl) rfl ?_
    refine G.q (Quiet.int rfl rfl rfl) rfl ?_
    refine G.nil ?_
    refine G.then_n ?_
    refine G.condD rfl (fun h14 => ?_) (fun h14 => ?_)
    · have hi2 : i < xs.length := by omega
      have hi3 : i < ys.length := by omega
      refine G.slShape (v := .slice aa _ ca) (by (repeat (first | exact Pick.here | apply Pick.there))) (by omega) fun ba ba' e0 mba _ => ?_
      simp only [Value.slice.injEq, true_and] at e0
      obtain ⟨rfl, rfl⟩ := e0
      refine G.slShape (v := .slice ab _ cb) (by (repeat (first | exact Pick.here | apply Pick.there))) (by omega) fun bb bb' e0 mbb _ => ?_
      simp only [Value.slice.injEq, true_and] at e0
      obtain ⟨rfl, rfl⟩ := e0
      refine G.skip ?_
      refine G.then_n ?_
      refine G.seq ?_
      refine G.block ?_
      refine G.seq ?_
      refine G.draw [] [[0, 1, 2, 3, 4, 5, 6, 7, 8]] mixed (by kernel_rfl) ?_
      refine Phases.go [] (by (repeat (first | exact Picks.nil | (apply Picks.cons; (repeat (first | exact Pick.here | apply Pick.there)))))) ?_
      refine D.qw [2, 3, 8] rfl (by kernel_rfl) (Quiet.move rfl) ?_
      refine D.qw [2, 3, 8] rfl (by kernel_rfl) (Quiet.move rfl) ?_
      refine D.qw [3, 8] rfl (by kernel_rfl) (Quiet.indexAddr rfl rfl el_23 (by omega)) ?_
      refine D.qw [8] rfl (by kernel_rfl) (Quiet.loadRdA (sz := 3) (j := i * 3) (k := 3) (p := slR 35 3 _ xs.length (xs.flatMap evC)) (vs := evC xs[i]) rfl ag_35 (by (repeat (first | exact Pick.here | apply Pick.there))) (fun h hp => slR_rd hp) (by simp) (by omega) (by omega) (flatMap_at (f := evC) (sz := 3) (fun _ _ => rfl) (by omega))) ?_
      refine D.qw [6, 7, 8] rfl (by kernel_rfl) (Quiet.move rfl) ?_
      refine D.qw [6, 7, 8] rfl (by kernel_rfl) (Quiet.move rfl) ?_
      refine D.qw [7, 8] rfl (by kernel_rfl) (Quiet.indexAddr rfl rfl el_23 (by omega)) ?_
      refine D.qw [8] rfl (by kernel_rfl) (Quiet.loadRdA (sz := 3) (j := i * 3) (k := 3) (p := slR 35 3 _ ys.length (ys.flatMap evC)) (vs := evC ys[i]) rfl ag_35 (by (repeat (first | exact Pick.here | apply Pick.there))) (fun h hp => slR_rd hp) (by simp) (by omega) (by omega) (flatMap_at (f := evC) (sz := 3) (fun _ _ => rfl) (by omega))) ?_
      refine D.qw [] rfl (by kernel_rfl) (Quiet.structNe (r := decide (xs[i] = ys[i])) rfl rfl (by kernel_rfl) (ev_eq 9998 _ _)) ?_
      refine D.ph ?_
      refine Phases.fin ?_
      refine G.then_n ?_
      refine G.condN rfl (fun h25 => ?_) (fun h25 => ?_)
      · refine G.seq ?_
        refine G.region ?_
        refine G.q (Quiet.assign rfl) rfl ?_
        refine G.nil ?_
        refine G.then_n ?_
        refine G.ret ?_
        refine G.blk_r ?_
        refine G.then_r ?_
        refine G.then_r ?_
        refine G.blk_r ?_
        refine G.then_r ?_
        exact G.done (l := [.tmp 4]) rfl rfl ⟨by rw [decide_eq_false (fun e => h25 (by simp only [e]))], rfl⟩ (by (repeat (first | exact Picks.nil | (apply Picks.cons; (repeat (first | exact Pick.here | apply Pick.there)))))) (by (repeat (first | exact Suff.here | apply Suff.there)))
      · refine G.skip ?_
        refine G.blk_n ?_
        refine G.then_n ?_
        refine G.region ?_
        refine G.q (Quiet.move rfl) rfl ?_
        refine G.q (Quiet.add rfl rfl (by omega)) rfl ?_
        refine G.q (Quiet.assign rfl) rfl ?_
        refine G.nil ?_
        refine G.then_n ?_
        exact G.roundK (i + 1) (⟨by omega, by rw [List.take_succ_eq_append_getElem hi2, List.take_succ_eq_append_getElem hi3, hpre, h25]⟩) (by omega) ⟨rfl, rfl, rfl, trivial⟩ (by (repeat (first | exact Picks.nil | (apply Picks.cons; (repeat (first | exact Pick.here | apply Pick.there)))))) (by ((repeat (apply Have.cons; (repeat (first | exact Pick.here | apply Pick.there)))); apply Have.base; repeat (first | exact Suff.here | apply Suff.there)))
    · refine G.exit ?_
      refine G.then_e ?_
      refine G.then_e ?_
      refine G.blk_e ?_
      refine G.then_n ?_
      refine G.seq ?_
      refine G.region ?_
      refine G.q (Quiet.assign rfl) rfl ?_
      refine G.nil ?_
      refine G.then_n ?_
      refine G.ret ?_
      exact G.done (l := [.tmp 4]) rfl rfl ⟨by rw [decide_eq_true (by have hii : i = xs.length := (by omega); rw [hii, List.take_length] at hpre; rw [hlen, List.take_length] at hpre; exact hpre)], rfl⟩ (by (repeat (first | exact Picks.nil | (apply Picks.cons; (repeat (first | exact Pick.here | apply Pick.there)))))) (by (repeat (first | exact Suff.here | apply Suff.there)))

set_option maxRecDepth 100000 in
theorem awake7_spec : Fn Tryd.prog 14 #[] [] fun v L => v = .bool true ∧ L = [] := by
  refine Fn.intro (vs := []) Tryd.func14 rfl rfl ?_
  intro F W
  refine G.seq ?_
  refine G.region ?_
  refine G.q (Quiet.assign rfl) rfl ?_
  refine G.nil ?_
  refine G.then_n ?_
  refine G.seq ?_
  refine G.region ?_
  refine G.op (OpSpec.call Tryd.func16 rfl rfl (vs := []) rfl (trnew_spec)) (by (repeat (first | exact Picks.nil | (apply Picks.cons; (repeat (first | exact Pick.here | apply Pick.there)))))) rfl ?nx2
  rintro v L' ⟨t, rfl, rfl⟩
  refine G.q (Quiet.assign rfl) rfl ?_
  refine G.nil ?_
  refine G.then_n ?_
  refine G.seq ?_
  refine G.seq ?_
  refine G.region ?_
  refine G.q (Quiet.move rfl) rfl ?_
  refine G.q (Quiet.as (v' := .bool false) (by rfl) (Quiet.ptreq rfl rfl Tryd.underlying45)) rfl ?_
  refine G.nil ?_
  refine G.then_n ?_
  refine G.condF rfl ?_
  refine G.skip ?_
  refine G.then_n ?_
  refine G.seq ?_
  refine G.add (p := nilA) nilA_ok ?_
  refine G.region ?_
  refine G.q (Quiet.move rfl) rfl ?_
  refine G.q (Quiet.to (v' := .agg (ptC aw7x).toArray) (Quiet.build (us := [(0, _), (1, _), (2, _), (5, _)]) fl_50 ze_50 rfl rfl (by simp [isCell])) rfl) rfl ?_
  refine G.q (Quiet.buildN (pl := [(0, 1), (1, 1), (2, 1), (3, 8)]) (us := [(0, vint 5), (3, .agg (ptC aw7x).toArray)]) (cells := [vint 5, vint 0, vint 0] ++ ptC aw7x) Tryd.underlying52 (by kernel_rfl) ze_52 rfl (fill_entry _ _ _ _ _ _ _ _ _)) rfl ?_
  refine G.op (OpSpec.call Tryd.func17 rfl rfl (vs := [_, _]) rfl (trapply_spec t newT 5 0 0 aw7x [] nilA (txS_ok _ (by decide)) 1 newT_ok (by decide))) (by (repeat (first | exact Picks.nil | (apply Picks.cons; (repeat (first | exact Pick.here | apply Pick.there)))))) rfl ?nx7
  rintro v L' ⟨u, e, rfl, rfl, ⟨a1, c1, rfl⟩, rfl⟩; rw [aw7_1, show (applyZ newT 5 aw7x []).1 = aw7A from rfl]; dsimp only
  refine G.q (Quiet.move rfl) rfl ?_
  refine G.q (Quiet.extract rfl rfl) rfl ?_
  refine G.q (Quiet.extract rfl rfl) rfl ?_
  refine G.q (Quiet.assign rfl) rfl ?_
  refine G.q (Quiet.assign rfl) rfl ?_
  refine G.nil ?_
  refine G.then_n ?_
  refine G.seq ?_
  refine G.region ?_
  refine G.q (Quiet.move rfl) rfl ?_
  refine G.q (Quiet.to (v' := .agg (ptC aw7y).toArray) (Quiet.build (us := [(0, _), (1, _), (5, _)]) fl_50 ze_50 rfl rfl (by simp [isCell])) rfl) rfl ?_
  refine G.q (Quiet.buildN (pl := [(0, 1), (1, 1), (2, 1), (3, 8)]) (us := [(0, vint 6), (3, .agg (ptC aw7y).toArray)]) (cells := [vint 6, vint 0, vint 0] ++ ptC aw7y) Tryd.underlying52 (by kernel_rfl) ze_52 rfl (fill_entry _ _ _ _ _ _ _ _ _)) rfl ?_
  refine G.op (OpSpec.call Tryd.func17 rfl rfl (vs := [_, _]) rfl (trapply_spec t aw7A 6 0 0 aw7y [] nilA (txS_ok _ (by decide)) 2 aw7_okA (by decide))) (by (repeat (first | exact Picks.nil | (apply Picks.cons; (repeat (first | exact Pick.here | apply Pick.there)))))) rfl ?nx13
  rintro v L' ⟨u, e, rfl, rfl, ⟨a2, c2, rfl⟩, rfl⟩; rw [aw7_2, show (applyZ aw7A 6 aw7y []).1 = aw7B from rfl]; dsimp only
  refine G.q (Quiet.move rfl) rfl ?_
  refine G.q (Quiet.extract rfl rfl) rfl ?_
  refine G.q (Quiet.extract rfl rfl) rfl ?_
  refine G.q (Quiet.assign rfl) rfl ?_
  refine G.q (Quiet.assign rfl) rfl ?_
  refine G.nil ?_
  refine G.then_n ?_
  refine G.seq ?_
  refine G.region ?_
  refine G.q (Quiet.move rfl) rfl ?_
  refine G.op (OpSpec.call Tryd.func25 rfl rfl (vs := [_, _]) rfl (trget_spec t aw7B [47, 97] 3 aw7_okB (by decide))) (by (repeat (first | exact Picks.nil | (apply Picks.cons; (repeat (first | exact Pick.here | apply Pick.there)))))) rfl ?nx17
  rintro v L' ⟨rfl, rfl⟩; rw [if_pos aw7_3.2.2, aw7_3.1, aw7_3.2.1]
  refine G.q (Quiet.move rfl) rfl ?_
  refine G.q (Quiet.extract rfl rfl) rfl ?_
  refine G.q (Quiet.extract rfl rfl) rfl ?_
  refine G.q (Quiet.extract rfl rfl) rfl ?_
  refine G.op (OpSpec.allocA ze_71) (by (repeat (first | exact Picks.nil | (apply Picks.cons; (repeat (first | exact Pick.here | apply Pick.there)))))) rfl ?nx22
  rintro v L' ⟨b7, rfl, rfl⟩
  refine G.q (Quiet.assign rfl) rfl ?_
  refine G.op (OpSpec.storeA rfl rfl ?c24 sz_71 ?c27 ?c25 ?c26) (by (repeat (first | exact Picks.nil | (apply Picks.cons; (repeat (first | exact Pick.here | apply Pick.there)))))) rfl ?nx28
  case c24 => intro v hv; simp only [stC, List.mem_cons, List.not_mem_nil, or_false] at hv; rcases hv with rfl | rfl | rfl | rfl | rfl | rfl | rfl | rfl | rfl <;> rfl
  case c27 => rfl
  case c25 => simp [stC]
  case c26 => exact nfz0 _ _
  rintro v L' rfl
  refine G.q (Quiet.assign rfl) rfl ?_
  refine G.nil ?_
  refine G.ptCast (b := b7) (l' := stC (⟨5, 5, 5, 0, 0, 0, 0, 1, 0⟩ : Stt)) (by (repeat (first | exact Pick.here | apply Pick.there))) rfl ?_
  refine G.then_n ?_
  refine G.seq ?_
  refine G.region ?_
  refine G.q (Quiet.move rfl) rfl ?_
  refine G.op (OpSpec.call Tryd.func26 rfl rfl (vs := [_, _]) rfl (trstat_spec t aw7B [47] 3 aw7_okB (by decide))) (by (repeat (first | exact Picks.nil | (apply Picks.cons; (repeat (first | exact Pick.here | apply Pick.there)))))) rfl ?nx29
  rintro v L' ⟨rfl, rfl⟩; rw [decide_eq_true aw7_4.2, aw7_4.1]
  refine G.q (Quiet.move rfl) rfl ?_
  refine G.q (Quiet.extract rfl rfl) rfl ?_
  refine G.q (Quiet.extract rfl rfl) rfl ?_
  refine G.op (OpSpec.allocA ze_71) (by (repeat (first | exact Picks.nil | (apply Picks.cons; (repeat (first | exact Pick.here | apply Pick.there)))))) rfl ?nx33
  rintro v L' ⟨b9, rfl, rfl⟩
  refine G.op (OpSpec.storeA rfl rfl ?c35 sz_71 ?c38 ?c36 ?c37) (by (repeat (first | exact Picks.nil | (apply Picks.cons; (repeat (first | exact Pick.here | apply Pick.there)))))) rfl ?nx39
  case c35 => intro v hv; simp only [stC, List.mem_cons, List.not_mem_nil, or_false] at hv; rcases hv with rfl | rfl | rfl | rfl | rfl | rfl | rfl | rfl | rfl <;> rfl
  case c38 => rfl
  case c36 => simp [stC]
  case c37 => exact nfz0 _ _
  rintro v L' rfl
  refine G.q (Quiet.assign rfl) rfl ?_
  refine G.nil ?_
  refine G.ptCast (b := b9) (l' := stC (⟨0, 0, 5, 0, 1, 0, 0, 0, 1⟩ : Stt)) (by (repeat (first | exact Pick.here | apply Pick.there))) rfl ?_
  refine G.then_n ?_
  refine G.seq ?_
  refine G.region ?_
  refine G.q (Quiet.move rfl) rfl ?_
  refine G.q (Quiet.build (us := [(0, _), (1, _), (2, _)]) fl_35 ze_35 rfl rfl (by simp [isCell])) rfl ?_
  refine G.q (Quiet.build (us := [(0, _), (1, _), (2, _)]) fl_35 ze_35 rfl rfl (by simp [isCell])) rfl ?_
  refine G.op (OpSpec.buildSlice (vs := [_, _]) el_23 ze_35 rfl rfl rfl rfl (by first | (simp [Value.cells]; done) | (intro v hv; simp only [List.mem_cons, List.not_mem_nil, or_false] at hv; (repeat (first | (subst hv; rfl) | (rcases hv with hv | hv; (subst hv; rfl)))))) (by decide)) (by (repeat (first | exact Picks.nil | (apply Picks.cons; (repeat (first | exact Pick.here | apply Pick.there)))))) rfl ?nx42
  rintro v L' ⟨be, rfl, rfl⟩
  refine G.slMakeN 3 2 (b := be) (xs := ([(1, ([47, 97], 5)), (4, ([47], 5))] : List Ev).flatMap evC) (by (repeat (first | exact Pick.here | apply Pick.there))) rfl rfl ?_
  refine G.op (OpSpec.call Tryd.func27 rfl rfl (vs := [_, _]) rfl (events_spec ([(1, ([47, 97], 5)), (4, ([47], 5))] : List Ev) ([(1, ([47, 97], 5)), (4, ([47], 5))] : List Ev) _ _ (by decide))) (by (repeat (first | exact Picks.nil | (apply Picks.cons; (repeat (first | exact Pick.here | apply Pick.there)))))) rfl ?nx44
  rintro v L' ⟨rfl, rfl⟩; rw [decide_eq_true rfl]
  refine G.q (Quiet.assign rfl) rfl ?_
  refine G.nil ?_
  refine G.then_n ?_
  refine G.seq ?_
  refine G.region ?_
  refine G.q (Quiet.move rfl) rfl ?_
  refine G.q (Quiet.as (v' := .bool true) (by rfl) (Quiet.int rfl rfl rfl)) rfl ?_
  refine G.q (Quiet.move rfl) rfl ?_
  refine G.grun (t := 48) rfl rfl rfl ?_
  refine G.q (Quiet.move rfl) rfl ?_
  refine G.grun (t := 48) rfl rfl rfl ?_
  refine G.q (Quiet.as (v' := .bool true) (by rfl) (Quiet.int rfl rfl rfl)) rfl ?_
  refine G.q (Quiet.pickT rfl rfl) rfl ?_
  refine G.q (Quiet.move rfl) rfl ?_
  refine G.grun (t := 52) rfl rfl rfl ?_
  refine G.q (Quiet.move rfl) rfl ?_
  refine G.grun (t := 52) rfl rfl rfl ?_
  refine G.q (Quiet.as (v' := .bool true) (by rfl) (Quiet.int rfl rfl rfl)) rfl ?_
  refine G.q (Quiet.pickT rfl rfl) rfl ?_
  refine G.q (Quiet.move rfl) rfl ?_
  refine G.grun (t := 56) rfl rfl rfl ?_
  refine G.q (Quiet.move rfl) rfl ?_
  refine G.grun (t := 56) rfl rfl rfl ?_
  refine G.q (Quiet.slen rfl Tryd.underlying23 rfl) rfl ?_
  refine G.grun (t := 56) rfl rfl rfl ?_
  refine G.q (Quiet.as (v' := .bool true) (by rfl) (Quiet.int rfl rfl rfl)) rfl ?_
  refine G.q (Quiet.pickT rfl rfl) rfl ?_
  refine G.q (Quiet.move rfl) rfl ?_
  refine G.grun (t := 61) rfl rfl rfl ?_
  refine G.q (Quiet.move rfl) rfl ?_
  refine G.q (Quiet.pickT rfl rfl) rfl ?_
  refine G.q (Quiet.assign rfl) rfl ?_
  refine G.nil ?_
  refine G.then_n ?_
  refine G.seq ?_
  refine G.region ?_
  refine G.q (Quiet.move rfl) rfl ?_
  refine G.q (Quiet.move rfl) rfl ?_
  refine G.grun (t := 65) rfl rfl rfl ?_
  refine G.q (Quiet.move rfl) rfl ?_
  refine G.q (Quiet.pickT rfl rfl) rfl ?_
  refine G.q (Quiet.move rfl) rfl ?_
  refine G.grun (t := 68) rfl rfl rfl ?_
  refine G.q (Quiet.move rfl) rfl ?_
  refine G.grun (t := 68) rfl rfl rfl ?_
  refine G.q (Quiet.as (v' := .bool true) (by rfl) (Quiet.streq rfl rfl)) rfl ?_
  refine G.q (Quiet.pickT rfl rfl) rfl ?_
  refine G.q (Quiet.move rfl) rfl ?_
  refine G.grun (t := 72) rfl rfl rfl ?_
  refine G.q (Quiet.loadAs (vs := stC (⟨5, 5, 5, 0, 0, 0, 0, 1, 0⟩ : Stt)) rfl ag_71 (by (repeat (first | exact Pick.here | apply Pick.there))) (by simp [stC]) rfl) rfl ?_
  refine G.grun (t := 72) rfl rfl rfl ?_
  refine G.q (Quiet.to (v' := .agg (stC (⟨5, 5, 5, 0, 0, 0, 0, 1, 0⟩ : Stt)).toArray) (Quiet.build (us := [(0, _), (1, _), (2, _), (7, _)]) fl_71 ze_71 rfl rfl (by simp [isCell])) rfl) rfl ?_
  refine G.grun (t := 72) rfl rfl rfl ?_
  refine G.q (Quiet.as (v' := .bool true) (by simp) (Quiet.structEq (r := decide ((⟨5, 5, 5, 0, 0, 0, 0, 1, 0⟩ : Stt) = (⟨5, 5, 5, 0, 0, 0, 0, 1, 0⟩ : Stt))) rfl rfl (by kernel_rfl) (st_eq 9998 _ _))) rfl ?_
  refine G.q (Quiet.pickT rfl rfl) rfl ?_
  refine G.q (Quiet.move rfl) rfl ?_
  refine G.grun (t := 77) rfl rfl rfl ?_
  refine G.q (Quiet.loadAs (vs := stC (⟨0, 0, 5, 0, 1, 0, 0, 0, 1⟩ : Stt)) rfl ag_71 (by (repeat (first | exact Pick.here | apply Pick.there))) (by simp [stC]) rfl) rfl ?_
  refine G.grun (t := 77) rfl rfl rfl ?_
  refine G.q (Quiet.to (v' := .agg (stC (⟨0, 0, 5, 0, 1, 0, 0, 0, 1⟩ : Stt)).toArray) (Quiet.build (us := [(2, _), (4, _), (8, _)]) fl_71 ze_71 rfl rfl (by simp [isCell])) rfl) rfl ?_
  refine G.grun (t := 77) rfl rfl rfl ?_
  refine G.q (Quiet.as (v' := .bool true) (by simp) (Quiet.structEq (r := decide ((⟨0, 0, 5, 0, 1, 0, 0, 0, 1⟩ : Stt) = (⟨0, 0, 5, 0, 1, 0, 0, 0, 1⟩ : Stt))) rfl rfl (by kernel_rfl) (st_eq 9998 _ _))) rfl ?_
  refine G.q (Quiet.pickT rfl rfl) rfl ?_
  refine G.q (Quiet.move rfl) rfl ?_
  refine G.grun (t := 82) rfl rfl rfl ?_
  refine G.q (Quiet.move rfl) rfl ?_
  refine G.grun (t := 82) rfl rfl rfl ?_
  refine G.op (OpSpec.call Tryd.func28 rfl rfl (vs := [_]) rfl (trzxid_spec t aw7B)) (by (repeat (first | exact Picks.nil | (apply Picks.cons; (repeat (first | exact Pick.here | apply Pick.there)))))) rfl ?nx58
  rintro v L' ⟨rfl, rfl⟩; rw [aw7_5]
  refine G.grun (t := 82) rfl rfl rfl ?_
  refine G.q (Quiet.as (v' := .bool true) (by rfl) (Quiet.int rfl rfl rfl)) rfl ?_
  refine G.q (Quiet.pickT rfl rfl) rfl ?_
  refine G.q (Quiet.assign rfl) rfl ?_
  refine G.nil ?_
  refine G.then_n ?_
  refine G.ret ?_
  exact G.done (l := [.tmp 0]) rfl rfl ⟨rfl, rfl⟩ (by (repeat (first | exact Picks.nil | (apply Picks.cons; (repeat (first | exact Pick.here | apply Pick.there)))))) (by (repeat (first | exact Suff.here | apply Suff.there)))

theorem ent_cells {zx kind : Int} {path data : Bs} {num : Int} {y : Value} (h : y ∈ (Value.agg ([vint zx, vint 0, vint 0] ++ ptC (ptS kind path data num)).toArray).cells.toList) : isCell y = true := by
  simp only [Value.cells, ptC, ptS, List.mem_append, List.mem_cons, List.not_mem_nil, or_false] at h
  rcases h with (rfl | rfl | rfl) | rfl | rfl | rfl | rfl | rfl | rfl | rfl | rfl <;> rfl
set_option maxRecDepth 100000 in
theorem under7_spec (r0 : Bs) (v : Value) (xs : List Ac0) (p : HP) (hq : r0.length ≤ 60) (hx : Acts0 p v xs) : Fn Tryd.prog 15 #[vstr r0, v] [p] fun u L => (∃ a c, u = .slice a (undL r0 xs).length c) ∧ L = [p, slR 52 11 u (undL r0 xs).length ((undL r0 xs).flatMap enC)] := by
  refine Fn.intro (vs := [vstr r0, v]) Tryd.func15 rfl rfl ?_
  intro F W
  refine G.rdAny (p := p) hx.cells (by (repeat (first | exact Pick.here | apply Pick.there))) fun ax cx e0 _ => ?_
  subst e0
  have hlx := hx.len
  refine G.seq ?_
  refine G.region ?_
  refine G.q (Quiet.assign rfl) rfl ?_
  refine G.nil ?_
  refine G.then_n ?_
  refine G.seq ?_
  refine G.region ?_
  refine G.op (OpSpec.buildSlice1 (vs := [_, _, _, _, _, _]) el_78 ze_9 rfl rfl rfl rfl rfl (by decide)) (by (repeat (first | exact Picks.nil | (apply Picks.cons; (repeat (first | exact Pick.here | apply Pick.there)))))) rfl ?nx2
  rintro v L' ⟨bn, rfl, rfl⟩
  refine G.q (Quiet.assign rfl) rfl ?_
  refine G.nil ?_
  refine G.ptCast (b := bn) (l' := undNames.map vstr) (by (repeat (first | exact Pick.here | apply Pick.there))) rfl ?_
  refine G.then_n ?_
  refine G.seq ?_
  refine G.add (slR_nil 52 11) ?_
  refine G.region ?_
  refine G.q (Quiet.assign rfl) rfl ?_
  refine G.nil ?_
  refine G.then_n ?_
  refine G.seq ?_
  refine G.seq ?_
  refine G.region ?_
  refine G.q (Quiet.assign rfl) rfl ?_
  refine G.nil ?_
  refine G.then_n ?_
  refine G.block ?_
  refine G.loopK (ι := Nat × Value) (fun q E => (7, vint q.1) :: (6, q.2) :: E) (fun q => [slR 52 11 q.2 (undTo r0 xs q.1).length ((undTo r0 xs q.1).flatMap enC)]) (fun q => q.1 ≤ xs.length ∧ q.1 ≤ 60 ∧ ∃ a c, q.2 = .slice a (undTo r0 xs q.1).length c) (fun q => xs.length - q.1) (0, .slice none 0 0) (ts := [0, 1, 4, 5]) (.cons rfl (.cons rfl (.cons rfl (.cons rfl (.nil))))) (⟨Nat.zero_le _, Nat.zero_le _, none, 0, rfl⟩) ⟨rfl, rfl, rfl, rfl, rfl, rfl, trivial⟩ (by (repeat (first | exact Picks.nil | (apply Picks.cons; (repeat (first | exact Pick.here | apply Pick.there)))))) ?_
  rintro ⟨i, u⟩ ⟨hi, hi60, au, cu, hu⟩
  dsimp only
  dsimp only at hi hi60 hu
  subst hu
  have hul := undTo_len r0 xs i
  refine G.seq ?_
  refine G.seq ?_
  refine G.region ?_
  refine G.q (Quiet.move rfl) rfl ?_
  refine G.q (Quiet.move rfl) rfl ?_
  refine G.q (Quiet.slen rfl Tryd.underlying42 rfl) rfl ?_
  refine G.q (Quiet.int rfl rfl rfl) rfl ?_
  refine G.q (Quiet.move rfl) rfl ?_
  refine G.dec (t := 15) rfl (fun h4_15 => ?_) (fun h4_15 => ?_)
  · refine G.kDT (t := 14) rfl h4_15 ?_
    refine G.grun (t := 15) rfl rfl rfl ?_
    refine G.q (Quiet.move rfl) rfl ?_
    refine G.grun (t := 15) rfl rfl rfl ?_
    refine G.q (Quiet.int rfl rfl rfl) rfl ?_
    refine G.q (Quiet.pickT rfl rfl) rfl ?_
    refine G.nil ?_
    refine G.then_n ?_
    refine G.condD rfl (fun h18 => ?_) (fun h18 => ?_)
    · have hi2 : i < xs.length := by omega
      refine G.rdShape (p := p) hx.cells (by (repeat (first | exact Pick.here | apply Pick.there))) (by omega) fun bx ox e0 => ?_
      subst e0
      obtain ⟨hk1, hk2, hk3, hk4⟩ := hx.ok _ (List.getElem_mem hi2)
      have hp6 := pickZ_range xs[i].2.1 (n := 6) (by decide)
      have hp4 := pickZ_range xs[i].1 (n := 4) (by decide)
      have hp9 := pickZ_range xs[i].2.2.1 (n := 9) (by decide)
      have hnl := undName_len (pickZ xs[i].2.1 6)
      refine G.skip ?_
      refine G.then_n ?_
      refine G.seq ?_
      refine G.block ?_
      refine G.seq ?_
      refine G.region ?_
      refine G.q (Quiet.move rfl) rfl ?_
      refine G.q (Quiet.concat rfl rfl (by simp; omega)) rfl ?_
      refine G.q (Quiet.move rfl) rfl ?_
      refine G.q (Quiet.move rfl) rfl ?_
      refine G.q (Quiet.move rfl) rfl ?_
      refine G.q (Quiet.indexAddr rfl rfl el_42 (by omega)) rfl ?_
      refine G.q (Quiet.fieldAddr rfl fo_81_1) rfl ?_
      refine G.q (Quiet.loadRd (sz := 5) (j := i * 5 + 1) (p := p) rfl ag_3 (by (repeat (first | exact Pick.here | apply Pick.there))) hx.cells (by omega) ((ac0_cell (l := xs) (i := i) (k := 1) (by omega) (by decide)).trans rfl)) rfl ?_
      refine G.op (OpSpec.call Tryd.func29 rfl rfl (vs := [_, _]) rfl (pick7_spec _ _ ?hc20 (by decide))) (by (repeat (first | exact Picks.nil | (apply Picks.cons; (repeat (first | exact Pick.here | apply Pick.there)))))) rfl ?nx21
      case hc20 => first | assumption | omega
      rintro v L' ⟨rfl, rfl⟩
      refine G.q (Quiet.indexAddr rfl rfl el_78 (by omega)) rfl ?_
      refine G.q (Quiet.load rfl ag_9 (by (repeat (first | exact Pick.here | apply Pick.there))) (undName_at hp6.1 hp6.2)) rfl ?_
      refine G.q (Quiet.concat rfl rfl (by simp; omega)) rfl ?_
      refine G.q (Quiet.assign rfl) rfl ?_
      refine G.nil ?_
      refine G.then_n ?_
      refine G.seq ?_
      refine G.region ?_
      refine G.q (Quiet.move rfl) rfl ?_
      refine G.q (Quiet.move rfl) rfl ?_
      refine G.q (Quiet.indexAddr rfl rfl el_42 (by omega)) rfl ?_
      refine G.q (Quiet.fieldAddr rfl fo_81_0) rfl ?_
      refine G.q (Quiet.loadRd (sz := 5) (j := i * 5 + 0) (p := p) rfl ag_3 (by (repeat (first | exact Pick.here | apply Pick.there))) hx.cells (by omega) ((ac0_cell (l := xs) (i := i) (k := 0) (by omega) (by decide)).trans rfl)) rfl ?_
      refine G.op (OpSpec.call Tryd.func29 rfl rfl (vs := [_, _]) rfl (pick7_spec _ _ ?hc31 (by decide))) (by (repeat (first | exact Picks.nil | (apply Picks.cons; (repeat (first | exact Pick.here | apply Pick.there)))))) rfl ?nx32
      case hc31 => first | assumption | omega
      rintro v L' ⟨rfl, rfl⟩
      refine G.q (Quiet.add rfl rfl (by omega)) rfl ?_
      refine G.q (Quiet.assign rfl) rfl ?_
      refine G.nil ?_
      refine G.then_n ?_
      refine G.draw [18, 19] [[0, 1, 2, 3, 4, 5, 6, 7, 8, 9, 10, 11, 12, 13, 14, 15, 16, 17, 18], [19], [20]] mixed (by kernel_rfl) ?_
      refine Phases.go [p] (by (repeat (first | exact Picks.nil | (apply Picks.cons; (repeat (first | exact Pick.here | apply Pick.there)))))) ?_
      refine D.q rfl (by kernel_rfl) (Quiet.move rfl) ?_
      refine D.qw [2, 17, 18] rfl (by kernel_rfl) (Quiet.move rfl) ?_
      refine D.qw [17, 18] rfl (by kernel_rfl) (Quiet.add rfl rfl (by omega)) ?_
      refine D.qw [16, 17, 18] rfl (by kernel_rfl) (Quiet.move rfl) ?_
      refine D.qw [16, 17, 18] rfl (by kernel_rfl) (Quiet.move rfl) ?_
      refine D.qw [7, 8, 9, 16, 17, 18] rfl (by kernel_rfl) (Quiet.move rfl) ?_
      refine D.qw [7, 8, 9, 16, 17, 18] rfl (by kernel_rfl) (Quiet.move rfl) ?_
      refine D.qw [8, 9, 16, 17, 18] rfl (by kernel_rfl) (Quiet.indexAddr rfl rfl el_42 (by omega)) ?_
      refine D.qw [9, 16, 17, 18] rfl (by kernel_rfl) (Quiet.fieldAddr rfl fo_81_3) ?_
      refine D.qw [16, 17, 18] rfl (by kernel_rfl) (Quiet.loadRd (sz := 5) (j := i * 5 + 3) (p := p) rfl ag_9 (by (repeat (first | exact Pick.here | apply Pick.there))) hx.cells (by omega) ((ac0_cell (l := xs) (i := i) (k := 3) (by omega) (by decide)).trans rfl)) ?_
      refine D.qw [12, 13, 14, 15, 16, 17, 18] rfl (by kernel_rfl) (Quiet.move rfl) ?_
      refine D.qw [12, 13, 14, 15, 16, 17, 18] rfl (by kernel_rfl) (Quiet.move rfl) ?_
      refine D.qw [13, 14, 15, 16, 17, 18] rfl (by kernel_rfl) (Quiet.indexAddr rfl rfl el_42 (by omega)) ?_
      refine D.qw [14, 15, 16, 17, 18] rfl (by kernel_rfl) (Quiet.fieldAddr rfl fo_81_2) ?_
      refine D.qw [15, 16, 17, 18] rfl (by kernel_rfl) (Quiet.loadRd (sz := 5) (j := i * 5 + 2) (p := p) rfl ag_3 (by (repeat (first | exact Pick.here | apply Pick.there))) hx.cells (by omega) ((ac0_cell (l := xs) (i := i) (k := 2) (by omega) (by decide)).trans rfl)) ?_
      refine D.m rfl (by kernel_rfl) (OpSpec.call Tryd.func29 rfl rfl (vs := [_, _]) rfl (pick7_spec _ _ ?hc48 (by decide))) (by (repeat (first | exact Picks.nil | (apply Picks.cons; (repeat (first | exact Pick.here | apply Pick.there)))))) ?nx49
      case hc48 => first | assumption | omega
      refine D.qw [17, 18] rfl (by kernel_rfl) (Quiet.to (v' := .agg (ptC (ptS (1 + pickZ xs[i].1 4) (r0 ++ [47] ++ undName (pickZ xs[i].2.1 6)) xs[i].2.2.2.1 (pickZ xs[i].2.2.1 9))).toArray) (Quiet.build (us := [(0, _), (1, _), (2, _), (5, _)]) fl_50 ze_50 rfl rfl (by simp [isCell])) rfl) ?_
      refine D.qw [18] rfl (by kernel_rfl) (Quiet.buildN (pl := [(0, 1), (1, 1), (2, 1), (3, 8)]) (us := [(0, vint (10 + (i : Int))), (3, .agg (ptC (ptS (1 + pickZ xs[i].1 4) (r0 ++ [47] ++ undName (pickZ xs[i].2.1 6)) xs[i].2.2.2.1 (pickZ xs[i].2.2.1 9))).toArray)]) (cells := [vint (10 + (i : Int)), vint 0, vint 0] ++ ptC (ptS (1 + pickZ xs[i].1 4) (r0 ++ [47] ++ undName (pickZ xs[i].2.1 6)) xs[i].2.2.2.1 (pickZ xs[i].2.2.1 9))) Tryd.underlying52 (by kernel_rfl) ze_52 rfl (fill_entry _ _ _ _ _ _ _ _ _)) ?_
      refine D.h rfl (by kernel_rfl) (OpSpec.buildSlice (vs := [_]) el_43 ze_52 rfl rfl rfl rfl (by first | (simp [Value.cells]; done) | (intro v hv; simp only [List.mem_cons, List.not_mem_nil, or_false] at hv; (repeat (first | (subst hv; rfl) | (rcases hv with hv | hv; (subst hv; rfl)))))) (by decide)) (by (repeat (first | exact Picks.nil | (apply Picks.cons; (repeat (first | exact Pick.here | apply Pick.there)))))) ?nx53
      rintro v L' ⟨bo, rfl, rfl⟩
      refine D.ph ?_
      refine Phases.go [] (by (repeat (first | exact Picks.nil | (apply Picks.cons; (repeat (first | exact Pick.here | apply Pick.there)))))) ?_
      refine D.h rfl (by kernel_rfl) (OpSpec.append1 rfl rfl rfl el_43 ze_52 rfl rfl ?c55 ?c56 (Nat.le_refl _) ?c57 (by decide)) (by (repeat (first | exact Picks.nil | (apply Picks.cons; (repeat (first | exact Pick.here | apply Pick.there)))))) ?nx58
      case c55 => intro y hy; simp only [List.map_cons, List.map_nil, List.flatten_cons, List.flatten_nil, List.append_nil] at hy; exact ent_cells hy
      case c56 => rfl
      case c57 => omega
      rintro v L' ⟨⟨a8_19, c8_19, rfl⟩, rfl⟩
      refine D.ph ?_
      refine Phases.go [] (by (repeat (first | exact Picks.nil | (apply Picks.cons; (repeat (first | exact Pick.here | apply Pick.there)))))) ?_
      refine D.qw [] rfl (by kernel_rfl) (Quiet.assign rfl) ?_
      refine D.ph ?_
      refine Phases.fin ?_
      refine G.blk_n ?_
      refine G.then_n ?_
      refine G.region ?_
      refine G.q (Quiet.move rfl) rfl ?_
      refine G.q (Quiet.add rfl rfl (by omega)) rfl ?_
      refine G.q (Quiet.assign rfl) rfl ?_
      refine G.nil ?_
      refine G.then_n ?_
      have hst : undTo r0 xs (i + 1) = undTo r0 xs i ++ [undE r0 i xs[i]] := by rw [undTo, List.getD_eq_getElem?_getD, List.getElem?_eq_getElem hi2, Option.getD_some]
      refine G.slCast (T := 52) (sz := 11) (m' := (undTo r0 xs (i + 1)).length) (xs' := (undTo r0 xs (i + 1)).flatMap enC) (by (repeat (first | exact Pick.here | apply Pick.there))) (by rw [hst, List.length_append]; rfl) (by rw [hst, List.flatMap_append]; rfl) ?_
      exact G.roundK ((i + 1, .slice a8_19 ((undTo r0 xs i).length + 1) c8_19)) (⟨by dsimp only; omega, by dsimp only; omega, _, _, by rw [hst, List.length_append]; rfl⟩) (by dsimp only; omega) ⟨rfl, rfl, rfl, rfl, rfl, rfl, trivial⟩ (by (repeat (first | exact Picks.nil | (apply Picks.cons; (repeat (first | exact Pick.here | apply Pick.there)))))) (by ((repeat (apply Have.cons; (repeat (first | exact Pick.here | apply Pick.there)))); apply Have.base; repeat (first | exact Suff.here | apply Suff.there)))
    · refine G.exit ?_
      refine G.then_e ?_
      refine G.then_e ?_
      refine G.blk_e ?_
      refine G.then_n ?_
      refine G.seq ?_
      refine G.region ?_
      refine G.q (Quiet.move rfl) rfl ?_
      refine G.q (Quiet.assign rfl) rfl ?_
      refine G.nil ?_
      refine G.then_n ?_
      refine G.ret ?_
      have hmin : i = min 60 xs.length := by omega
      subst hmin
      exact G.done (l := [.tmp 4]) rfl rfl ⟨⟨_, _, rfl⟩, rfl⟩ (by (repeat (first | exact Picks.nil | (apply Picks.cons; (repeat (first | exact Pick.here | apply Pick.there)))))) (by (repeat (first | exact Suff.here | apply Suff.there)))
  · refine G.kDF (t := 14) rfl h4_15 ?_
    refine G.gskip (t := 15) rfl rfl rfl rfl ?_
    refine G.gskip (t := 15) rfl rfl rfl rfl ?_
    refine G.q (Quiet.pickF rfl rfl) rfl ?_
    refine G.nil ?_
    refine G.then_n ?_
    refine G.condF rfl ?_
    refine G.exit ?_
    refine G.then_e ?_
    refine G.then_e ?_
    refine G.blk_e ?_
    refine G.then_n ?_
    refine G.seq ?_
    refine G.region ?_
    refine G.q (Quiet.move rfl) rfl ?_
    refine G.q (Quiet.assign rfl) rfl ?_
    refine G.nil ?_
    refine G.then_n ?_
    refine G.ret ?_
    have hmin : i = min 60 xs.length := by omega
    subst hmin
    exact G.done (l := [.tmp 4]) rfl rfl ⟨⟨_, _, rfl⟩, rfl⟩ (by (repeat (first | exact Picks.nil | (apply Picks.cons; (repeat (first | exact Pick.here | apply Pick.there)))))) (by (repeat (first | exact Suff.here | apply Suff.there)))

def beg7 : List En := [enS 1 1 [47, 97] [] 1, enS 2 1 [47, 98] [] 2]
theorem beg_tx : ∀ e ∈ beg7, TxA nilA e.x e.subs := fun e he => by
  simp only [beg7, List.mem_cons, List.not_mem_nil, or_false] at he
  rcases he with rfl | rfl <;> exact txS_ok _ (by decide)
theorem und_tx {q : Bs} (hq : q.length ≤ 60) {xs : List Ac0} : ∀ e ∈ undL q xs, TxA nilA e.x e.subs := fun e he => by
  obtain ⟨-, h2, kind, k, data, num, h3⟩ := und_plain e he
  rw [h2, h3]
  have := undName_len k
  exact txS_ok _ (by rw [List.length_append, List.length_append]; simp; omega)
theorem beg_plain : ∀ e ∈ beg7, e.x.acl = [] ∧ e.subs = [] := fun e he => by
  simp only [beg7, List.mem_cons, List.not_mem_nil, or_false] at he
  rcases he with rfl | rfl <;> exact ⟨rfl, rfl⟩
theorem und_pl {q : Bs} {xs : List Ac0} : ∀ e ∈ undL q xs, e.x.acl = [] ∧ e.subs = [] := fun e he => ⟨(und_plain e he).1, (und_plain e he).2.1⟩
theorem take_pl {l : List En} (h : ∀ e ∈ l, e.x.acl = [] ∧ e.subs = []) (i : Nat) : ∀ e ∈ l.take i, e.x.acl = [] ∧ e.subs = [] := fun e he => h e (List.mem_of_mem_take he)
set_option maxRecDepth 100000 in
theorem neigh7_spec (va vb : Value) (xs ys : List Ac0) (p : HP) (ha : Acts0 p va xs) (hb : Acts0 p vb ys) : Fn Tryd.prog 6 #[va, vb] [p] fun v L => v = .bool true ∧ L = [p] := by
  refine Fn.intro (vs := [va, vb]) Tryd.func6 rfl rfl ?_
  intro F W
  refine G.add (p := nilA) nilA_ok ?_
  have hla : (undL [47, 97] xs).length ≤ 60 := by unfold undL; rw [undTo_len]; omega
  have hlb : (undL [47, 98] ys).length ≤ 60 := by unfold undL; rw [undTo_len]; omega
  have hbl : beg7.length = 2 := rfl
  refine G.seq ?_
  refine G.region ?_
  refine G.q (Quiet.assign rfl) rfl ?_
  refine G.nil ?_
  refine G.then_n ?_
  refine G.seq ?_
  refine G.region ?_
  refine G.op (OpSpec.call Tryd.func14 rfl rfl (vs := []) rfl (awake7_spec)) (by (repeat (first | exact Picks.nil | (apply Picks.cons; (repeat (first | exact Pick.here | apply Pick.there)))))) rfl ?nx2
  rintro v L' ⟨rfl, rfl⟩
  refine G.q (Quiet.assign rfl) rfl ?_
  refine G.nil ?_
  refine G.then_n ?_
  refine G.seq ?_
  refine G.region ?_
  refine G.q (Quiet.move rfl) rfl ?_
  refine G.op (OpSpec.call Tryd.func15 rfl rfl (vs := [_, _]) rfl (under7_spec [47, 97] va xs p (by decide) ha)) (by (repeat (first | exact Picks.nil | (apply Picks.cons; (repeat (first | exact Pick.here | apply Pick.there)))))) rfl ?nx5
  rintro v L' ⟨⟨a6, c6, rfl⟩, rfl⟩
  refine G.q (Quiet.assign rfl) rfl ?_
  refine G.nil ?_
  refine G.then_n ?_
  refine G.seq ?_
  refine G.region ?_
  refine G.q (Quiet.move rfl) rfl ?_
  refine G.op (OpSpec.call Tryd.func15 rfl rfl (vs := [_, _]) rfl (under7_spec [47, 98] vb ys p (by decide) hb)) (by (repeat (first | exact Picks.nil | (apply Picks.cons; (repeat (first | exact Pick.here | apply Pick.there)))))) rfl ?nx8
  rintro v L' ⟨⟨a7, c7, rfl⟩, rfl⟩
  refine G.q (Quiet.assign rfl) rfl ?_
  refine G.nil ?_
  refine G.then_n ?_
  refine G.seq ?_
  refine G.region ?_
  refine G.op (OpSpec.call Tryd.func16 rfl rfl (vs := []) rfl (trnew_spec)) (by (repeat (first | exact Picks.nil | (apply Picks.cons; (repeat (first | exact Pick.here | apply Pick.there)))))) rfl ?nx10
  rintro v L' ⟨t8, rfl, rfl⟩
  refine G.q (Quiet.assign rfl) rfl ?_
  refine G.nil ?_
  refine G.then_n ?_
  refine G.seq ?_
  refine G.region ?_
  refine G.op (OpSpec.call Tryd.func16 rfl rfl (vs := []) rfl (trnew_spec)) (by (repeat (first | exact Picks.nil | (apply Picks.cons; (repeat (first | exact Pick.here | apply Pick.there)))))) rfl ?nx12
  rintro v L' ⟨t9, rfl, rfl⟩
  refine G.q (Quiet.assign rfl) rfl ?_
  refine G.nil ?_
  refine G.then_n ?_
  refine G.seq ?_
  refine G.seq ?_
  refine G.region ?_
  refine G.q (Quiet.move rfl) rfl ?_
  refine G.q (Quiet.not rfl) rfl ?_
  refine G.q (Quiet.move rfl) rfl ?_
  refine G.grun (t := 24) rfl rfl rfl ?_
  refine G.q (Quiet.move rfl) rfl ?_
  refine G.grun (t := 24) rfl rfl rfl ?_
  refine G.q (Quiet.as (v' := .bool false) (by rfl) (Quiet.ptreq rfl rfl Tryd.underlying45)) rfl ?_
  refine G.q (Quiet.pickF rfl rfl) rfl ?_
  refine G.q (Quiet.move rfl) rfl ?_
  refine G.grun (t := 28) rfl rfl rfl ?_
  refine G.q (Quiet.move rfl) rfl ?_
  refine G.grun (t := 28) rfl rfl rfl ?_
  refine G.q (Quiet.as (v' := .bool false) (by rfl) (Quiet.ptreq rfl rfl Tryd.underlying45)) rfl ?_
  refine G.q (Quiet.pickF rfl rfl) rfl ?_
  refine G.nil ?_
  refine G.then_n ?_
  refine G.condF rfl ?_
  refine G.skip ?_
  refine G.then_n ?_
  refine G.seq ?_
  refine G.region ?_
  refine G.q (Quiet.to (v' := .agg (ptC (ptS 1 [47, 97] [] 1)).toArray) (Quiet.build (us := [(0, _), (1, _), (5, _)]) fl_50 ze_50 rfl rfl (by simp [isCell])) rfl) rfl ?_
  refine G.q (Quiet.buildN (pl := [(0, 1), (1, 1), (2, 1), (3, 8)]) (us := [(0, vint 1), (3, .agg (ptC (ptS 1 [47, 97] [] 1)).toArray)]) (cells := [vint 1, vint 0, vint 0] ++ ptC (ptS 1 [47, 97] [] 1)) Tryd.underlying52 (by kernel_rfl) ze_52 rfl (fill_entry _ _ _ _ _ _ _ _ _)) rfl ?_
  refine G.q (Quiet.to (v' := .agg (ptC (ptS 1 [47, 98] [] 2)).toArray) (Quiet.build (us := [(0, _), (1, _), (5, _)]) fl_50 ze_50 rfl rfl (by simp [isCell])) rfl) rfl ?_
  refine G.q (Quiet.buildN (pl := [(0, 1), (1, 1), (2, 1), (3, 8)]) (us := [(0, vint 2), (3, .agg (ptC (ptS 1 [47, 98] [] 2)).toArray)]) (cells := [vint 2, vint 0, vint 0] ++ ptC (ptS 1 [47, 98] [] 2)) Tryd.underlying52 (by kernel_rfl) ze_52 rfl (fill_entry _ _ _ _ _ _ _ _ _)) rfl ?_
  refine G.op (OpSpec.buildSlice (vs := [_, _]) el_43 ze_52 rfl rfl rfl rfl (by first | (simp [Value.cells]; done) | (intro v hv; simp only [List.mem_cons, List.not_mem_nil, or_false] at hv; (repeat (first | (subst hv; rfl) | (rcases hv with hv | hv; (subst hv; rfl)))))) (by decide)) (by (repeat (first | exact Picks.nil | (apply Picks.cons; (repeat (first | exact Pick.here | apply Pick.there)))))) rfl ?nx21
  rintro v L' ⟨bg, rfl, rfl⟩
  refine G.q (Quiet.assign rfl) rfl ?_
  refine G.nil ?_
  refine G.slMakeN 11 beg7.length (b := bg) (xs := beg7.flatMap enC) (by (repeat (first | exact Pick.here | apply Pick.there))) rfl rfl ?_
  refine G.then_n ?_
  refine G.seq ?_
  refine G.seq ?_
  refine G.region ?_
  refine G.q (Quiet.assign rfl) rfl ?_
  refine G.nil ?_
  refine G.then_n ?_
  refine G.block ?_
  refine G.trCast (t := t8) (τ' := appL newT (beg7.take 0)) (by (repeat (first | exact Pick.here | apply Pick.there))) (by rw [List.take_zero]; rfl) ?_
  refine G.trCast (t := t9) (τ' := appL newT (beg7.take 0)) (by (repeat (first | exact Pick.here | apply Pick.there))) (by rw [List.take_zero]; rfl) ?_
  refine G.loopK (ι := Nat) (fun q E => (11, vint q) :: E) (fun q => [treeR t8 (appL newT (beg7.take q)), treeR t9 (appL newT (beg7.take q))]) (fun q => q ≤ beg7.length) (fun q => beg7.length - q) (0) (ts := [4, 6, 7, 8, 9, 10]) (.cons rfl (.cons rfl (.cons rfl (.cons rfl (.cons rfl (.cons rfl (.nil))))))) (Nat.zero_le _) ⟨rfl, rfl, rfl, rfl, rfl, rfl, rfl, trivial⟩ (by (repeat (first | exact Picks.nil | (apply Picks.cons; (repeat (first | exact Pick.here | apply Pick.there)))))) ?_
  rintro i hi
  refine G.seq ?_
  refine G.seq ?_
  refine G.region ?_
  refine G.q (Quiet.move rfl) rfl ?_
  refine G.q (Quiet.int rfl rfl rfl) rfl ?_
  refine G.nil ?_
  refine G.then_n ?_
  refine G.condD rfl (fun h38 => ?_) (fun h38 => ?_)
  · have hi2 : i < beg7.length := by omega
    refine G.skip ?_
    refine G.then_n ?_
    refine G.seq ?_
    refine G.block ?_
    refine G.seq ?_
    refine G.region ?_
    refine G.q (Quiet.move rfl) rfl ?_
    refine G.q (Quiet.move rfl) rfl ?_
    refine G.q (Quiet.move rfl) rfl ?_
    refine G.q (Quiet.indexAddr rfl rfl el_43 (by omega)) rfl ?_
    refine G.q (Quiet.loadRdA (sz := 11) (j := i * 11) (k := 11) (p := slR 52 11 _ beg7.length (beg7.flatMap enC)) (vs := enC beg7[i]) rfl ag_52 (by (repeat (first | exact Pick.here | apply Pick.there))) (fun h hp => slR_rd hp) (by simp) (by omega) (by omega) (flatMap_at (f := enC) (sz := 11) (fun _ _ => rfl) (by omega))) rfl ?_
    refine G.op (OpSpec.call Tryd.func17 rfl rfl (vs := [_, _]) rfl (trapply_spec t8 (appL newT (beg7.take i)) beg7[i].zx beg7[i].ses beg7[i].xid beg7[i].x beg7[i].subs nilA (beg_tx _ (List.getElem_mem hi2)) _ (und_ok newT_ok (beg7.take i) (take_pl beg_plain i)) (by rw [(beg_plain _ (List.getElem_mem hi2)).2]; simp; omega))) (by (repeat (first | exact Picks.nil | (apply Picks.cons; (repeat (first | exact Pick.here | apply Pick.there)))))) rfl ?nx31
    rintro v L' ⟨u12, e12, rfl, he12, hu12, rfl⟩
    refine G.nil ?_
    refine G.then_n ?_
    refine G.region ?_
    refine G.q (Quiet.move rfl) rfl ?_
    refine G.q (Quiet.move rfl) rfl ?_
    refine G.q (Quiet.move rfl) rfl ?_
    refine G.q (Quiet.indexAddr rfl rfl el_43 (by omega)) rfl ?_
    refine G.q (Quiet.loadRdA (sz := 11) (j := i * 11) (k := 11) (p := slR 52 11 _ beg7.length (beg7.flatMap enC)) (vs := enC beg7[i]) rfl ag_52 (by (repeat (first | exact Pick.here | apply Pick.there))) (fun h hp => slR_rd hp) (by simp) (by omega) (by omega) (flatMap_at (f := enC) (sz := 11) (fun _ _ => rfl) (by omega))) rfl ?_
    refine G.op (OpSpec.call Tryd.func17 rfl rfl (vs := [_, _]) rfl (trapply_spec t9 (appL newT (beg7.take i)) beg7[i].zx beg7[i].ses beg7[i].xid beg7[i].x beg7[i].subs nilA (beg_tx _ (List.getElem_mem hi2)) _ (und_ok newT_ok (beg7.take i) (take_pl beg_plain i)) (by rw [(beg_plain _ (List.getElem_mem hi2)).2]; simp; omega))) (by (repeat (first | exact Picks.nil | (apply Picks.cons; (repeat (first | exact Pick.here | apply Pick.there)))))) rfl ?nx38
    rintro v L' ⟨u13, e13, rfl, he13, hu13, rfl⟩
    refine G.nil ?_
    refine G.blk_n ?_
    refine G.then_n ?_
    refine G.region ?_
    refine G.q (Quiet.move rfl) rfl ?_
    refine G.q (Quiet.add rfl rfl (by omega)) rfl ?_
    refine G.q (Quiet.assign rfl) rfl ?_
    refine G.nil ?_
    refine G.then_n ?_
    refine G.trCast (t := t8) (τ' := appL newT (beg7.take (i + 1))) (by (repeat (first | exact Pick.here | apply Pick.there))) (by rw [appL_step _ hi2]; rfl) ?_
    refine G.trCast (t := t9) (τ' := appL newT (beg7.take (i + 1))) (by (repeat (first | exact Pick.here | apply Pick.there))) (by rw [appL_step _ hi2]; rfl) ?_
    exact G.roundK (i + 1) (by omega) (by omega) ⟨rfl, rfl, rfl, rfl, rfl, rfl, rfl, trivial⟩ (by (repeat (first | exact Picks.nil | (apply Picks.cons; (repeat (first | exact Pick.here | apply Pick.there)))))) (by ((repeat (apply Have.cons; (repeat (first | exact Pick.here | apply Pick.there)))); apply Have.base; repeat (first | exact Suff.here | apply Suff.there)))
  · have hii : i = beg7.length := by omega
    rw [hii, List.take_length]
    refine G.exit ?_
    refine G.then_e ?_
    refine G.then_e ?_
    refine G.blk_e ?_
    refine G.then_n ?_
    refine G.seq ?_
    refine G.seq ?_
    refine G.region ?_
    refine G.q (Quiet.assign rfl) rfl ?_
    refine G.nil ?_
    refine G.then_n ?_
    refine G.block ?_
    refine G.trCast (t := t8) (τ' := appL (appL newT beg7) ((undL [47, 97] xs).take 0)) (by (repeat (first | exact Pick.here | apply Pick.there))) (by rw [List.take_zero]; rfl) ?_
    refine G.loopK (ι := Nat) (fun q E => (12, vint q) :: E) (fun q => [treeR t8 (appL (appL newT beg7) ((undL [47, 97] xs).take q))]) (fun q => q ≤ (undL [47, 97] xs).length) (fun q => (undL [47, 97] xs).length - q) (0) (ts := [4, 6, 7, 8, 9]) (.cons rfl (.cons rfl (.cons rfl (.cons rfl (.cons rfl (.nil)))))) (Nat.zero_le _) ⟨rfl, rfl, rfl, rfl, rfl, rfl, trivial⟩ (by (repeat (first | exact Picks.nil | (apply Picks.cons; (repeat (first | exact Pick.here | apply Pick.there)))))) ?_
    rintro i hi
    refine G.seq ?_
    refine G.seq ?_
    refine G.region ?_
    refine G.q (Quiet.move rfl) rfl ?_
    refine G.q (Quiet.move rfl) rfl ?_
    refine G.q (Quiet.slen rfl Tryd.underlying43 rfl) rfl ?_
    refine G.q (Quiet.int rfl rfl rfl) rfl ?_
    refine G.nil ?_
    refine G.then_n ?_
    refine G.condD rfl (fun h56 => ?_) (fun h56 => ?_)
    · have hi2 : i < (undL [47, 97] xs).length := by omega
      refine G.slShape (T := 52) (sz := 11) (v := .slice a6 (undL [47, 97] xs).length c6) (xs := (undL [47, 97] xs).flatMap enC) (by (repeat (first | exact Pick.here | apply Pick.there))) (by omega) fun ba ba' e0 mba _ => ?_
      simp only [Value.slice.injEq, true_and] at e0
      obtain ⟨rfl, rfl⟩ := e0
      refine G.skip ?_
      refine G.then_n ?_
      refine G.seq ?_
      refine G.block ?_
      refine G.region ?_
      refine G.q (Quiet.move rfl) rfl ?_
      refine G.q (Quiet.move rfl) rfl ?_
      refine G.q (Quiet.move rfl) rfl ?_
      refine G.q (Quiet.indexAddr rfl rfl el_43 (by omega)) rfl ?_
      refine G.q (Quiet.loadRdA (sz := 11) (j := i * 11) (k := 11) (p := slR 52 11 _ (undL [47, 97] xs).length ((undL [47, 97] xs).flatMap enC)) (vs := enC (undL [47, 97] xs)[i]) rfl ag_52 (by (repeat (first | exact Pick.here | apply Pick.there))) (fun h hp => slR_rd hp) (by simp) (by omega) (by omega) (flatMap_at (f := enC) (sz := 11) (fun _ _ => rfl) (by omega))) rfl ?_
      refine G.op (OpSpec.call Tryd.func17 rfl rfl (vs := [_, _]) rfl (trapply_spec t8 (appL (appL newT beg7) ((undL [47, 97] xs).take i)) (undL [47, 97] xs)[i].zx (undL [47, 97] xs)[i].ses (undL [47, 97] xs)[i].xid (undL [47, 97] xs)[i].x (undL [47, 97] xs)[i].subs nilA (und_tx (by decide) _ (List.getElem_mem hi2)) _ (und_ok (und_ok newT_ok beg7 beg_plain) ((undL [47, 97] xs).take i) (take_pl und_pl i)) (by rw [(und_pl _ (List.getElem_mem hi2)).2]; simp; omega))) (by (repeat (first | exact Picks.nil | (apply Picks.cons; (repeat (first | exact Pick.here | apply Pick.there)))))) rfl ?nx52
      rintro v L' ⟨u17, e17, rfl, he17, hu17, rfl⟩
      refine G.nil ?_
      refine G.blk_n ?_
      refine G.then_n ?_
      refine G.region ?_
      refine G.q (Quiet.move rfl) rfl ?_
      refine G.q (Quiet.add rfl rfl (by omega)) rfl ?_
      refine G.q (Quiet.assign rfl) rfl ?_
      refine G.nil ?_
      refine G.then_n ?_
      refine G.trCast (t := t8) (τ' := appL (appL newT beg7) ((undL [47, 97] xs).take (i + 1))) (by (repeat (first | exact Pick.here | apply Pick.there))) (by rw [appL_step _ hi2]; rfl) ?_
      exact G.roundK (i + 1) (by omega) (by omega) ⟨rfl, rfl, rfl, rfl, rfl, rfl, trivial⟩ (by (repeat (first | exact Picks.nil | (apply Picks.cons; (repeat (first | exact Pick.here | apply Pick.there)))))) (by ((repeat (apply Have.cons; (repeat (first | exact Pick.here | apply Pick.there)))); apply Have.base; repeat (first | exact Suff.here | apply Suff.there)))
    · have hii : i = (undL [47, 97] xs).length := by omega
      rw [hii, List.take_length]
      refine G.exit ?_
      refine G.then_e ?_
      refine G.then_e ?_
      refine G.blk_e ?_
      refine G.then_n ?_
      refine G.seq ?_
      refine G.seq ?_
      refine G.region ?_
      refine G.q (Quiet.assign rfl) rfl ?_
      refine G.nil ?_
      refine G.then_n ?_
      refine G.block ?_
      refine G.trCast (t := t8) (τ' := appL (appL (appL newT beg7) (undL [47, 97] xs)) ((undL [47, 98] ys).take 0)) (by (repeat (first | exact Pick.here | apply Pick.there))) (by rw [List.take_zero]; rfl) ?_
      refine G.trCast (t := t9) (τ' := appL (appL newT beg7) ((undL [47, 98] ys).take 0)) (by (repeat (first | exact Pick.here | apply Pick.there))) (by rw [List.take_zero]; rfl) ?_
      refine G.loopK (ι := Nat) (fun q E => (13, vint q) :: E) (fun q => [treeR t8 (appL (appL (appL newT beg7) (undL [47, 97] xs)) ((undL [47, 98] ys).take q)), treeR t9 (appL (appL newT beg7) ((undL [47, 98] ys).take q))]) (fun q => q ≤ (undL [47, 98] ys).length) (fun q => (undL [47, 98] ys).length - q) (0) (ts := [4, 6, 7, 8, 9]) (.cons rfl (.cons rfl (.cons rfl (.cons rfl (.cons rfl (.nil)))))) (Nat.zero_le _) ⟨rfl, rfl, rfl, rfl, rfl, rfl, trivial⟩ (by (repeat (first | exact Picks.nil | (apply Picks.cons; (repeat (first | exact Pick.here | apply Pick.there)))))) ?_
      rintro i hi
      refine G.seq ?_
      refine G.seq ?_
      refine G.region ?_
      refine G.q (Quiet.move rfl) rfl ?_
      refine G.q (Quiet.move rfl) rfl ?_
      refine G.q (Quiet.slen rfl Tryd.underlying43 rfl) rfl ?_
      refine G.q (Quiet.int rfl rfl rfl) rfl ?_
      refine G.nil ?_
      refine G.then_n ?_
      refine G.condD rfl (fun h68 => ?_) (fun h68 => ?_)
      · have hi2 : i < (undL [47, 98] ys).length := by omega
        refine G.slShape (T := 52) (sz := 11) (v := .slice a7 (undL [47, 98] ys).length c7) (xs := (undL [47, 98] ys).flatMap enC) (by (repeat (first | exact Pick.here | apply Pick.there))) (by omega) fun bb bb' e0 mbb _ => ?_
        simp only [Value.slice.injEq, true_and] at e0
        obtain ⟨rfl, rfl⟩ := e0
        refine G.skip ?_
        refine G.then_n ?_
        refine G.seq ?_
        refine G.block ?_
        refine G.seq ?_
        refine G.region ?_
        refine G.q (Quiet.move rfl) rfl ?_
        refine G.q (Quiet.move rfl) rfl ?_
        refine G.q (Quiet.move rfl) rfl ?_
        refine G.q (Quiet.indexAddr rfl rfl el_43 (by omega)) rfl ?_
        refine G.q (Quiet.loadRdA (sz := 11) (j := i * 11) (k := 11) (p := slR 52 11 _ (undL [47, 98] ys).length ((undL [47, 98] ys).flatMap enC)) (vs := enC (undL [47, 98] ys)[i]) rfl ag_52 (by (repeat (first | exact Pick.here | apply Pick.there))) (fun h hp => slR_rd hp) (by simp) (by omega) (by omega) (flatMap_at (f := enC) (sz := 11) (fun _ _ => rfl) (by omega))) rfl ?_
        refine G.op (OpSpec.call Tryd.func17 rfl rfl (vs := [_, _]) rfl (trapply_spec t8 (appL (appL (appL newT beg7) (undL [47, 97] xs)) ((undL [47, 98] ys).take i)) (undL [47, 98] ys)[i].zx (undL [47, 98] ys)[i].ses (undL [47, 98] ys)[i].xid (undL [47, 98] ys)[i].x (undL [47, 98] ys)[i].subs nilA (und_tx (by decide) _ (List.getElem_mem hi2)) _ (und_ok (und_ok (und_ok newT_ok beg7 beg_plain) (undL [47, 97] xs) und_pl) ((undL [47, 98] ys).take i) (take_pl und_pl i)) (by rw [(und_pl _ (List.getElem_mem hi2)).2]; simp; omega))) (by (repeat (first | exact Picks.nil | (apply Picks.cons; (repeat (first | exact Pick.here | apply Pick.there)))))) rfl ?nx66
        rintro v L' ⟨u21, e21, rfl, he21, hu21, rfl⟩
        refine G.nil ?_
        refine G.then_n ?_
        refine G.region ?_
        refine G.q (Quiet.move rfl) rfl ?_
        refine G.q (Quiet.move rfl) rfl ?_
        refine G.q (Quiet.move rfl) rfl ?_
        refine G.q (Quiet.indexAddr rfl rfl el_43 (by omega)) rfl ?_
        refine G.q (Quiet.loadRdA (sz := 11) (j := i * 11) (k := 11) (p := slR 52 11 _ (undL [47, 98] ys).length ((undL [47, 98] ys).flatMap enC)) (vs := enC (undL [47, 98] ys)[i]) rfl ag_52 (by (repeat (first | exact Pick.here | apply Pick.there))) (fun h hp => slR_rd hp) (by simp) (by omega) (by omega) (flatMap_at (f := enC) (sz := 11) (fun _ _ => rfl) (by omega))) rfl ?_
        refine G.op (OpSpec.call Tryd.func17 rfl rfl (vs := [_, _]) rfl (trapply_spec t9 (appL (appL newT beg7) ((undL [47, 98] ys).take i)) (undL [47, 98] ys)[i].zx (undL [47, 98] ys)[i].ses (undL [47, 98] ys)[i].xid (undL [47, 98] ys)[i].x (undL [47, 98] ys)[i].subs nilA (und_tx (by decide) _ (List.getElem_mem hi2)) _ (und_ok (und_ok newT_ok beg7 beg_plain) ((undL [47, 98] ys).take i) (take_pl und_pl i)) (by rw [(und_pl _ (List.getElem_mem hi2)).2]; simp; omega))) (by (repeat (first | exact Picks.nil | (apply Picks.cons; (repeat (first | exact Pick.here | apply Pick.there)))))) rfl ?nx73
        rintro v L' ⟨u22, e22, rfl, he22, hu22, rfl⟩
        refine G.nil ?_
        refine G.blk_n ?_
        refine G.then_n ?_
        refine G.region ?_
        refine G.q (Quiet.move rfl) rfl ?_
        refine G.q (Quiet.add rfl rfl (by omega)) rfl ?_
        refine G.q (Quiet.assign rfl) rfl ?_
        refine G.nil ?_
        refine G.then_n ?_
        refine G.trCast (t := t8) (τ' := appL (appL (appL newT beg7) (undL [47, 97] xs)) ((undL [47, 98] ys).take (i + 1))) (by (repeat (first | exact Pick.here | apply Pick.there))) (by rw [appL_step _ hi2]; rfl) ?_
        refine G.trCast (t := t9) (τ' := appL (appL newT beg7) ((undL [47, 98] ys).take (i + 1))) (by (repeat (first | exact Pick.here | apply Pick.there))) (by rw [appL_step _ hi2]; rfl) ?_
        exact G.roundK (i + 1) (by omega) (by omega) ⟨rfl, rfl, rfl, rfl, rfl, rfl, trivial⟩ (by (repeat (first | exact Picks.nil | (apply Picks.cons; (repeat (first | exact Pick.here | apply Pick.there)))))) (by ((repeat (apply Have.cons; (repeat (first | exact Pick.here | apply Pick.there)))); apply Have.base; repeat (first | exact Suff.here | apply Suff.there)))
      · have hii : i = (undL [47, 98] ys).length := by omega
        rw [hii, List.take_length]
        refine G.exit ?_
        refine G.then_e ?_
        refine G.then_e ?_
        refine G.blk_e ?_
        refine G.then_n ?_
        refine G.seq ?_
        refine G.seq ?_
        refine G.region ?_
        refine G.q (Quiet.assign rfl) rfl ?_
        refine G.nil ?_
        refine G.then_n ?_
        refine G.block ?_
        refine G.trCast (t := t9) (τ' := appL (appL (appL newT beg7) (undL [47, 98] ys)) ((undL [47, 97] xs).take 0)) (by (repeat (first | exact Pick.here | apply Pick.there))) (by rw [List.take_zero]; rfl) ?_
        refine G.loopK (ι := Nat) (fun q E => (14, vint q) :: E) (fun q => [treeR t9 (appL (appL (appL newT beg7) (undL [47, 98] ys)) ((undL [47, 97] xs).take q))]) (fun q => q ≤ (undL [47, 97] xs).length) (fun q => (undL [47, 97] xs).length - q) (0) (ts := [4, 6, 8, 9]) (.cons rfl (.cons rfl (.cons rfl (.cons rfl (.nil))))) (Nat.zero_le _) ⟨rfl, rfl, rfl, rfl, rfl, trivial⟩ (by (repeat (first | exact Picks.nil | (apply Picks.cons; (repeat (first | exact Pick.here | apply Pick.there)))))) ?_
        rintro i hi
        refine G.seq ?_
        refine G.seq ?_
        refine G.region ?_
        refine G.q (Quiet.move rfl) rfl ?_
        refine G.q (Quiet.move rfl) rfl ?_
        refine G.q (Quiet.slen rfl Tryd.underlying43 rfl) rfl ?_
        refine G.q (Quiet.int rfl rfl rfl) rfl ?_
        refine G.nil ?_
        refine G.then_n ?_
        refine G.condD rfl (fun h86 => ?_) (fun h86 => ?_)
        · have hi2 : i < (undL [47, 97] xs).length := by omega
          refine G.slShape (T := 52) (sz := 11) (v := .slice a6 (undL [47, 97] xs).length c6) (xs := (undL [47, 97] xs).flatMap enC) (by (repeat (first | exact Pick.here | apply Pick.there))) (by omega) fun ba ba' e0 mba _ => ?_
          simp only [Value.slice.injEq, true_and] at e0
          obtain ⟨rfl, rfl⟩ := e0
          refine G.skip ?_
          refine G.then_n ?_
          refine G.seq ?_
          refine G.block ?_
          refine G.region ?_
          refine G.q (Quiet.move rfl) rfl ?_
          refine G.q (Quiet.move rfl) rfl ?_
          refine G.q (Quiet.move rfl) rfl ?_
          refine G.q (Quiet.indexAddr rfl rfl el_43 (by omega)) rfl ?_
          refine G.q (Quiet.loadRdA (sz := 11) (j := i * 11) (k := 11) (p := slR 52 11 _ (undL [47, 97] xs).length ((undL [47, 97] xs).flatMap enC)) (vs := enC (undL [47, 97] xs)[i]) rfl ag_52 (by (repeat (first | exact Pick.here | apply Pick.there))) (fun h hp => slR_rd hp) (by simp) (by omega) (by omega) (flatMap_at (f := enC) (sz := 11) (fun _ _ => rfl) (by omega))) rfl ?_
          refine G.op (OpSpec.call Tryd.func17 rfl rfl (vs := [_, _]) rfl (trapply_spec t9 (appL (appL (appL newT beg7) (undL [47, 98] ys)) ((undL [47, 97] xs).take i)) (undL [47, 97] xs)[i].zx (undL [47, 97] xs)[i].ses (undL [47, 97] xs)[i].xid (undL [47, 97] xs)[i].x (undL [47, 97] xs)[i].subs nilA (und_tx (by decide) _ (List.getElem_mem hi2)) _ (und_ok (und_ok (und_ok newT_ok beg7 beg_plain) (undL [47, 98] ys) und_pl) ((undL [47, 97] xs).take i) (take_pl und_pl i)) (by rw [(und_pl _ (List.getElem_mem hi2)).2]; simp; omega))) (by (repeat (first | exact Picks.nil | (apply Picks.cons; (repeat (first | exact Pick.here | apply Pick.there)))))) rfl ?nx87
          rintro v L' ⟨u26, e26, rfl, he26, hu26, rfl⟩
          refine G.nil ?_
          refine G.blk_n ?_
          refine G.then_n ?_
          refine G.region ?_
          refine G.q (Quiet.move rfl) rfl ?_
          refine G.q (Quiet.add rfl rfl (by omega)) rfl ?_
          refine G.q (Quiet.assign rfl) rfl ?_
          refine G.nil ?_
          refine G.then_n ?_
          refine G.trCast (t := t9) (τ' := appL (appL (appL newT beg7) (undL [47, 98] ys)) ((undL [47, 97] xs).take (i + 1))) (by (repeat (first | exact Pick.here | apply Pick.there))) (by rw [appL_step _ hi2]; rfl) ?_
          exact G.roundK (i + 1) (by omega) (by omega) ⟨rfl, rfl, rfl, rfl, rfl, trivial⟩ (by (repeat (first | exact Picks.nil | (apply Picks.cons; (repeat (first | exact Pick.here | apply Pick.there)))))) (by ((repeat (apply Have.cons; (repeat (first | exact Pick.here | apply Pick.there)))); apply Have.base; repeat (first | exact Suff.here | apply Suff.there)))
        · have hii : i = (undL [47, 97] xs).length := by omega
          rw [hii, List.take_length]
          refine G.exit ?_
          refine G.then_e ?_
          refine G.then_e ?_
          refine G.blk_e ?_
          refine G.then_n ?_
          refine G.seq ?_
          refine G.region ?_
          refine G.q (Quiet.move rfl) rfl ?_
          refine G.op (OpSpec.call Tryd.func18 rfl rfl (vs := [_, _]) rfl (trlayzx_spec _ _ _)) (by (repeat (first | exact Picks.nil | (apply Picks.cons; (repeat (first | exact Pick.here | apply Pick.there)))))) rfl ?nx92
          rintro v L' ⟨rfl, rfl⟩
          refine G.nil ?_
          refine G.then_n ?_
          refine G.seq ?_
          refine G.region ?_
          refine G.q (Quiet.move rfl) rfl ?_
          refine G.op (OpSpec.call Tryd.func18 rfl rfl (vs := [_, _]) rfl (trlayzx_spec _ _ _)) (by (repeat (first | exact Picks.nil | (apply Picks.cons; (repeat (first | exact Pick.here | apply Pick.there)))))) rfl ?nx95
          rintro v L' ⟨rfl, rfl⟩
          refine G.nil ?_
          refine G.then_n ?_
          refine G.seq ?_
          refine G.region ?_
          refine G.q (Quiet.move rfl) rfl ?_
          refine G.q (Quiet.move rfl) rfl ?_
          refine G.op (OpSpec.call Tryd.func19 rfl rfl (vs := [_, _]) rfl (trsame_spec t8 t9 _ _ _ _ ((und_ok (und_ok (und_ok newT_ok beg7 beg_plain) (undL [47, 97] xs) und_pl) (undL [47, 98] ys) und_pl).zx 9) ((und_ok (und_ok (und_ok newT_ok beg7 beg_plain) (undL [47, 98] ys) und_pl) (undL [47, 97] xs) und_pl).zx 9))) (by (repeat (first | exact Picks.nil | (apply Picks.cons; (repeat (first | exact Pick.here | apply Pick.there)))))) rfl ?nx99
          rintro v L' ⟨rfl, rfl⟩; rw [decide_eq_true (neighbours (und_ok newT_ok beg7 beg_plain) xs ys)]
          refine G.q (Quiet.assign rfl) rfl ?_
          refine G.nil ?_
          refine G.then_n ?_
          refine G.ret ?_
          exact G.done (l := [.tmp 4]) rfl rfl ⟨rfl, rfl⟩ (by (repeat (first | exact Picks.nil | (apply Picks.cons; (repeat (first | exact Pick.here | apply Pick.there)))))) (by (repeat (first | exact Suff.here | apply Suff.there)))

end Go.Proofs.YtnnbelmpbmfdnaaDoor
