/- Own work, by program: SessionWaits, walked. -/
import Derived.Test.YtepncdidkjjllaaLaw10
namespace Go.Proofs.Ytepncdidkjjllaa
open Go
set_option maxRecDepth 100000 in
theorem swaits_spec (n0 n1 : Int) (v2 : Value) (xs : List Int) (p : HP) (h0 : I64 n0) (h1 : I64 n1) (hr : ∀ h : Hp, p h → rdS 1 h v2 xs.length (ints xs)) (hm : xs.length ≤ maxLen) (hb : ∀ z ∈ xs, -9223372036854775808 ≤ z ∧ z ≤ 9223372036854775807) : Fn Try.prog 8 #[vint n0, vint n1, v2] [p] fun v L => v = .bool true ∧ L = [p] := by
  refine Fn.intro (vs := [vint n0, vint n1, v2]) Try.func8 rfl rfl ?_
  intro F W
  refine G.rdAny (p := p) hr (by (repeat (first | exact Pick.here | apply Pick.there))) fun a2 c2 e _ => ?_
  subst e
  simp only [maxLen] at hm
  obtain ⟨q0, q1⟩ := pickZ_range n0 (n := 57) (by decide)
  obtain ⟨q2, q3⟩ := pickZ_range n1 (n := 1000) (by decide)
  have hbad0 : ¬ badTime (pickZ n1 1000) := by unfold badTime; omega
  refine G.seq ?_
  refine G.region ?_
  refine G.q (Quiet.assign rfl) rfl ?_
  refine G.nil ?_
  refine G.then_n ?_
  refine G.seq ?_
  refine G.region ?_
  refine G.op (OpSpec.call Try.func32 rfl rfl (vs := []) rfl (awake10_spec)) (by (repeat (first | exact Picks.nil | (apply Picks.cons; (repeat (first | exact Pick.here | apply Pick.there)))))) rfl ?nx2
  rintro v L' ⟨rfl, rfl⟩
  refine G.q (Quiet.assign rfl) rfl ?_
  refine G.nil ?_
  refine G.then_n ?_
  refine G.seq ?_
  refine G.region ?_
  refine G.op (OpSpec.call Try.func33 rfl rfl (vs := []) rfl (tnew_spec)) (by (repeat (first | exact Picks.nil | (apply Picks.cons; (repeat (first | exact Pick.here | apply Pick.there)))))) rfl ?nx4
  rintro v L' ⟨t, rfl, rfl⟩
  refine G.q (Quiet.assign rfl) rfl ?_
  refine G.nil ?_
  refine G.then_n ?_
  refine G.seq ?_
  refine G.seq ?_
  refine G.region ?_
  refine G.q (Quiet.move rfl) rfl ?_
  refine G.q (Quiet.not rfl) rfl ?_
  refine G.q (Quiet.move rfl) rfl ?_
  refine G.grun (t := 25) rfl rfl rfl ?_
  refine G.q (Quiet.move rfl) rfl ?_
  refine G.grun (t := 25) rfl rfl rfl ?_
  refine G.q (Quiet.ptreq rfl rfl Try.underlying59) rfl ?_
  refine G.q (Quiet.pickF rfl rfl) rfl ?_
  refine G.nil ?_
  refine G.then_n ?_
  refine G.condF rfl ?_
  refine G.skip ?_
  refine G.then_n ?_
  refine G.seq ?_
  refine G.region ?_
  refine G.q (Quiet.move rfl) rfl ?_
  refine G.op (OpSpec.call Try.func34 rfl rfl (vs := [_, _]) rfl (pick10_spec n0 57 h0 (by decide))) (by (repeat (first | exact Picks.nil | (apply Picks.cons; (repeat (first | exact Pick.here | apply Pick.there)))))) rfl ?nx9
  rintro v L' ⟨rfl, rfl⟩
  refine G.q (Quiet.add rfl rfl (by omega)) rfl ?_
  refine G.q (Quiet.assign rfl) rfl ?_
  refine G.nil ?_
  refine G.then_n ?_
  refine G.seq ?_
  refine G.region ?_
  refine G.q (Quiet.move rfl) rfl ?_
  refine G.op (OpSpec.call Try.func34 rfl rfl (vs := [_, _]) rfl (pick10_spec n1 1000 h1 (by decide))) (by (repeat (first | exact Picks.nil | (apply Picks.cons; (repeat (first | exact Pick.here | apply Pick.there)))))) rfl ?nx13
  rintro v L' ⟨rfl, rfl⟩
  refine G.q (Quiet.assign rfl) rfl ?_
  refine G.nil ?_
  generalize hto : 4 + pickZ n0 57 = to
  generalize hnow : pickZ n1 1000 = now0 at *
  have hto4 : 4 ≤ to := by omega
  have hto60 : to ≤ 60 := by omega
  refine G.then_n ?_
  refine G.seq ?_
  refine G.seq ?_
  refine G.region ?_
  refine G.q (Quiet.move rfl) rfl ?_
  refine G.q (Quiet.move rfl) rfl ?_
  refine G.q (Quiet.move rfl) rfl ?_
  refine G.op (OpSpec.call Try.func37 rfl rfl (vs := [_, _, _, _]) rfl (topen_spec t [] 5 to now0 (by decide))) (by (repeat (first | exact Picks.nil | (apply Picks.cons; (repeat (first | exact Pick.here | apply Pick.there)))))) rfl ?nx15
  rintro v L' ⟨rfl, rfl⟩; rw [ws_open1 hto4 hto60 hbad0]
  refine G.q (Quiet.int rfl rfl rfl) rfl ?_
  refine G.q (Quiet.move rfl) rfl ?_
  refine G.grun (t := 39) rfl rfl rfl ?_
  refine G.q (Quiet.move rfl) rfl ?_
  refine G.grun (t := 39) rfl rfl rfl ?_
  refine G.op (OpSpec.call Try.func37 rfl rfl (vs := [_, _, _, _]) rfl (topen_spec t _ 6 60 0 (by decide))) (by (repeat (first | exact Picks.nil | (apply Picks.cons; (repeat (first | exact Pick.here | apply Pick.there)))))) rfl ?nx18
  rintro v L' ⟨rfl, rfl⟩; rw [ws_open2]
  refine G.grun (t := 39) rfl rfl rfl ?_
  refine G.q (Quiet.int rfl rfl rfl) rfl ?_
  refine G.q (Quiet.pickF rfl rfl) rfl ?_
  refine G.nil ?_
  refine G.then_n ?_
  refine G.condF rfl ?_
  refine G.skip ?_
  refine G.then_n ?_
  refine G.seq ?_
  refine G.region ?_
  refine G.q (Quiet.move rfl) rfl ?_
  refine G.op (OpSpec.call Try.func38 rfl rfl (vs := [_, _]) rfl (tdead_spec t (ws to now0) 6)) (by (repeat (first | exact Picks.nil | (apply Picks.cons; (repeat (first | exact Pick.here | apply Pick.there)))))) rfl ?nx21
  rintro v L' ⟨rfl, rfl⟩; rw [ws_dead6]
  refine G.q (Quiet.move rfl) rfl ?_
  refine G.q (Quiet.extract rfl rfl) rfl ?_
  refine G.q (Quiet.extract rfl rfl) rfl ?_
  refine G.q (Quiet.assign rfl) rfl ?_
  refine G.q (Quiet.assign rfl) rfl ?_
  refine G.nil ?_
  refine G.then_n ?_
  refine G.seq ?_
  refine G.region ?_
  refine G.q (Quiet.assign rfl) rfl ?_
  refine G.nil ?_
  refine G.then_n ?_
  refine G.seq ?_
  refine G.seq ?_
  refine G.region ?_
  refine G.q (Quiet.assign rfl) rfl ?_
  refine G.nil ?_
  refine G.then_n ?_
  refine G.block ?_
  refine G.loopK (ι := Nat × Int × Int) (fun q E => (13, vint q.1) :: (9, vint q.2.1) :: (12, vint q.2.2) :: E) (fun q => [tkR t (ws to q.2.1)]) (fun q => q.1 ≤ xs.length + 1 ∧ q.1 ≤ 201 ∧ 0 ≤ q.2.1 ∧ q.2.1 ≤ 1000 + 9 * q.1 ∧ q.2.2 ≤ endsZ q.2.1 to) (fun q => xs.length + 1 - q.1) (0, now0, 0) (ts := [0, 2, 8, 10, 11]) (.cons rfl (.cons rfl (.cons rfl (.cons rfl (.cons rfl (.nil)))))) (⟨Nat.zero_le _, Nat.zero_le _, by dsimp only; omega, by dsimp only; omega, (by have := ends_low now0 to; dsimp only; omega)⟩) ⟨rfl, rfl, rfl, rfl, rfl, rfl, rfl, rfl, trivial⟩ (by (repeat (first | exact Picks.nil | (apply Picks.cons; (repeat (first | exact Pick.here | apply Pick.there)))))) ?_
  rintro ⟨i, now, last⟩ ⟨hi, hi2, hn0, hn9, hlast⟩
  dsimp only
  dsimp only at hi hi2 hn0 hn9 hlast
  have hel := ends_low now to
  refine G.seq ?_
  refine G.seq ?_
  refine G.region ?_
  refine G.q (Quiet.move rfl) rfl ?_
  refine G.q (Quiet.move rfl) rfl ?_
  refine G.q (Quiet.slen rfl Try.underlying40 rfl) rfl ?_
  refine G.q (Quiet.int rfl rfl rfl) rfl ?_
  refine G.q (Quiet.move rfl) rfl ?_
  refine G.dec (t := 53) rfl (fun h12_53 => ?_) (fun h12_53 => ?_)
  · refine G.kDT (t := 52) rfl h12_53 ?_
    refine G.grun (t := 53) rfl rfl rfl ?_
    refine G.q (Quiet.move rfl) rfl ?_
    refine G.grun (t := 53) rfl rfl rfl ?_
    refine G.q (Quiet.int rfl rfl rfl) rfl ?_
    refine G.q (Quiet.pickT rfl rfl) rfl ?_
    refine G.nil ?_
    refine G.then_n ?_
    refine G.condD rfl (fun h56 => ?_) (fun h56 => ?_)
    · refine G.skip ?_
      refine G.then_n ?_
      refine G.seq ?_
      refine G.block ?_
      refine G.seq ?_
      refine G.region ?_
      refine G.q (Quiet.move rfl) rfl ?_
      refine G.op (OpSpec.call Try.func38 rfl rfl (vs := [_, _]) rfl (tdead_spec t (ws to now) 5)) (by (repeat (first | exact Picks.nil | (apply Picks.cons; (repeat (first | exact Pick.here | apply Pick.there)))))) rfl ?nx34
      rintro v L' ⟨rfl, rfl⟩; rw [ws_dead5]
      refine G.q (Quiet.move rfl) rfl ?_
      refine G.q (Quiet.extract rfl rfl) rfl ?_
      refine G.q (Quiet.extract rfl rfl) rfl ?_
      refine G.q (Quiet.assign rfl) rfl ?_
      refine G.q (Quiet.assign rfl) rfl ?_
      refine G.nil ?_
      refine G.then_n ?_
      refine G.seq ?_
      refine G.seq ?_
      refine G.region ?_
      refine G.q (Quiet.move rfl) rfl ?_
      refine G.q (Quiet.int rfl rfl rfl) rfl ?_
      refine G.q (Quiet.move rfl) rfl ?_
      refine G.grun (t := 66) rfl rfl rfl ?_
      refine G.q (Quiet.move rfl) rfl ?_
      refine G.grun (t := 66) rfl rfl rfl ?_
      refine G.q (Quiet.move rfl) rfl ?_
      refine G.grun (t := 66) rfl rfl rfl ?_
      refine G.q (Quiet.move rfl) rfl ?_
      refine G.grun (t := 66) rfl rfl rfl ?_
      refine G.q (Quiet.add rfl rfl (by omega)) rfl ?_
      refine G.grun (t := 66) rfl rfl rfl ?_
      refine G.q (Quiet.as (v' := .bool false) (by rw [decide_eq_false (by omega)]) (Quiet.int rfl rfl rfl)) rfl ?_
      refine G.q (Quiet.pickF rfl rfl) rfl ?_
      refine G.q (Quiet.move rfl) rfl ?_
      refine G.grun (t := 73) rfl rfl rfl ?_
      refine G.q (Quiet.move rfl) rfl ?_
      refine G.grun (t := 73) rfl rfl rfl ?_
      refine G.q (Quiet.move rfl) rfl ?_
      refine G.grun (t := 73) rfl rfl rfl ?_
      refine G.q (Quiet.move rfl) rfl ?_
      refine G.grun (t := 73) rfl rfl rfl ?_
      refine G.q (Quiet.add rfl rfl (by omega)) rfl ?_
      refine G.grun (t := 73) rfl rfl rfl ?_
      refine G.q (Quiet.add rfl rfl (by omega)) rfl ?_
      refine G.grun (t := 73) rfl rfl rfl ?_
      refine G.q (Quiet.as (v' := .bool false) (by rw [decide_eq_false (by omega)]) (Quiet.int rfl rfl rfl)) rfl ?_
      refine G.q (Quiet.pickF rfl rfl) rfl ?_
      refine G.q (Quiet.move rfl) rfl ?_
      refine G.grun (t := 81) rfl rfl rfl ?_
      refine G.q (Quiet.move rfl) rfl ?_
      refine G.grun (t := 81) rfl rfl rfl ?_
      refine G.q (Quiet.move rfl) rfl ?_
      refine G.grun (t := 81) rfl rfl rfl ?_
      refine G.q (Quiet.as (v' := .bool false) (by rw [decide_eq_false (by omega)]) (Quiet.int rfl rfl rfl)) rfl ?_
      refine G.q (Quiet.pickF rfl rfl) rfl ?_
      refine G.nil ?_
      refine G.then_n ?_
      refine G.condF rfl ?_
      refine G.skip ?_
      refine G.then_n ?_
      refine G.seq ?_
      refine G.region ?_
      refine G.q (Quiet.move rfl) rfl ?_
      refine G.q (Quiet.move rfl) rfl ?_
      refine G.q (Quiet.move rfl) rfl ?_
      refine G.q (Quiet.add rfl rfl (by omega)) rfl ?_
      refine G.q (Quiet.sub rfl rfl (by omega)) rfl ?_
      refine G.op (OpSpec.call Try.func42 rfl rfl (vs := [_, _]) rfl (texp_spec t (ws to now) (now + to - 1))) (by (repeat (first | exact Picks.nil | (apply Picks.cons; (repeat (first | exact Pick.here | apply Pick.there)))))) rfl ?nx55
      rintro v L' ⟨⟨ae, ce, rfl⟩, rfl⟩
      refine G.q (Quiet.assign rfl) rfl ?_
      refine G.nil ?_
      refine G.then_n ?_
      refine G.seq ?_
      refine G.region ?_
      refine G.q (Quiet.move rfl) rfl ?_
      refine G.q (Quiet.move rfl) rfl ?_
      refine G.q (Quiet.move rfl) rfl ?_
      refine G.q (Quiet.add rfl rfl (by omega)) rfl ?_
      refine G.q (Quiet.add rfl rfl (by omega)) rfl ?_
      refine G.op (OpSpec.call Try.func42 rfl rfl (vs := [_, _]) rfl (texp_spec t (ws to now) (now + to + 3))) (by (repeat (first | exact Picks.nil | (apply Picks.cons; (repeat (first | exact Pick.here | apply Pick.there)))))) rfl ?nx62
      rintro v L' ⟨⟨al, cl, rfl⟩, rfl⟩
      refine G.q (Quiet.assign rfl) rfl ?_
      refine G.nil ?_
      have hle := ws_len to now (now + to - 1)
      obtain ⟨ll, hll⟩ := ws_late to now
      refine G.then_n ?_
      refine G.seq ?_
      refine G.seq ?_
      refine G.region ?_
      refine G.q (Quiet.assign rfl) rfl ?_
      refine G.nil ?_
      refine G.then_n ?_
      refine G.block ?_
      refine G.loopK (ι := Nat) (fun q E => (18, vint q) :: E) (fun q => []) (fun q => q ≤ (sExp (ws to now) (now + to - 1)).length) (fun q => (sExp (ws to now) (now + to - 1)).length - q) (0) (ts := [0, 2, 8, 9, 10, 11, 12, 13, 14, 15, 16, 17, 49, 50, 51, 52, 53, 54, 55, 56, 59, 60, 61, 62, 63, 64, 65, 66, 67, 68, 69, 70, 71, 72, 73, 74, 75, 76, 77, 78, 79, 80, 81, 82, 83, 84, 85, 86, 87, 88, 89, 90, 91, 92, 93, 94, 95, 96, 97]) (.cons rfl (.cons rfl (.cons rfl (.cons rfl (.cons rfl (.cons rfl (.cons rfl (.cons rfl (.cons rfl (.cons rfl (.cons rfl (.cons rfl (.cons rfl (.cons rfl (.cons rfl (.cons rfl (.cons rfl (.cons rfl (.cons rfl (.cons rfl (.cons rfl (.cons rfl (.cons rfl (.cons rfl (.cons rfl (.cons rfl (.cons rfl (.cons rfl (.cons rfl (.cons rfl (.cons rfl (.cons rfl (.cons rfl (.cons rfl (.cons rfl (.cons rfl (.cons rfl (.cons rfl (.cons rfl (.cons rfl (.cons rfl (.cons rfl (.cons rfl (.cons rfl (.cons rfl (.cons rfl (.cons rfl (.cons rfl (.cons rfl (.cons rfl (.cons rfl (.cons rfl (.cons rfl (.cons rfl (.cons rfl (.cons rfl (.cons rfl (.cons rfl (.cons rfl (.nil)))))))))))))))))))))))))))))))))))))))))))))))))))))))))))) (Nat.zero_le _) ⟨rfl, rfl, rfl, rfl, rfl, rfl, rfl, rfl, rfl, rfl, rfl, rfl, rfl, rfl, rfl, rfl, rfl, rfl, rfl, rfl, rfl, rfl, rfl, rfl, rfl, rfl, rfl, rfl, rfl, rfl, rfl, rfl, rfl, rfl, rfl, rfl, rfl, rfl, rfl, rfl, rfl, rfl, rfl, rfl, rfl, rfl, rfl, rfl, rfl, rfl, rfl, rfl, rfl, rfl, rfl, rfl, rfl, rfl, rfl, rfl, trivial⟩ (by (repeat (first | exact Picks.nil | (apply Picks.cons; (repeat (first | exact Pick.here | apply Pick.there)))))) ?_
      rintro j hj
      refine G.seq ?_
      refine G.seq ?_
      refine G.region ?_
      refine G.q (Quiet.move rfl) rfl ?_
      refine G.q (Quiet.move rfl) rfl ?_
      refine G.q (Quiet.slen rfl Try.underlying40 rfl) rfl ?_
      refine G.q (Quiet.int rfl rfl rfl) rfl ?_
      refine G.nil ?_
      refine G.then_n ?_
      refine G.condD rfl (fun h101 => ?_) (fun h101 => ?_)
      · have hj2 : j < (sExp (ws to now) (now + to - 1)).length := by omega
        refine G.slShape (v := .slice ae _ ce) (by (repeat (first | exact Pick.here | apply Pick.there))) (by omega) fun be ce' e ml _ => ?_
        simp only [Value.slice.injEq, true_and] at e
        obtain ⟨rfl, rfl⟩ := e
        refine G.skip ?_
        refine G.then_n ?_
        refine G.seq ?_
        refine G.block ?_
        refine G.seq ?_
        refine G.region ?_
        refine G.q (Quiet.move rfl) rfl ?_
        refine G.q (Quiet.move rfl) rfl ?_
        refine G.q (Quiet.indexAddr rfl rfl el_40 (by omega)) rfl ?_
        refine G.q (Quiet.loadRd (sz := 1) (j := j) (p := intR (.slice (some ⟨be, 0, none⟩) (sExp (ws to now) (now + to - 1)).length ce) (sExp (ws to now) (now + to - 1))) (v := vint (sExp (ws to now) (now + to - 1))[j]) rfl ag_3 (by (repeat (first | exact Pick.here | apply Pick.there))) (fun h hp => slR_rd hp) (by simp) (by simp [hj2])) rfl ?_
        refine G.q (Quiet.as (v' := .bool false) (by rw [decide_eq_false (ws_early _ _ _ (List.getElem_mem hj2))]) (Quiet.int rfl rfl rfl)) rfl ?_
        refine G.nil ?_
        refine G.then_n ?_
        refine G.condF rfl ?_
        refine G.skip ?_
        refine G.blk_n ?_
        refine G.then_n ?_
        refine G.region ?_
        refine G.q (Quiet.move rfl) rfl ?_
        refine G.q (Quiet.add rfl rfl (by omega)) rfl ?_
        refine G.q (Quiet.assign rfl) rfl ?_
        refine G.nil ?_
        refine G.then_n ?_
        exact G.roundK (j + 1) (by omega) (by omega) ⟨rfl, rfl, rfl, rfl, rfl, rfl, rfl, rfl, rfl, rfl, rfl, rfl, rfl, rfl, rfl, rfl, rfl, rfl, rfl, rfl, rfl, rfl, rfl, rfl, rfl, rfl, rfl, rfl, rfl, rfl, rfl, rfl, rfl, rfl, rfl, rfl, rfl, rfl, rfl, rfl, rfl, rfl, rfl, rfl, rfl, rfl, rfl, rfl, rfl, rfl, rfl, rfl, rfl, rfl, rfl, rfl, rfl, rfl, rfl, rfl, trivial⟩ (by (repeat (first | exact Picks.nil | (apply Picks.cons; (repeat (first | exact Pick.here | apply Pick.there)))))) (by ((repeat (apply Have.cons; (repeat (first | exact Pick.here | apply Pick.there)))); apply Have.base; repeat (first | exact Suff.here | apply Suff.there)))
      · refine G.exit ?_
        refine G.then_e ?_
        refine G.then_e ?_
        refine G.blk_e ?_
        refine G.then_n ?_
        refine G.seq ?_
        refine G.seq ?_
        have hl0 : 0 < (sExp (ws to now) (now + to + 3)).length := by rw [hll]; simp
        refine G.slShape (v := .slice al _ cl) (by (repeat (first | exact Pick.here | apply Pick.there))) (by omega) fun bl cl' e ml _ => ?_
        simp only [Value.slice.injEq, true_and] at e
        obtain ⟨rfl, rfl⟩ := e
        refine G.region ?_
        refine G.q (Quiet.move rfl) rfl ?_
        refine G.q (Quiet.slen rfl Try.underlying40 rfl) rfl ?_
        refine G.q (Quiet.as (v' := .bool false) (by rw [decide_eq_false (by omega)]) (Quiet.int rfl rfl rfl)) rfl ?_
        refine G.q (Quiet.move rfl) rfl ?_
        refine G.grun (t := 112) rfl rfl rfl ?_
        refine G.q (Quiet.move rfl) rfl ?_
        refine G.grun (t := 112) rfl rfl rfl ?_
        refine G.q (Quiet.indexAddr rfl rfl el_40 (by omega)) rfl ?_
        refine G.grun (t := 112) rfl rfl rfl ?_
        refine G.q (Quiet.loadRd (sz := 1) (j := 0) (p := intR (.slice (some ⟨bl, 0, none⟩) (sExp (ws to now) (now + to + 3)).length cl) (sExp (ws to now) (now + to + 3))) (v := vint 5) rfl ag_3 (by (repeat (first | exact Pick.here | apply Pick.there))) (fun h hp => slR_rd hp) (by simp) (by rw [hll]; rfl)) rfl ?_
        refine G.grun (t := 112) rfl rfl rfl ?_
        refine G.q (Quiet.int rfl rfl rfl) rfl ?_
        refine G.q (Quiet.pickF rfl rfl) rfl ?_
        refine G.nil ?_
        refine G.then_n ?_
        refine G.condF rfl ?_
        refine G.skip ?_
        refine G.then_n ?_
        refine G.seq ?_
        refine G.region ?_
        refine G.q (Quiet.move rfl) rfl ?_
        refine G.q (Quiet.assign rfl) rfl ?_
        refine G.nil ?_
        refine G.then_n ?_
        refine G.seq ?_
        refine G.region ?_
        refine G.q (Quiet.move rfl) rfl ?_
        refine G.q (Quiet.move rfl) rfl ?_
        refine G.q (Quiet.slen rfl Try.underlying40 rfl) rfl ?_
        refine G.q (Quiet.int rfl rfl rfl) rfl ?_
        refine G.nil ?_
        refine G.then_n ?_
        refine G.condD rfl (fun h122 => ?_) (fun h122 => ?_)
        · have hix : i < xs.length := by omega
          refine G.rdShape (p := p) hr (by (repeat (first | exact Pick.here | apply Pick.there))) (by omega) fun bh oh e => ?_
          subst e
          obtain ⟨q4, q5⟩ := pickZ_range xs[i] (n := 9) (by decide)
          have hbad : ¬ badTime (now + pickZ xs[i] 9) := by unfold badTime; omega
          refine G.seq ?_
          refine G.region ?_
          refine G.q (Quiet.move rfl) rfl ?_
          refine G.q (Quiet.move rfl) rfl ?_
          refine G.q (Quiet.move rfl) rfl ?_
          refine G.q (Quiet.indexAddr rfl rfl el_40 (by omega)) rfl ?_
          refine G.q (Quiet.loadRd (sz := 1) (j := i) (p := p) (v := vint xs[i]) rfl ag_3 (by (repeat (first | exact Pick.here | apply Pick.there))) hr (by simp) (by simp [hix])) rfl ?_
          refine G.op (OpSpec.call Try.func34 rfl rfl (vs := [_, _]) rfl (pick10_spec xs[i] 9 (hb _ (List.getElem_mem hix)) (by decide))) (by (repeat (first | exact Picks.nil | (apply Picks.cons; (repeat (first | exact Pick.here | apply Pick.there)))))) rfl ?nx93
          rintro v L' ⟨rfl, rfl⟩
          refine G.q (Quiet.add rfl rfl (by omega)) rfl ?_
          refine G.q (Quiet.assign rfl) rfl ?_
          refine G.nil ?_
          refine G.then_n ?_
          refine G.seq ?_
          refine G.region ?_
          refine G.q (Quiet.move rfl) rfl ?_
          refine G.q (Quiet.move rfl) rfl ?_
          refine G.op (OpSpec.call Try.func35 rfl rfl (vs := [_, _, _]) rfl (ttouch_spec t (ws to now) 5 (now + pickZ xs[i] 9))) (by (repeat (first | exact Picks.nil | (apply Picks.cons; (repeat (first | exact Pick.here | apply Pick.there)))))) rfl ?nx97
          rintro v L' ⟨rfl, rfl⟩; rw [ws_touch hbad (by omega)]
          refine G.q (Quiet.int rfl rfl rfl) rfl ?_
          refine G.nil ?_
          refine G.then_n ?_
          refine G.condF rfl ?_
          refine G.skip ?_
          refine G.blk_n ?_
          refine G.then_n ?_
          refine G.region ?_
          refine G.q (Quiet.move rfl) rfl ?_
          refine G.q (Quiet.add rfl rfl (by omega)) rfl ?_
          refine G.q (Quiet.assign rfl) rfl ?_
          refine G.nil ?_
          refine G.then_n ?_
          exact G.roundK ((i + 1, now + pickZ xs[i] 9, endsZ now to)) (⟨by dsimp only; omega, by dsimp only; omega, by dsimp only; omega, by dsimp only; omega, ends_mono (by dsimp only; omega)⟩) (by dsimp only; omega) ⟨rfl, rfl, rfl, rfl, rfl, rfl, rfl, rfl, trivial⟩ (by (repeat (first | exact Picks.nil | (apply Picks.cons; (repeat (first | exact Pick.here | apply Pick.there)))))) (by ((repeat (apply Have.cons; (repeat (first | exact Pick.here | apply Pick.there)))); apply Have.base; repeat (first | exact Suff.here | apply Suff.there)))
        · refine G.skip ?_
          refine G.blk_n ?_
          refine G.then_n ?_
          refine G.region ?_
          refine G.q (Quiet.move rfl) rfl ?_
          refine G.q (Quiet.add rfl rfl (by omega)) rfl ?_
          refine G.q (Quiet.assign rfl) rfl ?_
          refine G.nil ?_
          refine G.then_n ?_
          exact G.roundK ((i + 1, now, endsZ now to)) (⟨by dsimp only; omega, by dsimp only; omega, by dsimp only; omega, by dsimp only; omega, by dsimp only; omega⟩) (by dsimp only; omega) ⟨rfl, rfl, rfl, rfl, rfl, rfl, rfl, rfl, trivial⟩ (by (repeat (first | exact Picks.nil | (apply Picks.cons; (repeat (first | exact Pick.here | apply Pick.there)))))) (by ((repeat (apply Have.cons; (repeat (first | exact Pick.here | apply Pick.there)))); apply Have.base; repeat (first | exact Suff.here | apply Suff.there)))
    · refine G.exit ?_
      refine G.then_e ?_
      refine G.then_e ?_
      refine G.blk_e ?_
      refine G.then_n ?_
      refine G.seq ?_
      refine G.region ?_
      refine G.q (Quiet.move rfl) rfl ?_
      refine G.op (OpSpec.call Try.func38 rfl rfl (vs := [_, _]) rfl (tdead_spec t (ws to now) 6)) (by (repeat (first | exact Picks.nil | (apply Picks.cons; (repeat (first | exact Pick.here | apply Pick.there)))))) rfl ?nx105
      rintro v L' ⟨rfl, rfl⟩; rw [ws_dead6]
      refine G.q (Quiet.move rfl) rfl ?_
      refine G.q (Quiet.extract rfl rfl) rfl ?_
      refine G.q (Quiet.extract rfl rfl) rfl ?_
      refine G.q (Quiet.assign rfl) rfl ?_
      refine G.q (Quiet.assign rfl) rfl ?_
      refine G.nil ?_
      refine G.then_n ?_
      refine G.seq ?_
      refine G.region ?_
      refine G.q (Quiet.move rfl) rfl ?_
      refine G.q (Quiet.int rfl rfl rfl) rfl ?_
      refine G.q (Quiet.move rfl) rfl ?_
      refine G.grun (t := 141) rfl rfl rfl ?_
      refine G.q (Quiet.move rfl) rfl ?_
      refine G.grun (t := 141) rfl rfl rfl ?_
      refine G.q (Quiet.int rfl rfl rfl) rfl ?_
      refine G.q (Quiet.pickT rfl rfl) rfl ?_
      refine G.q (Quiet.move rfl) rfl ?_
      refine G.grun (t := 145) rfl rfl rfl ?_
      refine G.q (Quiet.move rfl) rfl ?_
      refine G.grun (t := 145) rfl rfl rfl ?_
      refine G.q (Quiet.move rfl) rfl ?_
      refine G.grun (t := 145) rfl rfl rfl ?_
      refine G.q (Quiet.int rfl rfl rfl) rfl ?_
      refine G.q (Quiet.pickT rfl rfl) rfl ?_
      refine G.q (Quiet.move rfl) rfl ?_
      refine G.grun (t := 150) rfl rfl rfl ?_
      refine G.q (Quiet.move rfl) rfl ?_
      refine G.grun (t := 150) rfl rfl rfl ?_
      refine G.op (OpSpec.call Try.func36 rfl rfl (vs := [_, _]) rfl (tclose_spec t (ws to now) 5)) (by (repeat (first | exact Picks.nil | (apply Picks.cons; (repeat (first | exact Pick.here | apply Pick.there)))))) rfl ?nx115
      rintro v L' ⟨rfl, rfl⟩; rw [ws_close]
      refine G.grun (t := 150) rfl rfl rfl ?_
      refine G.q (Quiet.int rfl rfl rfl) rfl ?_
      refine G.q (Quiet.pickT rfl rfl) rfl ?_
      refine G.q (Quiet.move rfl) rfl ?_
      refine G.grun (t := 155) rfl rfl rfl ?_
      refine G.q (Quiet.move rfl) rfl ?_
      refine G.grun (t := 155) rfl rfl rfl ?_
      refine G.op (OpSpec.call Try.func43 rfl rfl (vs := [_]) rfl (tall_spec t [(6, (60, 60))])) (by (repeat (first | exact Picks.nil | (apply Picks.cons; (repeat (first | exact Pick.here | apply Pick.there)))))) rfl ?nx119
      rintro v L' ⟨⟨aA, cA, rfl⟩, rfl⟩
      refine G.grun (t := 155) rfl rfl rfl ?_
      refine G.op (OpSpec.buildSlice1 (vs := [_]) el_40 ze_3 rfl rfl rfl rfl rfl (by decide)) (by (repeat (first | exact Picks.nil | (apply Picks.cons; (repeat (first | exact Pick.here | apply Pick.there)))))) rfl ?nx121
      rintro v L' ⟨bs, rfl, rfl⟩
      refine G.grun (t := 155) rfl rfl rfl ?_
      refine G.op (OpSpec.call Try.func44 rfl rfl (vs := [_, _]) rfl (same10_spec _ _ [6] [6] (intR (.slice aA ([6] : List Int).length cA) [6]) (ptc bs [vint 6] 3) (fun h hp => slR_rd hp) (fun h hp => rdS_pt (off := 0) (l := [vint 6]) hp rfl (by decide) (by decide)) (by decide))) (by (repeat (first | exact Picks.nil | (apply Picks.cons; (repeat (first | exact Pick.here | apply Pick.there)))))) rfl ?nx123
      rintro v L' ⟨rfl, rfl⟩; rw [decide_eq_true rfl]
      refine G.q (Quiet.pickT rfl rfl) rfl ?_
      refine G.q (Quiet.assign rfl) rfl ?_
      refine G.nil ?_
      refine G.then_n ?_
      refine G.ret ?_
      exact G.done (l := [.tmp 6]) rfl rfl ⟨rfl, rfl⟩ (by (repeat (first | exact Picks.nil | (apply Picks.cons; (repeat (first | exact Pick.here | apply Pick.there)))))) (by (repeat (first | exact Suff.here | apply Suff.there)))
  · refine G.kDF (t := 52) rfl h12_53 ?_
    refine G.gskip (t := 53) rfl rfl rfl rfl ?_
    refine G.gskip (t := 53) rfl rfl rfl rfl ?_
    refine G.q (Quiet.pickF rfl rfl) rfl ?_
    refine G.nil ?_
    refine G.then_n ?_
    refine G.condF rfl ?_
    refine G.exit ?_
    refine G.then_e ?_
    refine G.then_e ?_
    refine G.blk_e ?_
    refine G.then_n ?_
    refine G.seq ?_
    refine G.region ?_
    refine G.q (Quiet.move rfl) rfl ?_
    refine G.op (OpSpec.call Try.func38 rfl rfl (vs := [_, _]) rfl (tdead_spec t (ws to now) 6)) (by (repeat (first | exact Picks.nil | (apply Picks.cons; (repeat (first | exact Pick.here | apply Pick.there)))))) rfl ?nx127
    rintro v L' ⟨rfl, rfl⟩; rw [ws_dead6]
    refine G.q (Quiet.move rfl) rfl ?_
    refine G.q (Quiet.extract rfl rfl) rfl ?_
    refine G.q (Quiet.extract rfl rfl) rfl ?_
    refine G.q (Quiet.assign rfl) rfl ?_
    refine G.q (Quiet.assign rfl) rfl ?_
    refine G.nil ?_
    refine G.then_n ?_
    refine G.seq ?_
    refine G.region ?_
    refine G.q (Quiet.move rfl) rfl ?_
    refine G.q (Quiet.int rfl rfl rfl) rfl ?_
    refine G.q (Quiet.move rfl) rfl ?_
    refine G.grun (t := 141) rfl rfl rfl ?_
    refine G.q (Quiet.move rfl) rfl ?_
    refine G.grun (t := 141) rfl rfl rfl ?_
    refine G.q (Quiet.int rfl rfl rfl) rfl ?_
    refine G.q (Quiet.pickT rfl rfl) rfl ?_
    refine G.q (Quiet.move rfl) rfl ?_
    refine G.grun (t := 145) rfl rfl rfl ?_
    refine G.q (Quiet.move rfl) rfl ?_
    refine G.grun (t := 145) rfl rfl rfl ?_
    refine G.q (Quiet.move rfl) rfl ?_
    refine G.grun (t := 145) rfl rfl rfl ?_
    refine G.q (Quiet.int rfl rfl rfl) rfl ?_
    refine G.q (Quiet.pickT rfl rfl) rfl ?_
    refine G.q (Quiet.move rfl) rfl ?_
    refine G.grun (t := 150) rfl rfl rfl ?_
    refine G.q (Quiet.move rfl) rfl ?_
    refine G.grun (t := 150) rfl rfl rfl ?_
    refine G.op (OpSpec.call Try.func36 rfl rfl (vs := [_, _]) rfl (tclose_spec t (ws to now) 5)) (by (repeat (first | exact Picks.nil | (apply Picks.cons; (repeat (first | exact Pick.here | apply Pick.there)))))) rfl ?nx137
    rintro v L' ⟨rfl, rfl⟩; rw [ws_close]
    refine G.grun (t := 150) rfl rfl rfl ?_
    refine G.q (Quiet.int rfl rfl rfl) rfl ?_
    refine G.q (Quiet.pickT rfl rfl) rfl ?_
    refine G.q (Quiet.move rfl) rfl ?_
    refine G.grun (t := 155) rfl rfl rfl ?_
    refine G.q (Quiet.move rfl) rfl ?_
    refine G.grun (t := 155) rfl rfl rfl ?_
    refine G.op (OpSpec.call Try.func43 rfl rfl (vs := [_]) rfl (tall_spec t [(6, (60, 60))])) (by (repeat (first | exact Picks.nil | (apply Picks.cons; (repeat (first | exact Pick.here | apply Pick.there)))))) rfl ?nx141
    rintro v L' ⟨⟨aA, cA, rfl⟩, rfl⟩
    refine G.grun (t := 155) rfl rfl rfl ?_
    refine G.op (OpSpec.buildSlice1 (vs := [_]) el_40 ze_3 rfl rfl rfl rfl rfl (by decide)) (by (repeat (first | exact Picks.nil | (apply Picks.cons; (repeat (first | exact Pick.here | apply Pick.there)))))) rfl ?nx143
    rintro v L' ⟨bs, rfl, rfl⟩
    refine G.grun (t := 155) rfl rfl rfl ?_
    refine G.op (OpSpec.call Try.func44 rfl rfl (vs := [_, _]) rfl (same10_spec _ _ [6] [6] (intR (.slice aA ([6] : List Int).length cA) [6]) (ptc bs [vint 6] 3) (fun h hp => slR_rd hp) (fun h hp => rdS_pt (off := 0) (l := [vint 6]) hp rfl (by decide) (by decide)) (by decide))) (by (repeat (first | exact Picks.nil | (apply Picks.cons; (repeat (first | exact Pick.here | apply Pick.there)))))) rfl ?nx145
    rintro v L' ⟨rfl, rfl⟩; rw [decide_eq_true rfl]
    refine G.q (Quiet.pickT rfl rfl) rfl ?_
    refine G.q (Quiet.assign rfl) rfl ?_
    refine G.nil ?_
    refine G.then_n ?_
    refine G.ret ?_
    exact G.done (l := [.tmp 6]) rfl rfl ⟨rfl, rfl⟩ (by (repeat (first | exact Picks.nil | (apply Picks.cons; (repeat (first | exact Pick.here | apply Pick.there)))))) (by (repeat (first | exact Suff.here | apply Suff.there)))

end Go.Proofs.Ytepncdidkjjllaa
