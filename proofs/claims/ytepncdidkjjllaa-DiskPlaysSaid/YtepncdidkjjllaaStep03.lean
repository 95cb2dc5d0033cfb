/- Own work, by program: same, step and Alike of law 03. -/
import Derived.Test.YtepncdidkjjllaaL3C
namespace Go.Proofs.Ytepncdidkjjllaa
open Go
set_option maxRecDepth 100000 in
theorem same_spec (va vb : Value) (a b : List Int) (p q : HP) (hp : ∀ h : Hp, p h → rdS 1 h va a.length (ints a)) (hq : ∀ h : Hp, q h → rdS 1 h vb b.length (ints b)) (hl : a.length ≤ 4611686018427387904) : Fn Try.prog 106 #[va, vb] [p, q] fun v L => v = .bool (decide (a = b)) ∧ L = [p, q] := by
  refine Fn.intro (vs := [va, vb]) Try.func106 rfl rfl ?_
  intro F W
  refine G.rdAny (p := p) hp (by (repeat (first | exact Pick.here | apply Pick.there))) fun aa ca e _ => ?_
  subst e
  refine G.rdAny (p := q) hq (by (repeat (first | exact Pick.here | apply Pick.there))) fun ab cb e _ => ?_
  subst e
  refine G.seq ?_
  refine G.region ?_
  refine G.q (Quiet.assign rfl) rfl ?_
  refine G.nil ?_
  refine G.then_n ?_
  refine G.seq ?_
  refine G.seq ?_
  refine G.region ?_
  refine G.q (Quiet.move rfl) rfl ?_
  refine G.q (Quiet.slen rfl Try.underlying40 rfl) rfl ?_
  refine G.q (Quiet.move rfl) rfl ?_
  refine G.q (Quiet.slen rfl Try.underlying40 rfl) rfl ?_
  refine G.q (Quiet.int rfl rfl rfl) rfl ?_
  refine G.nil ?_
  refine G.then_n ?_
  refine G.condN rfl (fun h10 => ?_) (fun h10 => ?_)
  · refine G.seq ?_
    refine G.region ?_
    refine G.q (Quiet.assign rfl) rfl ?_
    refine G.nil ?_
    refine G.then_n ?_
    refine G.ret ?_
    refine G.then_r ?_
    exact G.done (l := [.tmp 4]) rfl rfl ⟨by rw [decide_eq_false]; intro h; rw [h] at h10; exact h10 rfl, rfl⟩ (by (repeat (first | exact Picks.nil | (apply Picks.cons; (repeat (first | exact Pick.here | apply Pick.there)))))) (by (repeat (first | exact Suff.here | apply Suff.there)))
  · have hlen : a.length = b.length := by omega
    refine G.skip ?_
    refine G.then_n ?_
    refine G.seq ?_
    refine G.seq ?_
    refine G.region ?_
    refine G.q (Quiet.assign rfl) rfl ?_
    refine G.nil ?_
    refine G.then_n ?_
    refine G.block ?_
    refine G.loop (F := F) (ι := Nat) (fun i => [(0, .slice aa a.length ca), (1, .slice ab b.length cb), (5, vint i)]) (fun _ => [p, q]) (fun i => i ≤ a.length ∧ a.take i = b.take i) (fun i => a.length - i) 0 ⟨Nat.zero_le _, rfl⟩ ⟨rfl, rfl, rfl, trivial⟩ (by (repeat (first | exact Picks.nil | (apply Picks.cons; (repeat (first | exact Pick.here | apply Pick.there)))))) (by (repeat (first | exact Suff.here | apply Suff.there))) ?_
    rintro i ⟨hi, ht⟩
    refine G.seq ?_
    refine G.seq ?_
    refine G.region ?_
    refine G.q (Quiet.move rfl) rfl ?_
    refine G.q (Quiet.move rfl) rfl ?_
    refine G.q (Quiet.slen rfl Try.underlying40 rfl) rfl ?_
    refine G.q (Quiet.int rfl rfl rfl) rfl ?_
    refine G.nil ?_
    refine G.then_n ?_
    refine G.condD rfl (fun h14 => ?_) (fun h14 => ?_)
    · have hi2 : i < a.length := by omega
      have hi3 : i < b.length := by omega
      refine G.rdShape (p := p) hp (by (repeat (first | exact Pick.here | apply Pick.there))) (by omega) fun ba oa e => ?_
      subst e
      refine G.rdShape (p := q) hq (by (repeat (first | exact Pick.here | apply Pick.there))) (by omega) fun bb ob e => ?_
      subst e
      refine G.skip ?_
      refine G.then_n ?_
      refine G.seq ?_
      refine G.block ?_
      refine G.seq ?_
      refine G.draw [] [[0, 1, 2, 3, 4, 5, 6, 7, 8]] mixed (by kernel_rfl) ?_
      refine Phases.go [] (by (repeat (first | exact Picks.nil | (apply Picks.cons; (repeat (first | exact Pick.here | apply Pick.there)))))) ?_
      refine D.qw [2, 3, 8] rfl (by kernel_rfl) (Quiet.move rfl) ?_
      refine D.qw [2, 3, 8] rfl (by kernel_rfl) (Quiet.move rfl) ?_
      refine D.qw [3, 8] rfl (by kernel_rfl) (Quiet.indexAddr rfl rfl el_40 (by omega)) ?_
      refine D.qw [8] rfl (by kernel_rfl) (Quiet.loadEl (p := p) (i := i * 1) (v := vint a[i]) rfl ag_3 (by (repeat (first | exact Pick.here | apply Pick.there))) hp (by simp [hi2])) ?_
      refine D.qw [6, 7, 8] rfl (by kernel_rfl) (Quiet.move rfl) ?_
      refine D.qw [6, 7, 8] rfl (by kernel_rfl) (Quiet.move rfl) ?_
      refine D.qw [7, 8] rfl (by kernel_rfl) (Quiet.indexAddr rfl rfl el_40 (by omega)) ?_
      refine D.qw [8] rfl (by kernel_rfl) (Quiet.loadEl (p := q) (i := i * 1) (v := vint b[i]) rfl ag_3 (by (repeat (first | exact Pick.here | apply Pick.there))) hq (by simp [hi3])) ?_
      refine D.qw [] rfl (by kernel_rfl) (Quiet.int rfl rfl rfl) ?_
      refine D.ph ?_
      refine Phases.fin ?_
      refine G.then_n ?_
      refine G.condN rfl (fun h25 => ?_) (fun h25 => ?_)
      · refine G.seq ?_
        refine G.region ?_
        refine G.q (Quiet.assign rfl) rfl ?_
        refine G.nil ?_
        refine G.then_n ?_
        refine G.ret ?_
        refine G.blk_r ?_
        refine G.then_r ?_
        refine G.then_r ?_
        refine G.blk_r ?_
        refine G.then_r ?_
        exact G.done (l := [.tmp 4]) rfl rfl ⟨by rw [decide_eq_false]; intro h; apply h25; congr 1, rfl⟩ (by (repeat (first | exact Picks.nil | (apply Picks.cons; (repeat (first | exact Pick.here | apply Pick.there)))))) (by (repeat (first | exact Suff.here | apply Suff.there)))
      · refine G.skip ?_
        refine G.blk_n ?_
        refine G.then_n ?_
        refine G.region ?_
        refine G.q (Quiet.move rfl) rfl ?_
        refine G.q (Quiet.add rfl rfl (by omega)) rfl ?_
        refine G.q (Quiet.assign rfl) rfl ?_
        refine G.nil ?_
        refine G.then_n ?_
        refine G.round (i + 1) ⟨by omega, take_same hi2 hi3 ht (by simpa using h25)⟩ (by omega) ⟨rfl, rfl, rfl, trivial⟩ (by (repeat (first | exact Picks.nil | (apply Picks.cons; (repeat (first | exact Pick.here | apply Pick.there)))))) (by (repeat (first | exact Suff.here | apply Suff.there)))
    · refine G.exit ?_
      refine G.then_e ?_
      refine G.then_e ?_
      refine G.blk_e ?_
      refine G.then_n ?_
      refine G.seq ?_
      refine G.region ?_
      refine G.q (Quiet.assign rfl) rfl ?_
      refine G.nil ?_
      refine G.then_n ?_
      refine G.ret ?_
      exact G.done (l := [.tmp 4]) rfl rfl ⟨by rw [decide_eq_true]; have hi2 : i = a.length := (by omega); rw [hi2, List.take_length, hlen, List.take_length] at ht; exact ht, rfl⟩ (by (repeat (first | exact Picks.nil | (apply Picks.cons; (repeat (first | exact Pick.here | apply Pick.there)))))) (by (repeat (first | exact Suff.here | apply Suff.there)))

set_option maxRecDepth 100000 in
theorem step_spec (d x : Nat) (δ : Dk) (ρ : Rk) (hv : Value) (o : OpZ) (p : HP) (hr : ∀ h : Hp, p h → rdS 1 h hv o.how.length (ints o.how)) (hb : ∀ z ∈ o.how, -9223372036854775808 ≤ z ∧ z ≤ 9223372036854775807) (hb0 : δ.acts < 4611686018427387904 ∧ (0 ≤ ρ.N ∧ ρ.N < 4611686018427387904) ∧ o.f ≤ 9223372036854775807 ∧ o.how.length * 8 + 8 ≤ 140737488355328) : Fn Try.prog 56 #[vptr d, vptr x, .agg (opC hv o).toArray] [dkR d δ, rkR x ρ, p] fun v L => v = .bool (stepB δ ρ o) ∧ L = [dkR d (δ.step o), rkR x (ρ.step o), p] := by
  refine Fn.intro (vs := [vptr d, vptr x, .agg (opC hv o).toArray]) Try.func56 rfl rfl ?_
  intro F W
  refine G.rdAny (p := p) hr (by (repeat (first | exact Pick.here | apply Pick.there))) fun ah ch e _ => ?_
  subst e
  obtain ⟨hA, hN, hf, hl⟩ := hb0
  refine G.seq ?_
  refine G.region ?_
  refine G.op (OpSpec.box rfl) (by (repeat (first | exact Picks.nil | (apply Picks.cons; (repeat (first | exact Pick.here | apply Pick.there)))))) rfl ?nx1
  rintro v L' ⟨bx, rfl, rfl⟩
  refine G.q (Quiet.assign rfl) rfl ?_
  refine G.nil ?_
  refine G.then_n ?_
  refine G.seq ?_
  refine G.seq ?_
  refine G.region ?_
  refine G.q (Quiet.fieldAddr rfl fo_87_0) rfl ?_
  refine G.q (Quiet.load rfl ag_3 (by (repeat (first | exact Pick.here | apply Pick.there))) (rfl)) rfl ?_
  refine G.nil ?_
  refine G.then_n ?_
  refine G.block ?_
  refine G.seq ?_
  refine G.region ?_
  refine G.q (Quiet.int rfl rfl rfl) rfl ?_
  refine G.q (Quiet.assign rfl) rfl ?_
  refine G.nil ?_
  refine G.then_n ?_
  refine G.condD rfl (fun h21 => ?_) (fun h21 => ?_)
  · refine G.seq ?_
    refine G.region ?_
    refine G.q (Quiet.fieldAddr rfl fo_87_2) rfl ?_
    refine G.q (Quiet.load rfl ag_3 (by (repeat (first | exact Pick.here | apply Pick.there))) (rfl)) rfl ?_
    refine G.op (OpSpec.call Try.func49 rfl rfl (vs := [_]) rfl (filled_spec _)) (by (repeat (first | exact Picks.nil | (apply Picks.cons; (repeat (first | exact Pick.here | apply Pick.there)))))) rfl ?nx9
    rintro v L' ⟨rfl, rfl⟩
    refine G.q (Quiet.assign rfl) rfl ?_
    refine G.nil ?_
    refine G.then_n ?_
    refine G.seq ?_
    refine G.join (F := F) (ι := Unit) (fun _ => [(0, vptr d), (1, vptr x), (5, vptr bx), (7, vstr o.text)]) (fun _ => [dkR d δ, rkR x ρ, p, ptc bx (opC (.slice ah o.how.length ch) o) 87]) (fun _ => True) ?_ (fun _ _ => ?_)
    · refine G.seq ?_
      refine G.region ?_
      refine G.q (Quiet.fieldAddr rfl fo_87_3) rfl ?_
      refine G.q (Quiet.load rfl ag_4 (by (repeat (first | exact Pick.here | apply Pick.there))) (rfl)) rfl ?_
      refine G.nil ?_
      refine G.then_n ?_
      refine G.condB rfl (fun h27 => ?_) (fun h27 => ?_)
      · refine G.region ?_
        refine G.q (Quiet.move rfl) rfl ?_
        refine G.q (Quiet.strFrom rfl rfl Try.underlying9 (by simp [fill_len])) rfl ?_
        refine G.q (Quiet.assign rfl) rfl ?_
        refine G.nil ?_
        refine G.then_n ?_
        exact G.meet () trivial ⟨rfl, rfl, rfl, (by show some (vstr _) = some (vstr _); unfold OpZ.text; rw [if_pos h27]; rfl), trivial⟩ (by (repeat (first | exact Picks.nil | (apply Picks.cons; (repeat (first | exact Pick.here | apply Pick.there)))))) (by (repeat (first | exact Suff.here | apply Suff.there)))
      · refine G.skip ?_
        refine G.then_n ?_
        exact G.meet () trivial ⟨rfl, rfl, rfl, (by show some (vstr _) = some (vstr _); unfold OpZ.text; rw [if_neg (by rw [h27]; decide)]), trivial⟩ (by (repeat (first | exact Picks.nil | (apply Picks.cons; (repeat (first | exact Pick.here | apply Pick.there)))))) (by (repeat (first | exact Suff.here | apply Suff.there)))
    skip
    refine G.seq ?_
    refine G.draw [4, 9] [[0, 1, 2, 3, 5, 6, 7, 8, 4, 9, 10], [11]] mixed (by kernel_rfl) ?_
    refine Phases.go [ptc bx _ _] (by (repeat (first | exact Picks.nil | (apply Picks.cons; (repeat (first | exact Pick.here | apply Pick.there)))))) ?_
    refine D.qw [4, 9, 10] rfl (by kernel_rfl) (Quiet.move rfl) ?_
    refine D.qw [2, 4, 9, 10] rfl (by kernel_rfl) (Quiet.fieldAddr rfl fo_87_1) ?_
    refine D.qw [4, 9, 10] rfl (by kernel_rfl) (Quiet.load rfl ag_3 (by (repeat (first | exact Pick.here | apply Pick.there))) (rfl)) ?_
    refine D.qw [4, 9, 10] rfl (by kernel_rfl) (Quiet.move rfl) ?_
    refine D.q rfl (by kernel_rfl) (Quiet.move rfl) ?_
    refine D.q rfl (by kernel_rfl) (Quiet.fieldAddr rfl fo_87_1) ?_
    refine D.q rfl (by kernel_rfl) (Quiet.load rfl ag_3 (by (repeat (first | exact Pick.here | apply Pick.there))) (rfl)) ?_
    refine D.q rfl (by kernel_rfl) (Quiet.move rfl) ?_
    refine D.h rfl (by kernel_rfl) (OpSpec.call Try.func17 rfl rfl (vs := [_, _, _]) rfl (write_spec d δ o.n o.text hA)) (by (repeat (first | exact Picks.nil | (apply Picks.cons; (repeat (first | exact Pick.here | apply Pick.there)))))) ?nx22
    rintro v L' ⟨rfl, rfl⟩
    refine D.h rfl (by kernel_rfl) (OpSpec.call Try.func18 rfl rfl (vs := [_, _, _]) rfl (rwrite_spec x ρ o.n o.text hN)) (by (repeat (first | exact Picks.nil | (apply Picks.cons; (repeat (first | exact Pick.here | apply Pick.there)))))) ?nx24
    rintro v L' ⟨rfl, rfl⟩
    refine D.qw [] rfl (by kernel_rfl) (Quiet.int rfl rfl rfl) ?_
    refine D.ph ?_
    refine Phases.go [] (by (repeat (first | exact Picks.nil | (apply Picks.cons; (repeat (first | exact Pick.here | apply Pick.there)))))) ?_
    refine D.qw [] rfl (by kernel_rfl) (Quiet.assign rfl) ?_
    refine D.ph ?_
    refine Phases.fin ?_
    refine G.then_n ?_
    refine G.ret ?_
    refine G.blk_r ?_
    refine G.then_r ?_
    have e1 : δ.step o = (δ.write o.n o.text).1 := by unfold Dk.step; rw [if_pos h21]
    have e2 : ρ.step o = (ρ.write o.n o.text).1 := by unfold Rk.step; rw [if_pos h21]
    rw [e1, e2]
    have e3 : stepB δ ρ o = decide ((δ.write o.n o.text).2 = (ρ.write o.n o.text).2) := by unfold stepB; rw [if_pos h21]
    rw [e3]
    exact G.done (l := [.tmp 6]) rfl rfl ⟨rfl, rfl⟩ (by (repeat (first | exact Picks.nil | (apply Picks.cons; (repeat (first | exact Pick.here | apply Pick.there)))))) (by (repeat (first | exact Suff.here | apply Suff.there)))
  · refine G.seq ?_
    refine G.region ?_
    refine G.q (Quiet.int rfl rfl rfl) rfl ?_
    refine G.q (Quiet.assign rfl) rfl ?_
    refine G.nil ?_
    refine G.then_n ?_
    refine G.condD rfl (fun h41 => ?_) (fun h41 => ?_)
    · refine G.seq ?_
      refine G.region ?_
      refine G.q (Quiet.move rfl) rfl ?_
      refine G.op (OpSpec.call Try.func50 rfl rfl (vs := [_]) rfl (sync_spec d δ hA)) (by (repeat (first | exact Picks.nil | (apply Picks.cons; (repeat (first | exact Pick.here | apply Pick.there)))))) rfl ?nx29
      rintro v L' ⟨rfl, rfl⟩
      refine G.q (Quiet.move rfl) rfl ?_
      refine G.op (OpSpec.call Try.func103 rfl rfl (vs := [_]) rfl (rsync_spec x ρ hN)) (by (repeat (first | exact Picks.nil | (apply Picks.cons; (repeat (first | exact Pick.here | apply Pick.there)))))) rfl ?nx32
      rintro v L' ⟨rfl, rfl⟩
      refine G.q (Quiet.int rfl rfl rfl) rfl ?_
      refine G.q (Quiet.assign rfl) rfl ?_
      refine G.nil ?_
      refine G.then_n ?_
      refine G.ret ?_
      refine G.blk_r ?_
      refine G.then_r ?_
      have e1 : δ.step o = δ.sync.1 := by unfold Dk.step; rw [if_neg h21, if_pos h41]
      have e2 : ρ.step o = ρ.sync.1 := by unfold Rk.step; rw [if_neg h21, if_pos h41]
      rw [e1, e2]
      have e3 : stepB δ ρ o = decide (δ.sync.2 = ρ.sync.2) := by unfold stepB; rw [if_neg h21, if_pos h41]
      rw [e3]
      exact G.done (l := [.tmp 6]) rfl rfl ⟨rfl, rfl⟩ (by (repeat (first | exact Picks.nil | (apply Picks.cons; (repeat (first | exact Pick.here | apply Pick.there)))))) (by (repeat (first | exact Suff.here | apply Suff.there)))
    · refine G.seq ?_
      refine G.region ?_
      refine G.q (Quiet.int rfl rfl rfl) rfl ?_
      refine G.q (Quiet.assign rfl) rfl ?_
      refine G.nil ?_
      refine G.then_n ?_
      refine G.condD rfl (fun h48 => ?_) (fun h48 => ?_)
      · refine G.seq ?_
        refine G.region ?_
        refine G.q (Quiet.move rfl) rfl ?_
        refine G.q (Quiet.fieldAddr rfl fo_87_1) rfl ?_
        refine G.q (Quiet.load rfl ag_3 (by (repeat (first | exact Pick.here | apply Pick.there))) (rfl)) rfl ?_
        refine G.op (OpSpec.call Try.func55 rfl rfl (vs := [_, _]) rfl (read_spec d δ o.n)) (by (repeat (first | exact Picks.nil | (apply Picks.cons; (repeat (first | exact Pick.here | apply Pick.there)))))) rfl ?nx39
        rintro v L' ⟨rfl, rfl⟩
        refine G.q (Quiet.move rfl) rfl ?_
        refine G.q (Quiet.extract rfl rfl) rfl ?_
        refine G.q (Quiet.extract rfl rfl) rfl ?_
        refine G.q (Quiet.assign rfl) rfl ?_
        refine G.q (Quiet.assign rfl) rfl ?_
        refine G.nil ?_
        refine G.then_n ?_
        refine G.seq ?_
        refine G.region ?_
        refine G.q (Quiet.move rfl) rfl ?_
        refine G.q (Quiet.fieldAddr rfl fo_87_1) rfl ?_
        refine G.q (Quiet.load rfl ag_3 (by (repeat (first | exact Pick.here | apply Pick.there))) (rfl)) rfl ?_
        refine G.op (OpSpec.call Try.func104 rfl rfl (vs := [_, _]) rfl (rread_spec x ρ o.n)) (by (repeat (first | exact Picks.nil | (apply Picks.cons; (repeat (first | exact Pick.here | apply Pick.there)))))) rfl ?nx46
        rintro v L' ⟨rfl, rfl⟩
        refine G.q (Quiet.move rfl) rfl ?_
        refine G.q (Quiet.extract rfl rfl) rfl ?_
        refine G.q (Quiet.extract rfl rfl) rfl ?_
        refine G.q (Quiet.assign rfl) rfl ?_
        refine G.q (Quiet.assign rfl) rfl ?_
        refine G.nil ?_
        refine G.then_n ?_
        refine G.seq ?_
        refine G.region ?_
        refine G.q (Quiet.move rfl) rfl ?_
        refine G.q (Quiet.move rfl) rfl ?_
        refine G.q (Quiet.streq rfl rfl) rfl ?_
        refine G.q (Quiet.move rfl) rfl ?_
        refine G.dec (t := 67) rfl (fun h12_67 => ?_) (fun h12_67 => ?_)
        · refine G.kDT (t := 66) rfl h12_67 ?_
          refine G.grun (t := 67) rfl rfl rfl ?_
          refine G.q (Quiet.move rfl) rfl ?_
          refine G.grun (t := 67) rfl rfl rfl ?_
          refine G.q (Quiet.move rfl) rfl ?_
          refine G.grun (t := 67) rfl rfl rfl ?_
          refine G.q (Quiet.int rfl rfl rfl) rfl ?_
          refine G.q (Quiet.pickT rfl rfl) rfl ?_
          refine G.q (Quiet.assign rfl) rfl ?_
          refine G.nil ?_
          refine G.then_n ?_
          refine G.ret ?_
          refine G.blk_r ?_
          refine G.then_r ?_
          have e1 : δ.step o = δ := by unfold Dk.step; rw [if_neg h21, if_neg h41, if_pos h48]
          have e2 : ρ.step o = ρ := by unfold Rk.step; rw [if_neg h21, if_neg h41, if_pos h48]
          rw [e1, e2]
          have e3 : stepB δ ρ o = (decide ((δ.read o.n).1 = (ρ.read o.n).1) && decide ((δ.read o.n).2 = (ρ.read o.n).2)) := by unfold stepB; rw [if_neg h21, if_neg h41, if_pos h48]
          rw [e3]
          exact G.done (l := [.tmp 6]) rfl rfl ⟨by rw [decide_eq_true h12_67, Bool.true_and], rfl⟩ (by (repeat (first | exact Picks.nil | (apply Picks.cons; (repeat (first | exact Pick.here | apply Pick.there)))))) (by (repeat (first | exact Suff.here | apply Suff.there)))
        · refine G.kDF (t := 66) rfl h12_67 ?_
          refine G.gskip (t := 67) rfl rfl rfl rfl ?_
          refine G.gskip (t := 67) rfl rfl rfl rfl ?_
          refine G.gskip (t := 67) rfl rfl rfl rfl ?_
          refine G.q (Quiet.pickF rfl rfl) rfl ?_
          refine G.q (Quiet.assign rfl) rfl ?_
          refine G.nil ?_
          refine G.then_n ?_
          refine G.ret ?_
          refine G.blk_r ?_
          refine G.then_r ?_
          have e1 : δ.step o = δ := by unfold Dk.step; rw [if_neg h21, if_neg h41, if_pos h48]
          have e2 : ρ.step o = ρ := by unfold Rk.step; rw [if_neg h21, if_neg h41, if_pos h48]
          rw [e1, e2]
          have e3 : stepB δ ρ o = (decide ((δ.read o.n).1 = (ρ.read o.n).1) && decide ((δ.read o.n).2 = (ρ.read o.n).2)) := by unfold stepB; rw [if_neg h21, if_neg h41, if_pos h48]
          rw [e3]
          exact G.done (l := [.tmp 6]) rfl rfl ⟨by rw [decide_eq_false h12_67]; rfl, rfl⟩ (by (repeat (first | exact Picks.nil | (apply Picks.cons; (repeat (first | exact Pick.here | apply Pick.there)))))) (by (repeat (first | exact Suff.here | apply Suff.there)))
      · refine G.seq ?_
        refine G.region ?_
        refine G.q (Quiet.int rfl rfl rfl) rfl ?_
        refine G.q (Quiet.assign rfl) rfl ?_
        refine G.nil ?_
        refine G.then_n ?_
        refine G.condD rfl (fun h72 => ?_) (fun h72 => ?_)
        · refine G.seq ?_
          refine G.draw [3, 7] [[0, 1, 2, 4, 5, 6, 3, 7, 8], [9]] mixed (by kernel_rfl) ?_
          refine Phases.go [ptc bx _ _] (by (repeat (first | exact Picks.nil | (apply Picks.cons; (repeat (first | exact Pick.here | apply Pick.there)))))) ?_
          refine D.qw [3, 7, 8] rfl (by kernel_rfl) (Quiet.move rfl) ?_
          refine D.qw [2, 3, 7, 8] rfl (by kernel_rfl) (Quiet.fieldAddr rfl fo_87_2) ?_
          refine D.qw [3, 7, 8] rfl (by kernel_rfl) (Quiet.load rfl ag_3 (by (repeat (first | exact Pick.here | apply Pick.there))) (rfl)) ?_
          refine D.q rfl (by kernel_rfl) (Quiet.move rfl) ?_
          refine D.q rfl (by kernel_rfl) (Quiet.fieldAddr rfl fo_87_2) ?_
          refine D.q rfl (by kernel_rfl) (Quiet.load rfl ag_3 (by (repeat (first | exact Pick.here | apply Pick.there))) (rfl)) ?_
          refine D.h rfl (by kernel_rfl) (OpSpec.call Try.func51 rfl rfl (vs := [_, _]) rfl (arm_spec d δ o.f hf)) (by (repeat (first | exact Picks.nil | (apply Picks.cons; (repeat (first | exact Pick.here | apply Pick.there)))))) ?nx60
          rintro v L' ⟨rfl, rfl⟩
          refine D.h rfl (by kernel_rfl) (OpSpec.call Try.func105 rfl rfl (vs := [_, _]) rfl (rarm_spec x ρ o.f hN hf)) (by (repeat (first | exact Picks.nil | (apply Picks.cons; (repeat (first | exact Pick.here | apply Pick.there)))))) ?nx62
          rintro v L' ⟨rfl, rfl⟩
          refine D.qw [] rfl (by kernel_rfl) (Quiet.int rfl rfl rfl) ?_
          refine D.ph ?_
          refine Phases.go [] (by (repeat (first | exact Picks.nil | (apply Picks.cons; (repeat (first | exact Pick.here | apply Pick.there)))))) ?_
          refine D.qw [] rfl (by kernel_rfl) (Quiet.assign rfl) ?_
          refine D.ph ?_
          refine Phases.fin ?_
          refine G.then_n ?_
          refine G.ret ?_
          refine G.blk_r ?_
          refine G.then_r ?_
          have e1 : δ.step o = (δ.arm o.f).1 := by unfold Dk.step; rw [if_neg h21, if_neg h41, if_neg h48, if_pos h72]
          have e2 : ρ.step o = (ρ.arm o.f).1 := by unfold Rk.step; rw [if_neg h21, if_neg h41, if_neg h48, if_pos h72]
          rw [e1, e2]
          have e3 : stepB δ ρ o = decide ((δ.arm o.f).2 = (ρ.arm o.f).2) := by unfold stepB; rw [if_neg h21, if_neg h41, if_neg h48, if_pos h72]
          rw [e3]
          exact G.done (l := [.tmp 6]) rfl rfl ⟨rfl, rfl⟩ (by (repeat (first | exact Picks.nil | (apply Picks.cons; (repeat (first | exact Pick.here | apply Pick.there)))))) (by (repeat (first | exact Suff.here | apply Suff.there)))
        · refine G.seq ?_
          refine G.region ?_
          refine G.q (Quiet.int rfl rfl rfl) rfl ?_
          refine G.q (Quiet.assign rfl) rfl ?_
          refine G.nil ?_
          refine G.then_n ?_
          refine G.condD rfl (fun h83 => ?_) (fun h83 => ?_)
          · refine G.seq ?_
            refine G.join (F := F) (ι := Nat × Nat) (fun q => [(0, vptr d), (1, vptr x), (5, vptr bx), (12, .slice (some ⟨q.1, 0, none⟩) o.how.length q.2)]) (fun q => [dkR d δ, rkR x ρ, p, ptc bx (opC (.slice ah o.how.length ch) o) 87, slR 3 1 (.slice (some ⟨q.1, 0, none⟩) (0 + o.how.length + 1) q.2) (0 + o.how.length + 1) ([] ++ ints o.how ++ [vint 77])]) (fun q => o.how.length + 1 ≤ q.2) ?_ (fun q hcq => ?_)
            · refine G.add (slR_nil 3 1) ?_
              refine G.draw [2, 3, 4] [[0, 1, 5, 6, 7, 2, 3, 4, 8], [9]] mixed (by kernel_rfl) ?_
              refine Phases.go [ptc bx _ _] (by (repeat (first | exact Picks.nil | (apply Picks.cons; (repeat (first | exact Pick.here | apply Pick.there)))))) ?_
              refine D.q rfl (by kernel_rfl) (Quiet.fieldAddr rfl fo_87_5) ?_
              refine D.q rfl (by kernel_rfl) (Quiet.load rfl ag_40 (by (repeat (first | exact Pick.here | apply Pick.there))) (rfl)) ?_
              refine D.q rfl (by kernel_rfl) (Quiet.fieldAddr rfl fo_87_5) ?_
              refine D.q rfl (by kernel_rfl) (Quiet.load rfl ag_40 (by (repeat (first | exact Pick.here | apply Pick.there))) (rfl)) ?_
              refine D.q rfl (by kernel_rfl) (Quiet.slen rfl Try.underlying40 rfl) ?_
              refine D.h2 (k := 3) rfl rfl (by kernel_rfl) rfl (OpSpec.append (v := .slice none 0 0) (n := 0) (xs := []) (m := o.how.length) (ys := ints o.how) (p := p) rfl rfl rfl el_40 (.inl ⟨_, Try.underlying40⟩) ze_3 rfl rfl ?hc71 hr ?hb72 ?hx73) (by (repeat (first | exact Picks.nil | (apply Picks.cons; (repeat (first | exact Pick.here | apply Pick.there)))))) (OpSpec.buildSlice1 (vs := [_]) el_40 ze_3 rfl rfl rfl rfl rfl (by decide)) (by (repeat (first | exact Picks.nil | (apply Picks.cons; (repeat (first | exact Pick.here | apply Pick.there)))))) ?nx74 ?nx75
              case hc71 => simp [isCell]
              case hb72 => omega
              case hx73 => decide
              · rintro v L' ⟨⟨a1, c1, rfl⟩, rfl⟩
                refine D.h rfl (by kernel_rfl) (OpSpec.buildSlice1 (vs := [_]) el_40 ze_3 rfl rfl rfl rfl rfl (by decide)) (by (repeat (first | exact Picks.nil | (apply Picks.cons; (repeat (first | exact Pick.here | apply Pick.there)))))) ?nx77
                rintro v L' ⟨b16_3, rfl, rfl⟩
                refine D.h rfl (by kernel_rfl) (OpSpec.shaped (k := 0 + o.how.length + 1) ?hk79 (OpSpec.append1 rfl rfl rfl el_40 ze_3 rfl rfl ?hc80 ?hd81 (Nat.le_refl _) ?hb82 (by decide))) (by (repeat (first | exact Picks.nil | (apply Picks.cons; (repeat (first | exact Pick.here | apply Pick.there)))))) ?nx83
                case hk79 => omega
                case hc80 => simp [isCell]
                case hd81 => rfl
                case hb82 => omega
                rintro v L' ⟨bq, cq, hcq, rfl, rfl⟩
                refine D.qw [] rfl (by kernel_rfl) (Quiet.as (v' := .slice (some ⟨bq, 0, none⟩) o.how.length cq) (by simp) (Quiet.slSlice (i := 0) (j := o.how.length) rfl el_40 (by exact rfl) (by exact rfl) (by omega))) ?_
                refine D.ph ?_
                refine Phases.go [] (by (repeat (first | exact Picks.nil | (apply Picks.cons; (repeat (first | exact Pick.here | apply Pick.there)))))) ?_
                refine D.qw [] rfl (by kernel_rfl) (Quiet.assign rfl) ?_
                refine D.ph ?_
                refine Phases.fin ?_
                refine G.then_n ?_
                exact G.meet (bq, cq) (by dsimp only; omega) ⟨rfl, rfl, rfl, rfl, trivial⟩ (by (repeat (first | exact Picks.nil | (apply Picks.cons; (repeat (first | exact Pick.here | apply Pick.there)))))) (by (repeat (first | exact Suff.here | apply Suff.there)))
              · rintro v L' ⟨b16_3, rfl, rfl⟩
                refine D.h rfl (by kernel_rfl) (OpSpec.append (v := .slice none 0 0) (n := 0) (xs := []) (m := o.how.length) (ys := ints o.how) (p := p) rfl rfl rfl el_40 (.inl ⟨_, Try.underlying40⟩) ze_3 rfl rfl ?hc87 hr ?hb88 ?hx89) (by (repeat (first | exact Picks.nil | (apply Picks.cons; (repeat (first | exact Pick.here | apply Pick.there)))))) ?nx90
                case hc87 => simp [isCell]
                case hb88 => omega
                case hx89 => decide
                rintro v L' ⟨⟨a1, c1, rfl⟩, rfl⟩
                refine D.h rfl (by kernel_rfl) (OpSpec.shaped (k := 0 + o.how.length + 1) ?hk92 (OpSpec.append1 rfl rfl rfl el_40 ze_3 rfl rfl ?hc93 ?hd94 (Nat.le_refl _) ?hb95 (by decide))) (by (repeat (first | exact Picks.nil | (apply Picks.cons; (repeat (first | exact Pick.here | apply Pick.there)))))) ?nx96
                case hk92 => omega
                case hc93 => simp [isCell]
                case hd94 => rfl
                case hb95 => omega
                rintro v L' ⟨bq, cq, hcq, rfl, rfl⟩
                refine D.qw [] rfl (by kernel_rfl) (Quiet.as (v' := .slice (some ⟨bq, 0, none⟩) o.how.length cq) (by simp) (Quiet.slSlice (i := 0) (j := o.how.length) rfl el_40 (by exact rfl) (by exact rfl) (by omega))) ?_
                refine D.ph ?_
                refine Phases.go [] (by (repeat (first | exact Picks.nil | (apply Picks.cons; (repeat (first | exact Pick.here | apply Pick.there)))))) ?_
                refine D.qw [] rfl (by kernel_rfl) (Quiet.assign rfl) ?_
                refine D.ph ?_
                refine Phases.fin ?_
                refine G.then_n ?_
                exact G.meet (bq, cq) (by dsimp only; omega) ⟨rfl, rfl, rfl, rfl, trivial⟩ (by (repeat (first | exact Picks.nil | (apply Picks.cons; (repeat (first | exact Pick.here | apply Pick.there)))))) (by (repeat (first | exact Suff.here | apply Suff.there)))
            obtain ⟨bq, cq⟩ := q
            dsimp only at hcq ⊢
            have hwr : ∀ h : Hp, slR 3 1 (.slice (some ⟨bq, 0, none⟩) (0 + o.how.length + 1) cq) (0 + o.how.length + 1) ([] ++ ints o.how ++ [vint 77]) h → rdS 1 h (.slice (some ⟨bq, 0, none⟩) o.how.length cq) o.how.length (ints o.how) := fun h hp => by have := slR_rd_take hp (k := o.how.length) (by omega); simpa using this
            refine G.seq ?_
            refine G.region ?_
            refine G.q (Quiet.move rfl) rfl ?_
            refine G.q (Quiet.move rfl) rfl ?_
            refine G.op (OpSpec.call Try.func53 rfl rfl (vs := [_, _]) rfl (crash_spec d δ (.slice (some ⟨bq, 0, none⟩) o.how.length cq) o.how (slR 3 1 (.slice (some ⟨bq, 0, none⟩) (0 + o.how.length + 1) cq) (0 + o.how.length + 1) ([] ++ ints o.how ++ [vint 77])) hwr hb)) (by (repeat (first | exact Picks.nil | (apply Picks.cons; (repeat (first | exact Pick.here | apply Pick.there)))))) rfl ?nx101
            rintro v L' ⟨rfl, rfl⟩
            refine G.nil ?_
            refine G.then_n ?_
            refine G.seq ?_
            refine G.region ?_
            refine G.q (Quiet.move rfl) rfl ?_
            refine G.q (Quiet.fieldAddr rfl fo_87_5) rfl ?_
            refine G.q (Quiet.load rfl ag_40 (by (repeat (first | exact Pick.here | apply Pick.there))) (rfl)) rfl ?_
            refine G.op (OpSpec.call Try.func58 rfl rfl (vs := [_, _]) rfl (rcrash_spec x ρ (.slice ah o.how.length ch) o.how p hr hb)) (by (repeat (first | exact Picks.nil | (apply Picks.cons; (repeat (first | exact Pick.here | apply Pick.there)))))) rfl ?nx106
            rintro v L' ⟨rfl, rfl⟩
            refine G.nil ?_
            refine G.then_n ?_
            refine G.seq ?_
            refine G.region ?_
            refine G.q (Quiet.move rfl) rfl ?_
            refine G.q (Quiet.fieldAddr rfl fo_87_5) rfl ?_
            refine G.q (Quiet.load rfl ag_40 (by (repeat (first | exact Pick.here | apply Pick.there))) (rfl)) rfl ?_
            refine G.op (OpSpec.call Try.func106 rfl rfl (vs := [_, _]) rfl (same_spec _ _ o.how o.how (slR 3 1 (.slice (some ⟨bq, 0, none⟩) (0 + o.how.length + 1) cq) (0 + o.how.length + 1) ([] ++ ints o.how ++ [vint 77])) p hwr hr (by omega))) (by (repeat (first | exact Picks.nil | (apply Picks.cons; (repeat (first | exact Pick.here | apply Pick.there)))))) rfl ?nx111
            rintro v L' ⟨rfl, rfl⟩; rw [decide_eq_true (rfl : o.how = o.how)]
            refine G.q (Quiet.assign rfl) rfl ?_
            refine G.nil ?_
            refine G.then_n ?_
            refine G.seq ?_
            refine G.draw [] [[0, 1, 2, 3, 4, 5, 6, 7, 8, 9, 10, 11, 12, 13, 14, 15]] mixed (by kernel_rfl) ?_
            refine Phases.go [] (by (repeat (first | exact Picks.nil | (apply Picks.cons; (repeat (first | exact Pick.here | apply Pick.there)))))) ?_
            refine D.qw [1, 2, 3, 4, 5, 6, 7, 8, 9, 10, 11, 12, 13, 14, 15] rfl (by kernel_rfl) (Quiet.move rfl) ?_
            refine D.qw [2, 3, 4, 5, 6, 7, 8, 9, 10, 11, 12, 13, 14, 15] rfl (by kernel_rfl) (Quiet.move rfl) ?_
            refine D.gqw [7, 11, 12, 13, 14, 15] (t := 106) rfl rfl rfl (by kernel_rfl) (Quiet.move rfl) ?_
            refine D.gqw [4, 5, 6, 7, 11, 12, 13, 14, 15] (t := 106) rfl rfl rfl (by kernel_rfl) (Quiet.fieldAddr rfl fo_87_5) ?_
            refine D.gqw [5, 6, 7, 11, 12, 13, 14, 15] (t := 106) rfl rfl rfl (by kernel_rfl) (Quiet.load rfl ag_40 (by (repeat (first | exact Pick.here | apply Pick.there))) (rfl)) ?_
            refine D.gqw [6, 7, 11, 12, 13, 14, 15] (t := 106) rfl rfl rfl (by kernel_rfl) (Quiet.slen rfl Try.underlying40 rfl) ?_
            refine D.gqw [7, 11, 12, 13, 14, 15] (t := 106) rfl rfl rfl (by kernel_rfl) (Quiet.add rfl rfl (by omega)) ?_
            refine D.gqw [11, 12, 13, 14, 15] (t := 106) rfl rfl rfl (by kernel_rfl) (Quiet.as (v' := .slice (some ⟨bq, 0, none⟩) (o.how.length + 1) cq) (by simp) (Quiet.slSlice (i := 0) (j := (o.how.length : Int) + 1) rfl el_40 (by exact rfl) (by exact rfl) (by omega))) ?_
            refine D.gqw [9, 10, 11, 12, 13, 14, 15] (t := 106) rfl rfl rfl (by kernel_rfl) (Quiet.fieldAddr rfl fo_87_5) ?_
            refine D.gqw [10, 11, 12, 13, 14, 15] (t := 106) rfl rfl rfl (by kernel_rfl) (Quiet.load rfl ag_40 (by (repeat (first | exact Pick.here | apply Pick.there))) (rfl)) ?_
            refine D.gqw [11, 12, 13, 14, 15] (t := 106) rfl rfl rfl (by kernel_rfl) (Quiet.slen rfl Try.underlying40 rfl) ?_
            refine D.gqw [12, 13, 14, 15] (t := 106) rfl rfl rfl (by kernel_rfl) (Quiet.indexAddr rfl rfl el_40 (by omega)) ?_
            refine D.gqw [13, 14, 15] (t := 106) rfl rfl rfl (by kernel_rfl) (Quiet.loadEl (p := slR 3 1 (.slice (some ⟨bq, 0, none⟩) (0 + o.how.length + 1) cq) (0 + o.how.length + 1) ([] ++ ints o.how ++ [vint 77])) (i := o.how.length * 1) (v := vint 77) rfl ag_3 (by (repeat (first | exact Pick.here | apply Pick.there))) (fun h hp => slR_rd hp) (by simp)) ?_
            refine D.gqw [14, 15] (t := 106) rfl rfl rfl (by kernel_rfl) (Quiet.int rfl rfl rfl) ?_
            refine D.qw [15] rfl (by kernel_rfl) (Quiet.pickT rfl rfl) ?_
            refine D.qw [] rfl (by kernel_rfl) (Quiet.assign rfl) ?_
            refine D.ph ?_
            refine Phases.fin ?_
            refine G.then_n ?_
            refine G.ret ?_
            refine G.blk_r ?_
            refine G.then_r ?_
            have e1 : δ.step o = δ.crash o.how := by unfold Dk.step; rw [if_neg h21, if_neg h41, if_neg h48, if_neg h72, if_pos h83]
            have e2 : ρ.step o = ρ.crash o.how := by unfold Rk.step; rw [if_neg h21, if_neg h41, if_neg h48, if_neg h72, if_pos h83]
            rw [e1, e2]
            have e3 : stepB δ ρ o = true := by unfold stepB; rw [if_neg h21, if_neg h41, if_neg h48, if_neg h72, if_pos h83]
            rw [e3]
            exact G.done (l := [.tmp 6]) rfl rfl ⟨rfl, rfl⟩ (by (repeat (first | exact Picks.nil | (apply Picks.cons; (repeat (first | exact Pick.here | apply Pick.there)))))) (by (repeat (first | exact Suff.here | apply Suff.there)))
          · refine G.seq ?_
            refine G.region ?_
            refine G.q (Quiet.int rfl rfl rfl) rfl ?_
            refine G.q (Quiet.assign rfl) rfl ?_
            refine G.nil ?_
            refine G.then_n ?_
            refine G.condD rfl (fun h120 => ?_) (fun h120 => ?_)
            · refine G.dkOpen (δ := δ) (by (repeat (first | exact Pick.here | apply Pick.there))) fun nb ob hok => ?_
              refine G.dkFold (δ := δ) (by (repeat (first | exact Picks.nil | (apply Picks.cons; (repeat (first | exact Pick.here | apply Pick.there)))))) rfl rfl rfl hok ?_
              have hpl : δ.pend.length ≤ 32768 := by rw [Dk.pend_len]; have := hok.oldlen; have := hok.big; omega
              refine G.seq ?_
              refine G.region ?_
              refine G.q (Quiet.move rfl) rfl ?_
              refine G.op (OpSpec.call Try.func54 rfl rfl (vs := [_]) rfl (pending_spec d δ)) (by (repeat (first | exact Picks.nil | (apply Picks.cons; (repeat (first | exact Pick.here | apply Pick.there)))))) rfl ?nx127
              rintro v L' ⟨⟨al, cl, rfl⟩, rfl⟩
              refine G.q (Quiet.assign rfl) rfl ?_
              refine G.nil ?_
              refine G.then_n ?_
              refine G.seq ?_
              refine G.region ?_
              refine G.q (Quiet.move rfl) rfl ?_
              refine G.op (OpSpec.call Try.func54 rfl rfl (vs := [_]) rfl (pending_spec d δ)) (by (repeat (first | exact Picks.nil | (apply Picks.cons; (repeat (first | exact Pick.here | apply Pick.there)))))) rfl ?nx130
              rintro v L' ⟨⟨am, cm, rfl⟩, rfl⟩
              refine G.q (Quiet.assign rfl) rfl ?_
              refine G.nil ?_
              refine G.then_n ?_
              refine G.seq ?_
              refine G.region ?_
              refine G.q (Quiet.move rfl) rfl ?_
              refine G.q (Quiet.move rfl) rfl ?_
              refine G.op (OpSpec.call Try.func107 rfl rfl (vs := [_]) rfl (rpend_spec x ρ)) (by (repeat (first | exact Picks.nil | (apply Picks.cons; (repeat (first | exact Pick.here | apply Pick.there)))))) rfl ?nx133
              rintro v L' ⟨⟨ax, cx, rfl⟩, rfl⟩
              refine G.op (OpSpec.call Try.func106 rfl rfl (vs := [_, _]) rfl (same_spec _ _ δ.pend ρ.pending (intR (.slice al δ.pend.length cl) δ.pend) (intR (.slice ax ρ.pending.length cx) ρ.pending) (fun h hp => slR_rd hp) (fun h hp => slR_rd hp) (by omega))) (by (repeat (first | exact Picks.nil | (apply Picks.cons; (repeat (first | exact Pick.here | apply Pick.there)))))) rfl ?nx135
              rintro v L' ⟨rfl, rfl⟩
              refine G.q (Quiet.assign rfl) rfl ?_
              refine G.nil ?_
              refine G.then_n ?_
              refine G.seq ?_
              refine G.seq ?_
              refine G.region ?_
              refine G.q (Quiet.assign rfl) rfl ?_
              refine G.nil ?_
              refine G.then_n ?_
              refine G.block ?_
              refine G.loop (F := F) (ι := Nat × List Value) (fun q => [(0, vptr d), (1, vptr x), (5, vptr bx), (14, .slice al δ.pend.length cl), (15, .slice am δ.pend.length cm), (16, .bool (decide (δ.pend = ρ.pending))), (17, vint q.1)]) (fun q => [dkR d δ, rkR x ρ, p, slR 3 1 (.slice al δ.pend.length cl) δ.pend.length q.2, intR (.slice am δ.pend.length cm) δ.pend]) (fun q => q.1 ≤ δ.pend.length) (fun q => δ.pend.length - q.1) (0, ints δ.pend) (Nat.zero_le _) ⟨rfl, rfl, rfl, rfl, rfl, rfl, rfl, trivial⟩ (by (repeat (first | exact Picks.nil | (apply Picks.cons; (repeat (first | exact Pick.here | apply Pick.there)))))) (by (repeat (first | exact Suff.here | apply Suff.there))) ?_
              rintro ⟨i, ys⟩ hi
              dsimp only at hi ⊢
              refine G.seq ?_
              refine G.seq ?_
              refine G.region ?_
              refine G.q (Quiet.move rfl) rfl ?_
              refine G.q (Quiet.move rfl) rfl ?_
              refine G.q (Quiet.slen rfl Try.underlying40 rfl) rfl ?_
              refine G.q (Quiet.int rfl rfl rfl) rfl ?_
              refine G.nil ?_
              refine G.then_n ?_
              refine G.condD rfl (fun h133 => ?_) (fun h133 => ?_)
              · have hi2 : i < δ.pend.length := by omega
                refine G.slShape (v := .slice al _ cl) (by (repeat (first | exact Pick.here | apply Pick.there))) (by omega) fun bl cl' e ml _ => ?_
                simp only [Value.slice.injEq, true_and] at e
                obtain ⟨rfl, rfl⟩ := e
                refine G.skip ?_
                refine G.then_n ?_
                refine G.seq ?_
                refine G.block ?_
                refine G.region ?_
                refine G.q (Quiet.move rfl) rfl ?_
                refine G.q (Quiet.move rfl) rfl ?_
                refine G.q (Quiet.indexAddr rfl rfl el_40 (by omega)) rfl ?_
                refine G.op (OpSpec.storeEl (i := i * 1) rfl rfl rfl sz_3 ?hi145) (by (repeat (first | exact Picks.nil | (apply Picks.cons; (repeat (first | exact Pick.here | apply Pick.there)))))) rfl ?nx146
                case hi145 => omega
                rintro v L' rfl
                refine G.nil ?_
                refine G.blk_n ?_
                refine G.then_n ?_
                refine G.region ?_
                refine G.q (Quiet.move rfl) rfl ?_
                refine G.q (Quiet.add rfl rfl (by omega)) rfl ?_
                refine G.q (Quiet.assign rfl) rfl ?_
                refine G.nil ?_
                refine G.then_n ?_
                refine G.round (i + 1, ys.set (i * 1) (vint (-1))) (by dsimp only; omega) (by dsimp only; omega) ⟨rfl, rfl, rfl, rfl, rfl, rfl, rfl, trivial⟩ (by (repeat (first | exact Picks.nil | (apply Picks.cons; (repeat (first | exact Pick.here | apply Pick.there)))))) (by (repeat (first | exact Suff.here | apply Suff.there)))
              · refine G.exit ?_
                refine G.then_e ?_
                refine G.then_e ?_
                refine G.blk_e ?_
                refine G.then_n ?_
                refine G.seq ?_
                refine G.region ?_
                refine G.q (Quiet.move rfl) rfl ?_
                refine G.op (OpSpec.buildSlice1 (vs := [_]) el_40 ze_3 rfl rfl rfl rfl rfl (by decide)) (by (repeat (first | exact Picks.nil | (apply Picks.cons; (repeat (first | exact Pick.here | apply Pick.there)))))) rfl ?nx150
                rintro v L' ⟨b29_1, rfl, rfl⟩
                refine G.op (OpSpec.append1 rfl rfl rfl el_40 ze_3 rfl rfl ?c152 ?c153 (Nat.le_refl _) ?c154 (by decide)) (by (repeat (first | exact Picks.nil | (apply Picks.cons; (repeat (first | exact Pick.here | apply Pick.there)))))) rfl ?nx155
                case c152 => simp [isCell]
                case c153 => rfl
                case c154 => omega
                rintro v L' ⟨⟨a29_2, c29_2, rfl⟩, rfl⟩
                refine G.q (Quiet.assign rfl) rfl ?_
                refine G.nil ?_
                refine G.then_n ?_
                refine G.seq ?_
                refine G.region ?_
                refine G.q (Quiet.move rfl) rfl ?_
                refine G.q (Quiet.move rfl) rfl ?_
                refine G.op (OpSpec.call Try.func107 rfl rfl (vs := [_]) rfl (rpend_spec x ρ)) (by (repeat (first | exact Picks.nil | (apply Picks.cons; (repeat (first | exact Pick.here | apply Pick.there)))))) rfl ?nx159
                rintro v L' ⟨⟨ay, cy, rfl⟩, rfl⟩
                refine G.op (OpSpec.call Try.func106 rfl rfl (vs := [_, _]) rfl (same_spec _ _ δ.pend ρ.pending (intR (.slice am δ.pend.length cm) δ.pend) (intR (.slice ay ρ.pending.length cy) ρ.pending) (fun h hp => slR_rd hp) (fun h hp => slR_rd hp) (by omega))) (by (repeat (first | exact Picks.nil | (apply Picks.cons; (repeat (first | exact Pick.here | apply Pick.there)))))) rfl ?nx161
                rintro v L' ⟨rfl, rfl⟩
                refine G.q (Quiet.assign rfl) rfl ?_
                refine G.nil ?_
                refine G.then_n ?_
                refine G.seq ?_
                refine G.region ?_
                refine G.q (Quiet.move rfl) rfl ?_
                refine G.q (Quiet.move rfl) rfl ?_
                refine G.dec (t := 147) rfl (fun h31_147 => ?_) (fun h31_147 => ?_)
                · refine G.kDT (t := 146) rfl h31_147 ?_
                  refine G.grun (t := 147) rfl rfl rfl ?_
                  refine G.q (Quiet.move rfl) rfl ?_
                  refine G.q (Quiet.pickT rfl rfl) rfl ?_
                  refine G.q (Quiet.move rfl) rfl ?_
                  refine G.dec (t := 150) rfl (fun h31_150 => ?_) (fun h31_150 => ?_)
                  · refine G.kDT (t := 145) rfl h31_150 ?_
                    refine G.kDT (t := 18) rfl h31_150 ?_
                    refine G.kDT (t := 148) rfl h31_150 ?_
                    refine G.kDT (t := 149) rfl h31_150 ?_
                    refine G.grun (t := 150) rfl rfl rfl ?_
                    refine G.q (Quiet.move rfl) rfl ?_
                    refine G.grun (t := 150) rfl rfl rfl ?_
                    refine G.q (Quiet.slen rfl Try.underlying40 rfl) rfl ?_
                    refine G.grun (t := 150) rfl rfl rfl ?_
                    refine G.q (Quiet.move rfl) rfl ?_
                    refine G.grun (t := 150) rfl rfl rfl ?_
                    refine G.q (Quiet.slen rfl Try.underlying40 rfl) rfl ?_
                    refine G.grun (t := 150) rfl rfl rfl ?_
                    refine G.q (Quiet.add rfl rfl (by omega)) rfl ?_
                    refine G.grun (t := 150) rfl rfl rfl ?_
                    refine G.q (Quiet.as (v' := .bool true) (by simp) (Quiet.int rfl rfl rfl)) rfl ?_
                    refine G.q (Quiet.pickT rfl rfl) rfl ?_
                    refine G.q (Quiet.assign rfl) rfl ?_
                    refine G.nil ?_
                    refine G.then_n ?_
                    refine G.ret ?_
                    refine G.blk_r ?_
                    refine G.then_r ?_
                    have e1 : δ.step o = δ := by unfold Dk.step; rw [if_neg h21, if_neg h41, if_neg h48, if_neg h72, if_neg h83]
                    have e2 : ρ.step o = ρ := by unfold Rk.step; rw [if_neg h21, if_neg h41, if_neg h48, if_neg h72, if_neg h83]
                    rw [e1, e2]
                    have e3 : stepB δ ρ o = decide (δ.pend = ρ.pending) := by unfold stepB; rw [if_neg h21, if_neg h41, if_neg h48, if_neg h72, if_neg h83, if_pos h120]
                    rw [e3]
                    exact G.done (l := [.tmp 6]) rfl rfl ⟨by rw [decide_eq_true h31_147], rfl⟩ (by (repeat (first | exact Picks.nil | (apply Picks.cons; (repeat (first | exact Pick.here | apply Pick.there)))))) (by (repeat (first | exact Suff.here | apply Suff.there)))
                  · exact absurd h31_147 h31_150
                · refine G.kDF (t := 146) rfl h31_147 ?_
                  refine G.gskip (t := 147) rfl rfl rfl rfl ?_
                  refine G.q (Quiet.pickF rfl rfl) rfl ?_
                  refine G.q (Quiet.move rfl) rfl ?_
                  refine G.gskip (t := 150) rfl rfl rfl rfl ?_
                  refine G.gskip (t := 150) rfl rfl rfl rfl ?_
                  refine G.gskip (t := 150) rfl rfl rfl rfl ?_
                  refine G.gskip (t := 150) rfl rfl rfl rfl ?_
                  refine G.gskip (t := 150) rfl rfl rfl rfl ?_
                  refine G.gskip (t := 150) rfl rfl rfl rfl ?_
                  refine G.q (Quiet.pickF rfl rfl) rfl ?_
                  refine G.q (Quiet.assign rfl) rfl ?_
                  refine G.nil ?_
                  refine G.then_n ?_
                  refine G.ret ?_
                  refine G.blk_r ?_
                  refine G.then_r ?_
                  have e1 : δ.step o = δ := by unfold Dk.step; rw [if_neg h21, if_neg h41, if_neg h48, if_neg h72, if_neg h83]
                  have e2 : ρ.step o = ρ := by unfold Rk.step; rw [if_neg h21, if_neg h41, if_neg h48, if_neg h72, if_neg h83]
                  rw [e1, e2]
                  have e3 : stepB δ ρ o = decide (δ.pend = ρ.pending) := by unfold stepB; rw [if_neg h21, if_neg h41, if_neg h48, if_neg h72, if_neg h83, if_pos h120]
                  rw [e3]
                  exact G.done (l := [.tmp 6]) rfl rfl ⟨by rw [decide_eq_false h31_147], rfl⟩ (by (repeat (first | exact Picks.nil | (apply Picks.cons; (repeat (first | exact Pick.here | apply Pick.there)))))) (by (repeat (first | exact Suff.here | apply Suff.there)))
            · refine G.seq ?_
              refine G.region ?_
              refine G.q (Quiet.int rfl rfl rfl) rfl ?_
              refine G.q (Quiet.assign rfl) rfl ?_
              refine G.nil ?_
              refine G.then_n ?_
              refine G.condD rfl (fun h158 => ?_) (fun h158 => ?_)
              · refine G.rkOpen (x := x) (ρ := ρ) (by (repeat (first | exact Pick.here | apply Pick.there))) fun vL vO vP hok => ?_
                refine G.slAny (v := vL) (by (repeat (first | exact Pick.here | apply Pick.there))) fun aL cL e _ => ?_
                subst e
                refine G.seq ?_
                refine G.draw [1, 10, 19] [[0, 2, 3, 4, 5, 6, 1, 7, 8, 9, 11, 12, 13, 14, 10, 15, 16, 17, 18, 20, 21, 22, 23, 19, 24, 25], [26]] mixed (by kernel_rfl) ?_
                refine Phases.go [ptc x _ _] (by (repeat (first | exact Picks.nil | (apply Picks.cons; (repeat (first | exact Pick.here | apply Pick.there)))))) ?_
                refine D.qw [1, 7, 8, 9, 11, 12, 13, 14, 10, 15, 16, 17, 18, 20, 21, 22, 23, 19, 24, 25] rfl (by kernel_rfl) (Quiet.move rfl) ?_
                refine D.q rfl (by kernel_rfl) (Quiet.move rfl) ?_
                refine D.q rfl (by kernel_rfl) (Quiet.nilp rfl) ?_
                refine D.q rfl (by kernel_rfl) (Quiet.fieldAddr rfl fo_102_0) ?_
                refine D.q rfl (by kernel_rfl) (Quiet.load rfl ag_22 (by (repeat (first | exact Pick.here | apply Pick.there))) (rfl)) ?_
                refine D.q rfl (by kernel_rfl) (Quiet.slen rfl Try.underlying22 rfl) ?_
                refine D.h rfl (by kernel_rfl) (OpSpec.call Try.func108 rfl rfl (vs := [_]) rfl (size_spec d δ)) (by (repeat (first | exact Picks.nil | (apply Picks.cons; (repeat (first | exact Pick.here | apply Pick.there)))))) ?nx178
                rintro v L' ⟨rfl, rfl⟩
                refine D.qw [8, 9, 11, 12, 13, 14, 10, 15, 16, 17, 18, 20, 21, 22, 23, 19, 24, 25] rfl (by kernel_rfl) (Quiet.int rfl rfl rfl) ?_
                refine D.qw [9, 11, 12, 13, 14, 10, 15, 16, 17, 18, 20, 21, 22, 23, 19, 24, 25] rfl (by kernel_rfl) (Quiet.move rfl) ?_
                refine D.dec (t := 168) rfl (fun h33_168 => ?_) (fun h33_168 => ?_)
                · refine D.kDT (t := 167) rfl h33_168 ?_
                  refine D.gqw [10, 15, 16, 17, 18, 20, 21, 22, 23, 19, 24, 25] (t := 168) rfl rfl rfl (by kernel_rfl) (Quiet.move rfl) ?_
                  refine D.gq (t := 168) rfl rfl rfl (by kernel_rfl) (Quiet.move rfl) ?_
                  refine D.gq (t := 168) rfl rfl rfl (by kernel_rfl) (Quiet.nilp rfl) ?_
                  refine D.gq (t := 168) rfl rfl rfl (by kernel_rfl) (Quiet.fieldAddr rfl fo_102_5) ?_
                  refine D.gq (t := 168) rfl rfl rfl (by kernel_rfl) (Quiet.load rfl ag_4 (by (repeat (first | exact Pick.here | apply Pick.there))) (rfl)) ?_
                  refine D.gh (t := 168) rfl rfl rfl (by kernel_rfl) (OpSpec.call Try.func52 rfl rfl (vs := [_]) rfl (dead_spec d δ)) (by (repeat (first | exact Picks.nil | (apply Picks.cons; (repeat (first | exact Pick.here | apply Pick.there)))))) ?nx186
                  rintro v L' ⟨rfl, rfl⟩
                  refine D.gqw [16, 17, 18, 20, 21, 22, 23, 19, 24, 25] (t := 168) rfl rfl rfl (by kernel_rfl) (Quiet.booleq rfl rfl Try.underlying4) ?_
                  refine D.qw [17, 18, 20, 21, 22, 23, 19, 24, 25] rfl (by kernel_rfl) (Quiet.pickT rfl rfl) ?_
                  refine D.qw [18, 20, 21, 22, 23, 19, 24, 25] rfl (by kernel_rfl) (Quiet.move rfl) ?_
                  refine D.bool (t := 177) rfl (fun h33_177 => ?_) (fun h33_177 => ?_)
                  · refine D.kB (t := 175) rfl h33_177 ?_
                    refine D.kB (t := 176) rfl h33_177 ?_
                    refine D.gqw [19, 24, 25] (t := 177) rfl rfl rfl (by kernel_rfl) (Quiet.move rfl) ?_
                    refine D.gq (t := 177) rfl rfl rfl (by kernel_rfl) (Quiet.move rfl) ?_
                    refine D.gq (t := 177) rfl rfl rfl (by kernel_rfl) (Quiet.nilp rfl) ?_
                    refine D.gq (t := 177) rfl rfl rfl (by kernel_rfl) (Quiet.fieldAddr rfl fo_102_3) ?_
                    refine D.gq (t := 177) rfl rfl rfl (by kernel_rfl) (Quiet.load rfl ag_3 (by (repeat (first | exact Pick.here | apply Pick.there))) (rfl)) ?_
                    refine D.gh (t := 177) rfl rfl rfl (by kernel_rfl) (OpSpec.call Try.func21 rfl rfl (vs := [_]) rfl (acts_spec d δ)) (by (repeat (first | exact Picks.nil | (apply Picks.cons; (repeat (first | exact Pick.here | apply Pick.there)))))) ?nx194
                    rintro v L' ⟨rfl, rfl⟩
                    refine D.gqw [25] (t := 177) rfl rfl rfl (by kernel_rfl) (Quiet.int rfl rfl rfl) ?_
                    refine D.qw [] rfl (by kernel_rfl) (Quiet.pickT rfl rfl) ?_
                    refine D.ph ?_
                    refine Phases.go [] (by (repeat (first | exact Picks.nil | (apply Picks.cons; (repeat (first | exact Pick.here | apply Pick.there)))))) ?_
                    refine D.qw [] rfl (by kernel_rfl) (Quiet.assign rfl) ?_
                    refine D.ph ?_
                    refine Phases.fin ?_
                    refine G.then_n ?_
                    refine G.ret ?_
                    refine G.blk_r ?_
                    refine G.then_r ?_
                    refine G.rkFold (x := x) (ρ := ρ) (by (repeat (first | exact Picks.nil | (apply Picks.cons; (repeat (first | exact Pick.here | apply Pick.there)))))) rfl ⟨rfl, rfl⟩ ⟨rfl, rfl⟩ ⟨rfl, rfl⟩ hok ?_
                    have e1 : δ.step o = δ := by unfold Dk.step; rw [if_neg h21, if_neg h41, if_neg h48, if_neg h72, if_neg h83]
                    have e2 : ρ.step o = ρ := by unfold Rk.step; rw [if_neg h21, if_neg h41, if_neg h48, if_neg h72, if_neg h83]
                    rw [e1, e2]
                    have e3 : stepB δ ρ o = (decide ((δ.now.length : Int) = ρ.L.length) && (δ.dead == ρ.Gone) && decide (δ.acts = ρ.N)) := by unfold stepB; rw [if_neg h21, if_neg h41, if_neg h48, if_neg h72, if_neg h83, if_neg h120, if_pos h158]
                    rw [e3]
                    exact G.done (l := [.tmp 6]) rfl rfl ⟨by rw [decide_eq_true h33_168, h33_177]; rfl, rfl⟩ (by (repeat (first | exact Picks.nil | (apply Picks.cons; (repeat (first | exact Pick.here | apply Pick.there)))))) (by (repeat (first | exact Suff.here | apply Suff.there)))
                  · refine D.kB (t := 175) rfl h33_177 ?_
                    refine D.kB (t := 176) rfl h33_177 ?_
                    refine D.gs (t := 177) rfl rfl rfl rfl (by kernel_rfl) ?_
                    refine D.gs (t := 177) rfl rfl rfl rfl (by kernel_rfl) ?_
                    refine D.gs (t := 177) rfl rfl rfl rfl (by kernel_rfl) ?_
                    refine D.gs (t := 177) rfl rfl rfl rfl (by kernel_rfl) ?_
                    refine D.gs (t := 177) rfl rfl rfl rfl (by kernel_rfl) ?_
                    refine D.gs (t := 177) rfl rfl rfl rfl (by kernel_rfl) ?_
                    refine D.gs (t := 177) rfl rfl rfl rfl (by kernel_rfl) ?_
                    refine D.qw [] rfl (by kernel_rfl) (Quiet.pickF rfl rfl) ?_
                    refine D.ph ?_
                    refine Phases.go [] (by (repeat (first | exact Picks.nil | (apply Picks.cons; (repeat (first | exact Pick.here | apply Pick.there)))))) ?_
                    refine D.qw [] rfl (by kernel_rfl) (Quiet.assign rfl) ?_
                    refine D.ph ?_
                    refine Phases.fin ?_
                    refine G.then_n ?_
                    refine G.ret ?_
                    refine G.blk_r ?_
                    refine G.then_r ?_
                    refine G.rkFold (x := x) (ρ := ρ) (by (repeat (first | exact Picks.nil | (apply Picks.cons; (repeat (first | exact Pick.here | apply Pick.there)))))) rfl ⟨rfl, rfl⟩ ⟨rfl, rfl⟩ ⟨rfl, rfl⟩ hok ?_
                    have e1 : δ.step o = δ := by unfold Dk.step; rw [if_neg h21, if_neg h41, if_neg h48, if_neg h72, if_neg h83]
                    have e2 : ρ.step o = ρ := by unfold Rk.step; rw [if_neg h21, if_neg h41, if_neg h48, if_neg h72, if_neg h83]
                    rw [e1, e2]
                    have e3 : stepB δ ρ o = (decide ((δ.now.length : Int) = ρ.L.length) && (δ.dead == ρ.Gone) && decide (δ.acts = ρ.N)) := by unfold stepB; rw [if_neg h21, if_neg h41, if_neg h48, if_neg h72, if_neg h83, if_neg h120, if_pos h158]
                    rw [e3]
                    exact G.done (l := [.tmp 6]) rfl rfl ⟨by rw [decide_eq_true h33_168, h33_177]; rfl, rfl⟩ (by (repeat (first | exact Picks.nil | (apply Picks.cons; (repeat (first | exact Pick.here | apply Pick.there)))))) (by (repeat (first | exact Suff.here | apply Suff.there)))
                · refine D.kDF (t := 167) rfl h33_168 ?_
                  refine D.gs (t := 168) rfl rfl rfl rfl (by kernel_rfl) ?_
                  refine D.gs (t := 168) rfl rfl rfl rfl (by kernel_rfl) ?_
                  refine D.gs (t := 168) rfl rfl rfl rfl (by kernel_rfl) ?_
                  refine D.gs (t := 168) rfl rfl rfl rfl (by kernel_rfl) ?_
                  refine D.gs (t := 168) rfl rfl rfl rfl (by kernel_rfl) ?_
                  refine D.gs (t := 168) rfl rfl rfl rfl (by kernel_rfl) ?_
                  refine D.gs (t := 168) rfl rfl rfl rfl (by kernel_rfl) ?_
                  refine D.qw [17, 18, 20, 21, 22, 23, 19, 24, 25] rfl (by kernel_rfl) (Quiet.pickF rfl rfl) ?_
                  refine D.qw [18, 20, 21, 22, 23, 19, 24, 25] rfl (by kernel_rfl) (Quiet.move rfl) ?_
                  refine D.gs (t := 177) rfl rfl rfl rfl (by kernel_rfl) ?_
                  refine D.gs (t := 177) rfl rfl rfl rfl (by kernel_rfl) ?_
                  refine D.gs (t := 177) rfl rfl rfl rfl (by kernel_rfl) ?_
                  refine D.gs (t := 177) rfl rfl rfl rfl (by kernel_rfl) ?_
                  refine D.gs (t := 177) rfl rfl rfl rfl (by kernel_rfl) ?_
                  refine D.gs (t := 177) rfl rfl rfl rfl (by kernel_rfl) ?_
                  refine D.gs (t := 177) rfl rfl rfl rfl (by kernel_rfl) ?_
                  refine D.qw [] rfl (by kernel_rfl) (Quiet.pickF rfl rfl) ?_
                  refine D.ph ?_
                  refine Phases.go [] (by (repeat (first | exact Picks.nil | (apply Picks.cons; (repeat (first | exact Pick.here | apply Pick.there)))))) ?_
                  refine D.qw [] rfl (by kernel_rfl) (Quiet.assign rfl) ?_
                  refine D.ph ?_
                  refine Phases.fin ?_
                  refine G.then_n ?_
                  refine G.ret ?_
                  refine G.blk_r ?_
                  refine G.then_r ?_
                  refine G.rkFold (x := x) (ρ := ρ) (by (repeat (first | exact Picks.nil | (apply Picks.cons; (repeat (first | exact Pick.here | apply Pick.there)))))) rfl ⟨rfl, rfl⟩ ⟨rfl, rfl⟩ ⟨rfl, rfl⟩ hok ?_
                  have e1 : δ.step o = δ := by unfold Dk.step; rw [if_neg h21, if_neg h41, if_neg h48, if_neg h72, if_neg h83]
                  have e2 : ρ.step o = ρ := by unfold Rk.step; rw [if_neg h21, if_neg h41, if_neg h48, if_neg h72, if_neg h83]
                  rw [e1, e2]
                  have e3 : stepB δ ρ o = (decide ((δ.now.length : Int) = ρ.L.length) && (δ.dead == ρ.Gone) && decide (δ.acts = ρ.N)) := by unfold stepB; rw [if_neg h21, if_neg h41, if_neg h48, if_neg h72, if_neg h83, if_neg h120, if_pos h158]
                  rw [e3]
                  exact G.done (l := [.tmp 6]) rfl rfl ⟨by rw [decide_eq_false h33_168]; rfl, rfl⟩ (by (repeat (first | exact Picks.nil | (apply Picks.cons; (repeat (first | exact Pick.here | apply Pick.there)))))) (by (repeat (first | exact Suff.here | apply Suff.there)))
              · refine G.skip ?_
                refine G.blk_n ?_
                refine G.then_n ?_
                refine G.seq ?_
                refine G.region ?_
                refine G.q (Quiet.assign rfl) rfl ?_
                refine G.nil ?_
                refine G.then_n ?_
                refine G.ret ?_
                have e1 : δ.step o = δ := by unfold Dk.step; rw [if_neg h21, if_neg h41, if_neg h48, if_neg h72, if_neg h83]
                have e2 : ρ.step o = ρ := by unfold Rk.step; rw [if_neg h21, if_neg h41, if_neg h48, if_neg h72, if_neg h83]
                rw [e1, e2]
                have e3 : stepB δ ρ o = true := by unfold stepB; rw [if_neg h21, if_neg h41, if_neg h48, if_neg h72, if_neg h83, if_neg h120, if_neg h158]
                rw [e3]
                exact G.done (l := [.tmp 6]) rfl rfl ⟨rfl, rfl⟩ (by (repeat (first | exact Picks.nil | (apply Picks.cons; (repeat (first | exact Pick.here | apply Pick.there)))))) (by (repeat (first | exact Suff.here | apply Suff.there)))

end Go.Proofs.Ytepncdidkjjllaa
