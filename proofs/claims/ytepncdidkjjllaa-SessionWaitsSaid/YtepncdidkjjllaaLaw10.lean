/- Own work, by program: the laws of chapter 10, walked. -/
import Derived.Test.YtepncdidkjjllaaL10
namespace Go.Proofs.Ytepncdidkjjllaa
open Go
set_option maxRecDepth 100000 in
theorem pick10_spec  (c n : Int) (hc : -9223372036854775808 ≤ c ∧ c ≤ 9223372036854775807) (hn : 0 < n) : Fn Try.prog 34 #[vint c, vint n] [] fun v L => v = vint (pickZ c n) ∧ L = [] := by
  refine Fn.intro (vs := [vint c, vint n]) Try.func34 rfl rfl ?_
  intro F W
  refine G.seq ?_
  refine G.region ?_
  refine G.q (Quiet.assign rfl) rfl ?_
  refine G.nil ?_
  refine G.then_n ?_
  refine G.seq ?_
  refine G.seq ?_
  refine G.region ?_
  refine G.q (Quiet.move rfl) rfl ?_
  refine G.q (Quiet.int rfl rfl rfl) rfl ?_
  refine G.nil ?_
  refine G.then_n ?_
  refine G.condD rfl (fun h6 => ?_) (fun h6 => ?_)
  · refine G.region ?_
    refine G.q (Quiet.move rfl) rfl ?_
    refine G.q (Quiet.add rfl rfl (by omega)) rfl ?_
    refine G.q (Quiet.neg rfl (by omega)) rfl ?_
    refine G.q (Quiet.assign rfl) rfl ?_
    refine G.nil ?_
    refine G.then_n ?_
    refine G.seq ?_
    refine G.region ?_
    refine G.q (Quiet.move rfl) rfl ?_
    refine G.q (Quiet.move rfl) rfl ?_
    refine G.q (Quiet.remE rfl rfl (by omega) (by omega)) rfl ?_
    refine G.q (Quiet.assign rfl) rfl ?_
    refine G.nil ?_
    refine G.then_n ?_
    refine G.ret ?_
    have e : pickZ c n = (-(c + 1)) % n := by unfold pickZ; rw [if_pos h6]
    rw [e]
    exact G.done (l := [.tmp 4]) rfl rfl ⟨rfl, rfl⟩ (by (repeat (first | exact Picks.nil | (apply Picks.cons; (repeat (first | exact Pick.here | apply Pick.there)))))) (by (repeat (first | exact Suff.here | apply Suff.there)))
  · refine G.skip ?_
    refine G.then_n ?_
    refine G.seq ?_
    refine G.region ?_
    refine G.q (Quiet.move rfl) rfl ?_
    refine G.q (Quiet.move rfl) rfl ?_
    refine G.q (Quiet.remE rfl rfl (by omega) (by omega)) rfl ?_
    refine G.q (Quiet.assign rfl) rfl ?_
    refine G.nil ?_
    refine G.then_n ?_
    refine G.ret ?_
    have e : pickZ c n = (c) % n := by unfold pickZ; rw [if_neg h6]
    rw [e]
    exact G.done (l := [.tmp 4]) rfl rfl ⟨rfl, rfl⟩ (by (repeat (first | exact Picks.nil | (apply Picks.cons; (repeat (first | exact Pick.here | apply Pick.there)))))) (by (repeat (first | exact Suff.here | apply Suff.there)))

set_option maxRecDepth 100000 in
theorem same10_spec  (va vb : Value) (a b : List Int) (p q : HP) (hp : ∀ h : Hp, p h → rdS 1 h va a.length (ints a)) (hq : ∀ h : Hp, q h → rdS 1 h vb b.length (ints b)) (hl : a.length ≤ 4611686018427387904) : Fn Try.prog 44 #[va, vb] [p, q] fun v L => v = .bool (decide (a = b)) ∧ L = [p, q] := by
  refine Fn.intro (vs := [va, vb]) Try.func44 rfl rfl ?_
  intro F W
  refine G.rdAny (p := p) hp (by (repeat (first | exact Pick.here | apply Pick.there))) fun aa ca e _ => ?_
  subst e
  refine G.rdAny (p := q) hq (by (repeat (first | exact Pick.here | apply Pick.there))) fun ab cb e _ => ?_
  subst e
  refine G.seq ?_
  refine G.region ?_
  refine G.q (Quiet.assign rfl) rfl ?_
  refine G.nil ?_
  refine G.then_n ?_
  refine G.seq ?_
  refine G.seq ?_
  refine G.region ?_
  refine G.q (Quiet.move rfl) rfl ?_
  refine G.q (Quiet.slen rfl Try.underlying40 rfl) rfl ?_
  refine G.q (Quiet.move rfl) rfl ?_
  refine G.q (Quiet.slen rfl Try.underlying40 rfl) rfl ?_
  refine G.q (Quiet.int rfl rfl rfl) rfl ?_
  refine G.nil ?_
  refine G.then_n ?_
  refine G.condN rfl (fun h10 => ?_) (fun h10 => ?_)
  · refine G.seq ?_
    refine G.region ?_
    refine G.q (Quiet.assign rfl) rfl ?_
    refine G.nil ?_
    refine G.then_n ?_
    refine G.ret ?_
    refine G.then_r ?_
    exact G.done (l := [.tmp 4]) rfl rfl ⟨by rw [decide_eq_false]; intro h; rw [h] at h10; exact h10 rfl, rfl⟩ (by (repeat (first | exact Picks.nil | (apply Picks.cons; (repeat (first | exact Pick.here | apply Pick.there)))))) (by (repeat (first | exact Suff.here | apply Suff.there)))
  · have hlen : a.length = b.length := by omega
    refine G.skip ?_
    refine G.then_n ?_
    refine G.seq ?_
    refine G.seq ?_
    refine G.region ?_
    refine G.q (Quiet.assign rfl) rfl ?_
    refine G.nil ?_
    refine G.then_n ?_
    refine G.block ?_
    refine G.loop (F := F) (ι := Nat) (fun i => [(0, .slice aa a.length ca), (1, .slice ab b.length cb), (5, vint i)]) (fun _ => [p, q]) (fun i => i ≤ a.length ∧ a.take i = b.take i) (fun i => a.length - i) 0 ⟨Nat.zero_le _, rfl⟩ ⟨rfl, rfl, rfl, trivial⟩ (by (repeat (first | exact Picks.nil | (apply Picks.cons; (repeat (first | exact Pick.here | apply Pick.there)))))) (by (repeat (first | exact Suff.here | apply Suff.there))) ?_
    rintro i ⟨hi, ht⟩
    refine G.seq ?_
    refine G.seq ?_
    refine G.region ?_
    refine G.q (Quiet.move rfl) rfl ?_
    refine G.q (Quiet.move rfl) rfl ?_
    refine G.q (Quiet.slen rfl Try.underlying40 rfl) rfl ?_
    refine G.q (Quiet.int rfl rfl rfl) rfl ?_
    refine G.nil ?_
    refine G.then_n ?_
    refine G.condD rfl (fun h14 => ?_) (fun h14 => ?_)
    · have hi2 : i < a.length := by omega
      have hi3 : i < b.length := by omega
      refine G.rdShape (p := p) hp (by (repeat (first | exact Pick.here | apply Pick.there))) (by omega) fun ba oa e => ?_
      subst e
      refine G.rdShape (p := q) hq (by (repeat (first | exact Pick.here | apply Pick.there))) (by omega) fun bb ob e => ?_
      subst e
      refine G.skip ?_
      refine G.then_n ?_
      refine G.seq ?_
      refine G.block ?_
      refine G.seq ?_
      refine G.draw [] [[0, 1, 2, 3, 4, 5, 6, 7, 8]] mixed (by kernel_rfl) ?_
      refine Phases.go [] (by (repeat (first | exact Picks.nil | (apply Picks.cons; (repeat (first | exact Pick.here | apply Pick.there)))))) ?_
      refine D.qw [2, 3, 8] rfl (by kernel_rfl) (Quiet.move rfl) ?_
      refine D.qw [2, 3, 8] rfl (by kernel_rfl) (Quiet.move rfl) ?_
      refine D.qw [3, 8] rfl (by kernel_rfl) (Quiet.indexAddr rfl rfl el_40 (by omega)) ?_
      refine D.qw [8] rfl (by kernel_rfl) (Quiet.loadEl (p := p) (i := i * 1) (v := vint a[i]) rfl ag_3 (by (repeat (first | exact Pick.here | apply Pick.there))) hp (by simp [hi2])) ?_
      refine D.qw [6, 7, 8] rfl (by kernel_rfl) (Quiet.move rfl) ?_
      refine D.qw [6, 7, 8] rfl (by kernel_rfl) (Quiet.move rfl) ?_
      refine D.qw [7, 8] rfl (by kernel_rfl) (Quiet.indexAddr rfl rfl el_40 (by omega)) ?_
      refine D.qw [8] rfl (by kernel_rfl) (Quiet.loadEl (p := q) (i := i * 1) (v := vint b[i]) rfl ag_3 (by (repeat (first | exact Pick.here | apply Pick.there))) hq (by simp [hi3])) ?_
      refine D.qw [] rfl (by kernel_rfl) (Quiet.int rfl rfl rfl) ?_
      refine D.ph ?_
      refine Phases.fin ?_
      refine G.then_n ?_
      refine G.condN rfl (fun h25 => ?_) (fun h25 => ?_)
      · refine G.seq ?_
        refine G.region ?_
        refine G.q (Quiet.assign rfl) rfl ?_
        refine G.nil ?_
        refine G.then_n ?_
        refine G.ret ?_
        refine G.blk_r ?_
        refine G.then_r ?_
        refine G.then_r ?_
        refine G.blk_r ?_
        refine G.then_r ?_
        exact G.done (l := [.tmp 4]) rfl rfl ⟨by rw [decide_eq_false]; intro h; apply h25; congr 1, rfl⟩ (by (repeat (first | exact Picks.nil | (apply Picks.cons; (repeat (first | exact Pick.here | apply Pick.there)))))) (by (repeat (first | exact Suff.here | apply Suff.there)))
      · refine G.skip ?_
        refine G.blk_n ?_
        refine G.then_n ?_
        refine G.region ?_
        refine G.q (Quiet.move rfl) rfl ?_
        refine G.q (Quiet.add rfl rfl (by omega)) rfl ?_
        refine G.q (Quiet.assign rfl) rfl ?_
        refine G.nil ?_
        refine G.then_n ?_
        refine G.round (i + 1) ⟨by omega, take_same hi2 hi3 ht (by simpa using h25)⟩ (by omega) ⟨rfl, rfl, rfl, trivial⟩ (by (repeat (first | exact Picks.nil | (apply Picks.cons; (repeat (first | exact Pick.here | apply Pick.there)))))) (by (repeat (first | exact Suff.here | apply Suff.there)))
    · refine G.exit ?_
      refine G.then_e ?_
      refine G.then_e ?_
      refine G.blk_e ?_
      refine G.then_n ?_
      refine G.seq ?_
      refine G.region ?_
      refine G.q (Quiet.assign rfl) rfl ?_
      refine G.nil ?_
      refine G.then_n ?_
      refine G.ret ?_
      exact G.done (l := [.tmp 4]) rfl rfl ⟨by rw [decide_eq_true]; have hi2 : i = a.length := (by omega); rw [hi2, List.take_length, hlen, List.take_length] at ht; exact ht, rfl⟩ (by (repeat (first | exact Picks.nil | (apply Picks.cons; (repeat (first | exact Pick.here | apply Pick.there)))))) (by (repeat (first | exact Suff.here | apply Suff.there)))

set_option maxRecDepth 100000 in
theorem awake10_spec : Fn Try.prog 32 #[] [] fun v L => v = .bool true ∧ L = [] := by
  refine Fn.intro (vs := []) Try.func32 rfl rfl ?_
  intro F W
  refine G.seq ?_
  refine G.region ?_
  refine G.q (Quiet.assign rfl) rfl ?_
  refine G.nil ?_
  refine G.then_n ?_
  refine G.seq ?_
  refine G.region ?_
  refine G.op (OpSpec.call Try.func33 rfl rfl (vs := []) rfl (tnew_spec)) (by (repeat (first | exact Picks.nil | (apply Picks.cons; (repeat (first | exact Pick.here | apply Pick.there)))))) rfl ?nx2
  rintro v L' ⟨t, rfl, rfl⟩
  refine G.q (Quiet.assign rfl) rfl ?_
  refine G.nil ?_
  refine G.then_n ?_
  refine G.seq ?_
  refine G.seq ?_
  refine G.region ?_
  refine G.q (Quiet.move rfl) rfl ?_
  refine G.q (Quiet.ptreq rfl rfl Try.underlying59) rfl ?_
  refine G.nil ?_
  refine G.then_n ?_
  refine G.condF rfl ?_
  refine G.skip ?_
  refine G.then_n ?_
  refine G.seq ?_
  refine G.region ?_
  refine G.q (Quiet.move rfl) rfl ?_
  refine G.op (OpSpec.call Try.func37 rfl rfl (vs := [_, _, _, _]) rfl (topen_spec t [] 7 10 0 (by decide))) (by (repeat (first | exact Picks.nil | (apply Picks.cons; (repeat (first | exact Pick.here | apply Pick.there)))))) rfl ?nx5
  rintro v L' ⟨rfl, rfl⟩; rw [aw10_open]
  refine G.q (Quiet.assign rfl) rfl ?_
  refine G.nil ?_
  refine G.then_n ?_
  refine G.seq ?_
  refine G.region ?_
  refine G.q (Quiet.move rfl) rfl ?_
  refine G.op (OpSpec.call Try.func38 rfl rfl (vs := [_, _]) rfl (tdead_spec t aw10 7)) (by (repeat (first | exact Picks.nil | (apply Picks.cons; (repeat (first | exact Pick.here | apply Pick.there)))))) rfl ?nx7
  rintro v L' ⟨rfl, rfl⟩; rw [aw10_dead]
  refine G.q (Quiet.move rfl) rfl ?_
  refine G.q (Quiet.extract rfl rfl) rfl ?_
  refine G.q (Quiet.extract rfl rfl) rfl ?_
  refine G.q (Quiet.assign rfl) rfl ?_
  refine G.q (Quiet.assign rfl) rfl ?_
  refine G.nil ?_
  refine G.then_n ?_
  refine G.seq ?_
  refine G.region ?_
  refine G.q (Quiet.move rfl) rfl ?_
  refine G.q (Quiet.int rfl rfl rfl) rfl ?_
  refine G.q (Quiet.move rfl) rfl ?_
  refine G.grun (t := 17) rfl rfl rfl ?_
  refine G.q (Quiet.move rfl) rfl ?_
  refine G.grun (t := 17) rfl rfl rfl ?_
  refine G.q (Quiet.int rfl rfl rfl) rfl ?_
  refine G.q (Quiet.pickT rfl rfl) rfl ?_
  refine G.q (Quiet.move rfl) rfl ?_
  refine G.grun (t := 21) rfl rfl rfl ?_
  refine G.q (Quiet.move rfl) rfl ?_
  refine G.grun (t := 21) rfl rfl rfl ?_
  refine G.q (Quiet.int rfl rfl rfl) rfl ?_
  refine G.q (Quiet.pickT rfl rfl) rfl ?_
  refine G.q (Quiet.move rfl) rfl ?_
  refine G.grun (t := 25) rfl rfl rfl ?_
  refine G.q (Quiet.move rfl) rfl ?_
  refine G.grun (t := 25) rfl rfl rfl ?_
  refine G.op (OpSpec.call Try.func42 rfl rfl (vs := [_, _]) rfl (texp_spec t aw10 12)) (by (repeat (first | exact Picks.nil | (apply Picks.cons; (repeat (first | exact Pick.here | apply Pick.there)))))) rfl ?nx14
  rintro v L' ⟨⟨a1, c1, rfl⟩, rfl⟩; rw [aw10_exp]
  refine G.grun (t := 25) rfl rfl rfl ?_
  refine G.op (OpSpec.buildSlice1 (vs := [_]) el_40 ze_3 rfl rfl rfl rfl rfl (by decide)) (by (repeat (first | exact Picks.nil | (apply Picks.cons; (repeat (first | exact Pick.here | apply Pick.there)))))) rfl ?nx16
  rintro v L' ⟨bs, rfl, rfl⟩
  refine G.grun (t := 25) rfl rfl rfl ?_
  refine G.op (OpSpec.call Try.func44 rfl rfl (vs := [_, _]) rfl (same10_spec _ _ [7] [7] (intR (.slice a1 ([7] : List Int).length c1) [7]) (ptc bs [vint 7] 3) (fun h hp => slR_rd hp) (fun h hp => rdS_pt (off := 0) (l := [vint 7]) hp rfl (by decide) (by decide)) (by decide))) (by (repeat (first | exact Picks.nil | (apply Picks.cons; (repeat (first | exact Pick.here | apply Pick.there)))))) rfl ?nx18
  rintro v L' ⟨rfl, rfl⟩; rw [decide_eq_true rfl]
  refine G.q (Quiet.pickT rfl rfl) rfl ?_
  refine G.q (Quiet.move rfl) rfl ?_
  refine G.grun (t := 31) rfl rfl rfl ?_
  refine G.q (Quiet.move rfl) rfl ?_
  refine G.grun (t := 31) rfl rfl rfl ?_
  refine G.op (OpSpec.call Try.func42 rfl rfl (vs := [_, _]) rfl (texp_spec t aw10 11)) (by (repeat (first | exact Picks.nil | (apply Picks.cons; (repeat (first | exact Pick.here | apply Pick.there)))))) rfl ?nx20
  rintro v L' ⟨⟨a2, c2, rfl⟩, rfl⟩; rw [aw10_exp2]
  refine G.grun (t := 31) rfl rfl rfl ?_
  refine G.q (Quiet.slen rfl Try.underlying40 rfl) rfl ?_
  refine G.grun (t := 31) rfl rfl rfl ?_
  refine G.q (Quiet.as (v' := .bool true) (by rfl) (Quiet.int rfl rfl rfl)) rfl ?_
  refine G.q (Quiet.pickT rfl rfl) rfl ?_
  refine G.q (Quiet.move rfl) rfl ?_
  refine G.grun (t := 37) rfl rfl rfl ?_
  refine G.q (Quiet.move rfl) rfl ?_
  refine G.grun (t := 37) rfl rfl rfl ?_
  refine G.op (OpSpec.call Try.func35 rfl rfl (vs := [_, _, _]) rfl (ttouch_spec t aw10 8 0)) (by (repeat (first | exact Picks.nil | (apply Picks.cons; (repeat (first | exact Pick.here | apply Pick.there)))))) rfl ?nx24
  rintro v L' ⟨rfl, rfl⟩; rw [aw10_touch]
  refine G.grun (t := 37) rfl rfl rfl ?_
  refine G.q (Quiet.int rfl rfl rfl) rfl ?_
  refine G.q (Quiet.pickT rfl rfl) rfl ?_
  refine G.q (Quiet.assign rfl) rfl ?_
  refine G.nil ?_
  refine G.then_n ?_
  refine G.ret ?_
  exact G.done (l := [.tmp 0]) rfl rfl ⟨rfl, rfl⟩ (by (repeat (first | exact Picks.nil | (apply Picks.cons; (repeat (first | exact Pick.here | apply Pick.there)))))) (by (repeat (first | exact Suff.here | apply Suff.there)))

set_option maxRecDepth 100000 in
theorem do10_spec (t r : Nat) (σ : Ses) (x : StepZ) (hx : x.fit) : Fn Try.prog 40 #[vptr t, vptr r, .agg (stepC x).toArray] [tkR t σ, trR r σ] fun v L => v = .bool true ∧ L = [tkR t (sStep σ x), trR r (sStep σ x)] := by
  refine Fn.intro (vs := [vptr t, vptr r, .agg (stepC x).toArray]) Try.func40 rfl rfl ?_
  intro F W
  have hid := hx.2.1.2
  refine G.seq ?_
  refine G.region ?_
  refine G.op (OpSpec.box rfl) (by (repeat (first | exact Picks.nil | (apply Picks.cons; (repeat (first | exact Pick.here | apply Pick.there)))))) rfl ?nx1
  rintro v L' ⟨b5, rfl, rfl⟩
  refine G.q (Quiet.assign rfl) rfl ?_
  refine G.nil ?_
  refine G.then_n ?_
  refine G.seq ?_
  refine G.seq ?_
  refine G.region ?_
  refine G.q (Quiet.fieldAddr rfl fo_62_0) rfl ?_
  refine G.q (Quiet.load rfl ag_3 (by (repeat (first | exact Pick.here | apply Pick.there))) (rfl)) rfl ?_
  refine G.op (OpSpec.call Try.func34 rfl rfl (vs := [_, _]) rfl (pick10_spec x.what 5 hx.1 (by decide))) (by (repeat (first | exact Picks.nil | (apply Picks.cons; (repeat (first | exact Pick.here | apply Pick.there)))))) rfl ?nx6
  rintro v L' ⟨rfl, rfl⟩
  refine G.nil ?_
  refine G.then_n ?_
  refine G.block ?_
  refine G.seq ?_
  refine G.seq ?_
  refine G.region ?_
  refine G.q (Quiet.int rfl rfl rfl) rfl ?_
  refine G.q (Quiet.assign rfl) rfl ?_
  refine G.nil ?_
  refine G.then_n ?_
  refine G.dec (t := 10) rfl (fun h10 => ?_) (fun h10 => ?_)
  · refine G.condT rfl ?_
    refine G.skip ?_
    refine G.then_n ?_
    refine G.condT rfl ?_
    refine G.seq ?_
    refine G.draw [5, 11] [[0, 1, 2, 3, 4, 6, 7, 8, 9, 10, 5, 11, 12], [13]] mixed (by kernel_rfl) ?_
    refine Phases.go [ptc b5 _ _] (by (repeat (first | exact Picks.nil | (apply Picks.cons; (repeat (first | exact Pick.here | apply Pick.there)))))) ?_
    refine D.qw [5, 11, 12] rfl (by kernel_rfl) (Quiet.move rfl) ?_
    refine D.qw [2, 5, 11, 12] rfl (by kernel_rfl) (Quiet.fieldAddr rfl fo_62_1) ?_
    refine D.qw [5, 11, 12] rfl (by kernel_rfl) (Quiet.load rfl ag_3 (by (repeat (first | exact Pick.here | apply Pick.there))) (rfl)) ?_
    refine D.qw [4, 5, 11, 12] rfl (by kernel_rfl) (Quiet.fieldAddr rfl fo_62_3) ?_
    refine D.qw [5, 11, 12] rfl (by kernel_rfl) (Quiet.load rfl ag_3 (by (repeat (first | exact Pick.here | apply Pick.there))) (rfl)) ?_
    refine D.q rfl (by kernel_rfl) (Quiet.move rfl) ?_
    refine D.q rfl (by kernel_rfl) (Quiet.fieldAddr rfl fo_62_1) ?_
    refine D.q rfl (by kernel_rfl) (Quiet.load rfl ag_3 (by (repeat (first | exact Pick.here | apply Pick.there))) (rfl)) ?_
    refine D.q rfl (by kernel_rfl) (Quiet.fieldAddr rfl fo_62_3) ?_
    refine D.q rfl (by kernel_rfl) (Quiet.load rfl ag_3 (by (repeat (first | exact Pick.here | apply Pick.there))) (rfl)) ?_
    refine D.h rfl (by kernel_rfl) (OpSpec.call Try.func35 rfl rfl (vs := [_, _, _]) rfl (ttouch_spec t σ x.id x.now)) (by (repeat (first | exact Picks.nil | (apply Picks.cons; (repeat (first | exact Pick.here | apply Pick.there)))))) ?nx19
    rintro v L' ⟨rfl, rfl⟩
    refine D.h rfl (by kernel_rfl) (OpSpec.call Try.func94 rfl rfl (vs := [_, _, _]) rfl (rtouch_spec r σ x.id x.now)) (by (repeat (first | exact Picks.nil | (apply Picks.cons; (repeat (first | exact Pick.here | apply Pick.there)))))) ?nx21
    rintro v L' ⟨rfl, rfl⟩
    refine D.qw [] rfl (by kernel_rfl) (Quiet.as (v' := .bool true) (by simp) (Quiet.int rfl rfl rfl)) ?_
    refine D.ph ?_
    refine Phases.go [] (by (repeat (first | exact Picks.nil | (apply Picks.cons; (repeat (first | exact Pick.here | apply Pick.there)))))) ?_
    refine D.qw [] rfl (by kernel_rfl) (Quiet.assign rfl) ?_
    refine D.ph ?_
    refine Phases.fin ?_
    refine G.then_n ?_
    refine G.ret ?_
    refine G.blk_r ?_
    refine G.then_r ?_
    have e : sStep σ x = (sTouch σ x.id x.now).1 := by unfold sStep; rw [if_pos (.inl h10)]
    rw [e]
    exact G.done (l := [.tmp 6]) rfl rfl ⟨rfl, rfl⟩ (by (repeat (first | exact Picks.nil | (apply Picks.cons; (repeat (first | exact Pick.here | apply Pick.there)))))) (by (repeat (first | exact Suff.here | apply Suff.there)))
  · refine G.condF rfl ?_
    have hn2 := h10
    refine G.region ?_
    refine G.q (Quiet.int rfl rfl rfl) rfl ?_
    refine G.q (Quiet.assign rfl) rfl ?_
    refine G.nil ?_
    refine G.then_n ?_
    refine G.dec (t := 10) rfl (fun h10 => ?_) (fun h10 => ?_)
    · refine G.condT rfl ?_
      refine G.seq ?_
      refine G.draw [5, 11] [[0, 1, 2, 3, 4, 6, 7, 8, 9, 10, 5, 11, 12], [13]] mixed (by kernel_rfl) ?_
      refine Phases.go [ptc b5 _ _] (by (repeat (first | exact Picks.nil | (apply Picks.cons; (repeat (first | exact Pick.here | apply Pick.there)))))) ?_
      refine D.qw [5, 11, 12] rfl (by kernel_rfl) (Quiet.move rfl) ?_
      refine D.qw [2, 5, 11, 12] rfl (by kernel_rfl) (Quiet.fieldAddr rfl fo_62_1) ?_
      refine D.qw [5, 11, 12] rfl (by kernel_rfl) (Quiet.load rfl ag_3 (by (repeat (first | exact Pick.here | apply Pick.there))) (rfl)) ?_
      refine D.qw [4, 5, 11, 12] rfl (by kernel_rfl) (Quiet.fieldAddr rfl fo_62_3) ?_
      refine D.qw [5, 11, 12] rfl (by kernel_rfl) (Quiet.load rfl ag_3 (by (repeat (first | exact Pick.here | apply Pick.there))) (rfl)) ?_
      refine D.q rfl (by kernel_rfl) (Quiet.move rfl) ?_
      refine D.q rfl (by kernel_rfl) (Quiet.fieldAddr rfl fo_62_1) ?_
      refine D.q rfl (by kernel_rfl) (Quiet.load rfl ag_3 (by (repeat (first | exact Pick.here | apply Pick.there))) (rfl)) ?_
      refine D.q rfl (by kernel_rfl) (Quiet.fieldAddr rfl fo_62_3) ?_
      refine D.q rfl (by kernel_rfl) (Quiet.load rfl ag_3 (by (repeat (first | exact Pick.here | apply Pick.there))) (rfl)) ?_
      refine D.h rfl (by kernel_rfl) (OpSpec.call Try.func35 rfl rfl (vs := [_, _, _]) rfl (ttouch_spec t σ x.id x.now)) (by (repeat (first | exact Picks.nil | (apply Picks.cons; (repeat (first | exact Pick.here | apply Pick.there)))))) ?nx35
      rintro v L' ⟨rfl, rfl⟩
      refine D.h rfl (by kernel_rfl) (OpSpec.call Try.func94 rfl rfl (vs := [_, _, _]) rfl (rtouch_spec r σ x.id x.now)) (by (repeat (first | exact Picks.nil | (apply Picks.cons; (repeat (first | exact Pick.here | apply Pick.there)))))) ?nx37
      rintro v L' ⟨rfl, rfl⟩
      refine D.qw [] rfl (by kernel_rfl) (Quiet.as (v' := .bool true) (by simp) (Quiet.int rfl rfl rfl)) ?_
      refine D.ph ?_
      refine Phases.go [] (by (repeat (first | exact Picks.nil | (apply Picks.cons; (repeat (first | exact Pick.here | apply Pick.there)))))) ?_
      refine D.qw [] rfl (by kernel_rfl) (Quiet.assign rfl) ?_
      refine D.ph ?_
      refine Phases.fin ?_
      refine G.then_n ?_
      refine G.ret ?_
      refine G.blk_r ?_
      refine G.then_r ?_
      have e : sStep σ x = (sTouch σ x.id x.now).1 := by unfold sStep; rw [if_pos (.inr h10)]
      rw [e]
      exact G.done (l := [.tmp 6]) rfl rfl ⟨rfl, rfl⟩ (by (repeat (first | exact Picks.nil | (apply Picks.cons; (repeat (first | exact Pick.here | apply Pick.there)))))) (by (repeat (first | exact Suff.here | apply Suff.there)))
    · refine G.condF rfl ?_
      refine G.seq ?_
      refine G.region ?_
      refine G.q (Quiet.int rfl rfl rfl) rfl ?_
      refine G.q (Quiet.assign rfl) rfl ?_
      refine G.nil ?_
      refine G.then_n ?_
      refine G.condD rfl (fun h26 => ?_) (fun h26 => ?_)
      · refine G.seq ?_
        refine G.draw [3, 7] [[0, 1, 2, 4, 5, 6, 3, 7, 8], [9]] mixed (by kernel_rfl) ?_
        refine Phases.go [ptc b5 _ _] (by (repeat (first | exact Picks.nil | (apply Picks.cons; (repeat (first | exact Pick.here | apply Pick.there)))))) ?_
        refine D.qw [3, 7, 8] rfl (by kernel_rfl) (Quiet.move rfl) ?_
        refine D.qw [2, 3, 7, 8] rfl (by kernel_rfl) (Quiet.fieldAddr rfl fo_62_1) ?_
        refine D.qw [3, 7, 8] rfl (by kernel_rfl) (Quiet.load rfl ag_3 (by (repeat (first | exact Pick.here | apply Pick.there))) (rfl)) ?_
        refine D.q rfl (by kernel_rfl) (Quiet.move rfl) ?_
        refine D.q rfl (by kernel_rfl) (Quiet.fieldAddr rfl fo_62_1) ?_
        refine D.q rfl (by kernel_rfl) (Quiet.load rfl ag_3 (by (repeat (first | exact Pick.here | apply Pick.there))) (rfl)) ?_
        refine D.h rfl (by kernel_rfl) (OpSpec.call Try.func36 rfl rfl (vs := [_, _]) rfl (tclose_spec t σ x.id)) (by (repeat (first | exact Picks.nil | (apply Picks.cons; (repeat (first | exact Pick.here | apply Pick.there)))))) ?nx47
        rintro v L' ⟨rfl, rfl⟩
        refine D.h rfl (by kernel_rfl) (OpSpec.call Try.func95 rfl rfl (vs := [_, _]) rfl (rclose_spec r σ x.id)) (by (repeat (first | exact Picks.nil | (apply Picks.cons; (repeat (first | exact Pick.here | apply Pick.there)))))) ?nx49
        rintro v L' ⟨rfl, rfl⟩
        refine D.qw [] rfl (by kernel_rfl) (Quiet.as (v' := .bool true) (by simp) (Quiet.int rfl rfl rfl)) ?_
        refine D.ph ?_
        refine Phases.go [] (by (repeat (first | exact Picks.nil | (apply Picks.cons; (repeat (first | exact Pick.here | apply Pick.there)))))) ?_
        refine D.qw [] rfl (by kernel_rfl) (Quiet.assign rfl) ?_
        refine D.ph ?_
        refine Phases.fin ?_
        refine G.then_n ?_
        refine G.ret ?_
        refine G.blk_r ?_
        refine G.then_r ?_
        have e : sStep σ x = (sClose σ x.id).1 := by unfold sStep; rw [if_neg (by rintro (h | h) <;> omega), if_pos h26]
        rw [e]
        exact G.done (l := [.tmp 6]) rfl rfl ⟨rfl, rfl⟩ (by (repeat (first | exact Picks.nil | (apply Picks.cons; (repeat (first | exact Pick.here | apply Pick.there)))))) (by (repeat (first | exact Suff.here | apply Suff.there)))
      · refine G.skip ?_
        refine G.blk_n ?_
        refine G.then_n ?_
        refine G.seq ?_
        refine G.draw [7, 15] [[0, 1, 2, 3, 4, 5, 6, 8, 9, 10, 11, 12, 13, 14, 7, 15, 16], [17]] mixed (by kernel_rfl) ?_
        refine Phases.go [ptc b5 _ _] (by (repeat (first | exact Picks.nil | (apply Picks.cons; (repeat (first | exact Pick.here | apply Pick.there)))))) ?_
        refine D.qw [7, 15, 16] rfl (by kernel_rfl) (Quiet.move rfl) ?_
        refine D.qw [2, 7, 15, 16] rfl (by kernel_rfl) (Quiet.fieldAddr rfl fo_62_1) ?_
        refine D.qw [7, 15, 16] rfl (by kernel_rfl) (Quiet.load rfl ag_3 (by (repeat (first | exact Pick.here | apply Pick.there))) (rfl)) ?_
        refine D.qw [4, 7, 15, 16] rfl (by kernel_rfl) (Quiet.fieldAddr rfl fo_62_2) ?_
        refine D.qw [7, 15, 16] rfl (by kernel_rfl) (Quiet.load rfl ag_3 (by (repeat (first | exact Pick.here | apply Pick.there))) (rfl)) ?_
        refine D.qw [6, 7, 15, 16] rfl (by kernel_rfl) (Quiet.fieldAddr rfl fo_62_3) ?_
        refine D.qw [7, 15, 16] rfl (by kernel_rfl) (Quiet.load rfl ag_3 (by (repeat (first | exact Pick.here | apply Pick.there))) (rfl)) ?_
        refine D.q rfl (by kernel_rfl) (Quiet.move rfl) ?_
        refine D.q rfl (by kernel_rfl) (Quiet.fieldAddr rfl fo_62_1) ?_
        refine D.q rfl (by kernel_rfl) (Quiet.load rfl ag_3 (by (repeat (first | exact Pick.here | apply Pick.there))) (rfl)) ?_
        refine D.q rfl (by kernel_rfl) (Quiet.fieldAddr rfl fo_62_2) ?_
        refine D.q rfl (by kernel_rfl) (Quiet.load rfl ag_3 (by (repeat (first | exact Pick.here | apply Pick.there))) (rfl)) ?_
        refine D.q rfl (by kernel_rfl) (Quiet.fieldAddr rfl fo_62_3) ?_
        refine D.q rfl (by kernel_rfl) (Quiet.load rfl ag_3 (by (repeat (first | exact Pick.here | apply Pick.there))) (rfl)) ?_
        refine D.h rfl (by kernel_rfl) (OpSpec.call Try.func37 rfl rfl (vs := [_, _, _, _]) rfl (topen_spec t σ x.id x.to x.now hid)) (by (repeat (first | exact Picks.nil | (apply Picks.cons; (repeat (first | exact Pick.here | apply Pick.there)))))) ?nx66
        rintro v L' ⟨rfl, rfl⟩
        refine D.h rfl (by kernel_rfl) (OpSpec.call Try.func96 rfl rfl (vs := [_, _, _, _]) rfl (ropen_spec r σ x.id x.to x.now hid)) (by (repeat (first | exact Picks.nil | (apply Picks.cons; (repeat (first | exact Pick.here | apply Pick.there)))))) ?nx68
        rintro v L' ⟨rfl, rfl⟩
        refine D.qw [] rfl (by kernel_rfl) (Quiet.as (v' := .bool true) (by simp) (Quiet.int rfl rfl rfl)) ?_
        refine D.ph ?_
        refine Phases.go [] (by (repeat (first | exact Picks.nil | (apply Picks.cons; (repeat (first | exact Pick.here | apply Pick.there)))))) ?_
        refine D.qw [] rfl (by kernel_rfl) (Quiet.assign rfl) ?_
        refine D.ph ?_
        refine Phases.fin ?_
        refine G.then_n ?_
        refine G.ret ?_
        have e : sStep σ x = (sOpen σ x.id x.to x.now).1 := by unfold sStep; rw [if_neg (by rintro (h | h) <;> omega), if_neg h26]
        rw [e]
        exact G.done (l := [.tmp 6]) rfl rfl ⟨rfl, rfl⟩ (by (repeat (first | exact Picks.nil | (apply Picks.cons; (repeat (first | exact Pick.here | apply Pick.there)))))) (by (repeat (first | exact Suff.here | apply Suff.there)))

set_option maxRecDepth 100000 in
theorem splays_spec (v0 : Value) (xs : List StepZ) (p : HP) (hops : StepsRd p v0 xs) : Fn Try.prog 7 #[v0] [p] fun v L => v = .bool true ∧ L = [p] := by
  refine Fn.intro (vs := [v0]) Try.func7 rfl rfl ?_
  intro F W
  have hcells := hops.cells
  have hopl := hops.len
  refine G.rdAny (p := p) hcells (by (repeat (first | exact Pick.here | apply Pick.there))) fun a0 c0 e _ => ?_
  subst e
  refine G.seq ?_
  refine G.region ?_
  refine G.q (Quiet.assign rfl) rfl ?_
  refine G.nil ?_
  refine G.then_n ?_
  refine G.seq ?_
  refine G.region ?_
  refine G.op (OpSpec.call Try.func32 rfl rfl (vs := []) rfl (awake10_spec)) (by (repeat (first | exact Picks.nil | (apply Picks.cons; (repeat (first | exact Pick.here | apply Pick.there)))))) rfl ?nx2
  rintro v L' ⟨rfl, rfl⟩
  refine G.q (Quiet.assign rfl) rfl ?_
  refine G.nil ?_
  refine G.then_n ?_
  refine G.seq ?_
  refine G.region ?_
  refine G.op (OpSpec.call Try.func33 rfl rfl (vs := []) rfl (tnew_spec)) (by (repeat (first | exact Picks.nil | (apply Picks.cons; (repeat (first | exact Pick.here | apply Pick.there)))))) rfl ?nx4
  rintro v L' ⟨t0, rfl, rfl⟩
  refine G.op (OpSpec.call Try.func33 rfl rfl (vs := []) rfl (tnew_spec)) (by (repeat (first | exact Picks.nil | (apply Picks.cons; (repeat (first | exact Pick.here | apply Pick.there)))))) rfl ?nx6
  rintro v L' ⟨t1, rfl, rfl⟩
  refine G.op (OpSpec.buildSlice1 (vs := [_, _]) el_69 ze_59 rfl rfl rfl rfl rfl (by decide)) (by (repeat (first | exact Picks.nil | (apply Picks.cons; (repeat (first | exact Pick.here | apply Pick.there)))))) rfl ?nx8
  rintro v L' ⟨bt, rfl, rfl⟩
  refine G.q (Quiet.assign rfl) rfl ?_
  refine G.nil ?_
  refine G.then_n ?_
  refine G.seq ?_
  refine G.region ?_
  refine G.op (OpSpec.call Try.func39 rfl rfl (vs := []) rfl (rtnew_spec)) (by (repeat (first | exact Picks.nil | (apply Picks.cons; (repeat (first | exact Pick.here | apply Pick.there)))))) rfl ?nx10
  rintro v L' ⟨r0, rfl, rfl⟩
  refine G.op (OpSpec.call Try.func39 rfl rfl (vs := []) rfl (rtnew_spec)) (by (repeat (first | exact Picks.nil | (apply Picks.cons; (repeat (first | exact Pick.here | apply Pick.there)))))) rfl ?nx12
  rintro v L' ⟨r1, rfl, rfl⟩
  refine G.op (OpSpec.buildSlice1 (vs := [_, _]) el_72 ze_70 rfl rfl rfl rfl rfl (by decide)) (by (repeat (first | exact Picks.nil | (apply Picks.cons; (repeat (first | exact Pick.here | apply Pick.there)))))) rfl ?nx14
  rintro v L' ⟨br, rfl, rfl⟩
  refine G.q (Quiet.assign rfl) rfl ?_
  refine G.nil ?_
  refine G.then_n ?_
  refine G.seq ?_
  refine G.seq ?_
  refine G.region ?_
  refine G.q (Quiet.move rfl) rfl ?_
  refine G.q (Quiet.not rfl) rfl ?_
  refine G.q (Quiet.move rfl) rfl ?_
  refine G.grun (t := 27) rfl rfl rfl ?_
  refine G.q (Quiet.move rfl) rfl ?_
  refine G.grun (t := 27) rfl rfl rfl ?_
  refine G.q (Quiet.indexAddr rfl rfl el_69 (by omega)) rfl ?_
  refine G.grun (t := 27) rfl rfl rfl ?_
  refine G.q (Quiet.load rfl ag_59 (by (repeat (first | exact Pick.here | apply Pick.there))) (rfl)) rfl ?_
  refine G.grun (t := 27) rfl rfl rfl ?_
  refine G.q (Quiet.ptreq rfl rfl Try.underlying59) rfl ?_
  refine G.q (Quiet.pickF rfl rfl) rfl ?_
  refine G.q (Quiet.move rfl) rfl ?_
  refine G.grun (t := 33) rfl rfl rfl ?_
  refine G.q (Quiet.move rfl) rfl ?_
  refine G.grun (t := 33) rfl rfl rfl ?_
  refine G.q (Quiet.indexAddr rfl rfl el_69 (by omega)) rfl ?_
  refine G.grun (t := 33) rfl rfl rfl ?_
  refine G.q (Quiet.load rfl ag_59 (by (repeat (first | exact Pick.here | apply Pick.there))) (rfl)) rfl ?_
  refine G.grun (t := 33) rfl rfl rfl ?_
  refine G.q (Quiet.ptreq rfl rfl Try.underlying59) rfl ?_
  refine G.q (Quiet.pickF rfl rfl) rfl ?_
  refine G.nil ?_
  refine G.then_n ?_
  refine G.condF rfl ?_
  refine G.skip ?_
  refine G.then_n ?_
  refine G.seq ?_
  refine G.seq ?_
  refine G.region ?_
  refine G.q (Quiet.assign rfl) rfl ?_
  refine G.nil ?_
  refine G.then_n ?_
  refine G.block ?_
  refine G.loopK (ι := Nat × Ses × Ses) (fun q E => (6, vint q.1) :: E) (fun q => [tkR t0 q.2.1, tkR t1 q.2.2, trR r0 q.2.1, trR r1 q.2.2]) (fun q => q.1 ≤ xs.length ∧ SOk q.2.1 ∧ SOk q.2.2) (fun q => xs.length - q.1) (0, [], []) (ts := [0, 4, 5]) (.cons rfl (.cons rfl (.cons rfl (.nil)))) (⟨Nat.zero_le _, SOk.nil, SOk.nil⟩) ⟨rfl, rfl, rfl, rfl, trivial⟩ (by (repeat (first | exact Picks.nil | (apply Picks.cons; (repeat (first | exact Pick.here | apply Pick.there)))))) ?_
  rintro ⟨i, σ0, σ1⟩ ⟨hi, h0, h1⟩
  dsimp only
  dsimp only at hi h0 h1
  refine G.seq ?_
  refine G.seq ?_
  refine G.region ?_
  refine G.q (Quiet.move rfl) rfl ?_
  refine G.q (Quiet.move rfl) rfl ?_
  refine G.q (Quiet.slen rfl Try.underlying58 rfl) rfl ?_
  refine G.q (Quiet.int rfl rfl rfl) rfl ?_
  refine G.nil ?_
  refine G.then_n ?_
  refine G.condD rfl (fun h42 => ?_) (fun h42 => ?_)
  · have hi2 : i < xs.length := by omega
    have hfit := hops.fit _ (List.getElem_mem hi2)
    refine G.rdShape (p := p) hcells (by (repeat (first | exact Pick.here | apply Pick.there))) (by omega) fun bh oh e => ?_
    subst e
    refine G.skip ?_
    refine G.then_n ?_
    refine G.seq ?_
    refine G.block ?_
    refine G.seq ?_
    refine G.region ?_
    refine G.q (Quiet.move rfl) rfl ?_
    refine G.q (Quiet.move rfl) rfl ?_
    refine G.q (Quiet.indexAddr rfl rfl el_58 (by omega)) rfl ?_
    refine G.q (Quiet.loadRdA (sz := 4) (j := i * 4) (vs := stepC xs[i]) (p := p) rfl ag_62 (by (repeat (first | exact Pick.here | apply Pick.there))) hcells rfl (by omega) (by omega) (stepsC_at hi2)) rfl ?_
    refine G.op (OpSpec.allocA ze_62) (by (repeat (first | exact Picks.nil | (apply Picks.cons; (repeat (first | exact Pick.here | apply Pick.there)))))) rfl ?nx32
    rintro v L' ⟨b7, rfl, rfl⟩
    refine G.op (OpSpec.storeA rfl rfl ?c34 sz_62 ?c37 ?c35 ?c36) (by (repeat (first | exact Picks.nil | (apply Picks.cons; (repeat (first | exact Pick.here | apply Pick.there)))))) rfl ?nx38
    case c34 => simp [stepC, isCell]
    case c37 => simp [stepC]
    case c35 => simp [stepC]
    case c36 => exact nfz0 _ _
    rintro v L' rfl
    refine G.nil ?_
    refine G.then_n ?_
    refine G.seq ?_
    refine G.region ?_
    refine G.q (Quiet.fieldAddr rfl fo_62_2) rfl ?_
    refine G.q (Quiet.load rfl ag_3 (by (repeat (first | exact Pick.here | apply Pick.there))) (rfl)) rfl ?_
    refine G.op (OpSpec.call Try.func34 rfl rfl (vs := [_, _]) rfl (pick10_spec xs[i].to 2 hfit.2.2.1 (by decide))) (by (repeat (first | exact Picks.nil | (apply Picks.cons; (repeat (first | exact Pick.here | apply Pick.there)))))) rfl ?nx41
    rintro v L' ⟨rfl, rfl⟩
    rcases (show pickZ xs[i].to 2 = 0 ∨ pickZ xs[i].to 2 = 1 by have := pickZ_range xs[i].to (n := 2) (by decide); omega) with hk | hk
    · rw [hk]
      have hs := h0.step xs[i] hfit.2.1.2
      have hs1 := sExp_len hs xs[i].now
      have hs2 := sAll_len hs
      refine G.q (Quiet.assign rfl) rfl ?_
      refine G.nil ?_
      refine G.then_n ?_
      refine G.seq ?_
      refine G.draw [9] [[0, 1, 2, 3, 4, 5, 6, 7, 8, 9], [10]] mixed (by kernel_rfl) ?_
      refine Phases.go [] (by (repeat (first | exact Picks.nil | (apply Picks.cons; (repeat (first | exact Pick.here | apply Pick.there)))))) ?_
      refine D.qw [2, 3, 9] rfl (by kernel_rfl) (Quiet.move rfl) ?_
      refine D.qw [2, 3, 9] rfl (by kernel_rfl) (Quiet.move rfl) ?_
      refine D.qw [3, 9] rfl (by kernel_rfl) (Quiet.indexAddr rfl rfl el_69 (by omega)) ?_
      refine D.qw [9] rfl (by kernel_rfl) (Quiet.load rfl ag_59 (by (repeat (first | exact Pick.here | apply Pick.there))) (rfl)) ?_
      refine D.qw [6, 7, 9] rfl (by kernel_rfl) (Quiet.move rfl) ?_
      refine D.qw [6, 7, 9] rfl (by kernel_rfl) (Quiet.move rfl) ?_
      refine D.qw [7, 9] rfl (by kernel_rfl) (Quiet.indexAddr rfl rfl el_72 (by omega)) ?_
      refine D.qw [9] rfl (by kernel_rfl) (Quiet.load rfl ag_70 (by (repeat (first | exact Pick.here | apply Pick.there))) (rfl)) ?_
      refine D.qw [9] rfl (by kernel_rfl) (Quiet.loadAs (vs := stepC xs[i]) rfl ag_62 (by (repeat (first | exact Pick.here | apply Pick.there))) (by simp [spl, stepC]) rfl) ?_
      refine D.h rfl (by kernel_rfl) (OpSpec.call Try.func40 rfl rfl (vs := [_, _, _]) rfl (do10_spec t0 r0 σ0 xs[i] hfit)) (by (repeat (first | exact Picks.nil | (apply Picks.cons; (repeat (first | exact Pick.here | apply Pick.there)))))) ?nx50
      rintro v L' ⟨rfl, rfl⟩
      refine D.ph ?_
      refine Phases.go [] (by (repeat (first | exact Picks.nil | (apply Picks.cons; (repeat (first | exact Pick.here | apply Pick.there)))))) ?_
      refine D.qw [] rfl (by kernel_rfl) (Quiet.assign rfl) ?_
      refine D.ph ?_
      refine Phases.fin ?_
      refine G.then_n ?_
      refine G.seq ?_
      refine G.draw [6] [[0, 1, 2, 3, 4, 5, 6, 7, 8, 9, 10], [11]] mixed (by kernel_rfl) ?_
      refine Phases.go [] (by (repeat (first | exact Picks.nil | (apply Picks.cons; (repeat (first | exact Pick.here | apply Pick.there)))))) ?_
      refine D.qw [2, 3, 6, 7, 8, 9, 10] rfl (by kernel_rfl) (Quiet.move rfl) ?_
      refine D.qw [2, 3, 6, 7, 8, 9, 10] rfl (by kernel_rfl) (Quiet.move rfl) ?_
      refine D.qw [3, 6, 7, 8, 9, 10] rfl (by kernel_rfl) (Quiet.indexAddr rfl rfl el_69 (by omega)) ?_
      refine D.qw [6, 7, 8, 9, 10] rfl (by kernel_rfl) (Quiet.load rfl ag_59 (by (repeat (first | exact Pick.here | apply Pick.there))) (rfl)) ?_
      refine D.qw [5, 6, 7, 8, 9, 10] rfl (by kernel_rfl) (Quiet.fieldAddr rfl fo_62_1) ?_
      refine D.qw [6, 7, 8, 9, 10] rfl (by kernel_rfl) (Quiet.load rfl ag_3 (by (repeat (first | exact Pick.here | apply Pick.there))) (rfl)) ?_
      refine D.h rfl (by kernel_rfl) (OpSpec.call Try.func38 rfl rfl (vs := [_, _]) rfl (tdead_spec t0 (sStep σ0 xs[i]) xs[i].id)) (by (repeat (first | exact Picks.nil | (apply Picks.cons; (repeat (first | exact Pick.here | apply Pick.there)))))) ?nx57
      rintro v L' ⟨rfl, rfl⟩
      refine D.qw [8, 9, 10] rfl (by kernel_rfl) (Quiet.move rfl) ?_
      refine D.qw [10] rfl (by kernel_rfl) (Quiet.extract rfl rfl) ?_
      refine D.qw [] rfl (by kernel_rfl) (Quiet.extract rfl rfl) ?_
      refine D.qw [] rfl (by kernel_rfl) (Quiet.assign rfl) ?_
      refine D.ph ?_
      refine Phases.go [] (by (repeat (first | exact Picks.nil | (apply Picks.cons; (repeat (first | exact Pick.here | apply Pick.there)))))) ?_
      refine D.qw [] rfl (by kernel_rfl) (Quiet.assign rfl) ?_
      refine D.ph ?_
      refine Phases.fin ?_
      refine G.then_n ?_
      refine G.seq ?_
      refine G.draw [6] [[0, 1, 2, 3, 4, 5, 6, 7, 8, 9, 10], [11]] mixed (by kernel_rfl) ?_
      refine Phases.go [] (by (repeat (first | exact Picks.nil | (apply Picks.cons; (repeat (first | exact Pick.here | apply Pick.there)))))) ?_
      refine D.qw [2, 3, 6, 7, 8, 9, 10] rfl (by kernel_rfl) (Quiet.move rfl) ?_
      refine D.qw [2, 3, 6, 7, 8, 9, 10] rfl (by kernel_rfl) (Quiet.move rfl) ?_
      refine D.qw [3, 6, 7, 8, 9, 10] rfl (by kernel_rfl) (Quiet.indexAddr rfl rfl el_72 (by omega)) ?_
      refine D.qw [6, 7, 8, 9, 10] rfl (by kernel_rfl) (Quiet.load rfl ag_70 (by (repeat (first | exact Pick.here | apply Pick.there))) (rfl)) ?_
      refine D.qw [5, 6, 7, 8, 9, 10] rfl (by kernel_rfl) (Quiet.fieldAddr rfl fo_62_1) ?_
      refine D.qw [6, 7, 8, 9, 10] rfl (by kernel_rfl) (Quiet.load rfl ag_3 (by (repeat (first | exact Pick.here | apply Pick.there))) (rfl)) ?_
      refine D.h rfl (by kernel_rfl) (OpSpec.call Try.func41 rfl rfl (vs := [_, _]) rfl (rdead_spec r0 (sStep σ0 xs[i]) xs[i].id)) (by (repeat (first | exact Picks.nil | (apply Picks.cons; (repeat (first | exact Pick.here | apply Pick.there)))))) ?nx66
      rintro v L' ⟨rfl, rfl⟩
      refine D.qw [8, 9, 10] rfl (by kernel_rfl) (Quiet.move rfl) ?_
      refine D.qw [10] rfl (by kernel_rfl) (Quiet.extract rfl rfl) ?_
      refine D.qw [] rfl (by kernel_rfl) (Quiet.extract rfl rfl) ?_
      refine D.qw [] rfl (by kernel_rfl) (Quiet.assign rfl) ?_
      refine D.ph ?_
      refine Phases.go [] (by (repeat (first | exact Picks.nil | (apply Picks.cons; (repeat (first | exact Pick.here | apply Pick.there)))))) ?_
      refine D.qw [] rfl (by kernel_rfl) (Quiet.assign rfl) ?_
      refine D.ph ?_
      refine Phases.fin ?_
      refine G.then_n ?_
      refine G.seq ?_
      refine G.draw [6] [[0, 1, 2, 3, 4, 5, 6], [7]] mixed (by kernel_rfl) ?_
      refine Phases.go [] (by (repeat (first | exact Picks.nil | (apply Picks.cons; (repeat (first | exact Pick.here | apply Pick.there)))))) ?_
      refine D.qw [2, 3, 6] rfl (by kernel_rfl) (Quiet.move rfl) ?_
      refine D.qw [2, 3, 6] rfl (by kernel_rfl) (Quiet.move rfl) ?_
      refine D.qw [3, 6] rfl (by kernel_rfl) (Quiet.indexAddr rfl rfl el_69 (by omega)) ?_
      refine D.qw [6] rfl (by kernel_rfl) (Quiet.load rfl ag_59 (by (repeat (first | exact Pick.here | apply Pick.there))) (rfl)) ?_
      refine D.qw [5, 6] rfl (by kernel_rfl) (Quiet.fieldAddr rfl fo_62_3) ?_
      refine D.qw [6] rfl (by kernel_rfl) (Quiet.load rfl ag_3 (by (repeat (first | exact Pick.here | apply Pick.there))) (rfl)) ?_
      refine D.h rfl (by kernel_rfl) (OpSpec.call Try.func42 rfl rfl (vs := [_, _]) rfl (texp_spec t0 (sStep σ0 xs[i]) xs[i].now)) (by (repeat (first | exact Picks.nil | (apply Picks.cons; (repeat (first | exact Pick.here | apply Pick.there)))))) ?nx75
      rintro v L' ⟨⟨ae, ce, rfl⟩, rfl⟩
      refine D.ph ?_
      refine Phases.go [] (by (repeat (first | exact Picks.nil | (apply Picks.cons; (repeat (first | exact Pick.here | apply Pick.there)))))) ?_
      refine D.qw [] rfl (by kernel_rfl) (Quiet.assign rfl) ?_
      refine D.ph ?_
      refine Phases.fin ?_
      refine G.then_n ?_
      refine G.seq ?_
      refine G.region ?_
      refine G.q (Quiet.move rfl) rfl ?_
      refine G.q (Quiet.move rfl) rfl ?_
      refine G.q (Quiet.indexAddr rfl rfl el_69 (by omega)) rfl ?_
      refine G.q (Quiet.load rfl ag_59 (by (repeat (first | exact Pick.here | apply Pick.there))) (rfl)) rfl ?_
      refine G.op (OpSpec.call Try.func43 rfl rfl (vs := [_]) rfl (tall_spec t0 (sStep σ0 xs[i]))) (by (repeat (first | exact Picks.nil | (apply Picks.cons; (repeat (first | exact Pick.here | apply Pick.there)))))) rfl ?nx80
      rintro v L' ⟨⟨aA, cA, rfl⟩, rfl⟩
      refine G.q (Quiet.assign rfl) rfl ?_
      refine G.nil ?_
      refine G.then_n ?_
      refine G.seq ?_
      refine G.seq ?_
      refine G.draw [20, 21, 30, 31] [[0, 1, 2, 3, 4, 5, 6, 7, 8, 9, 10, 11, 12, 13, 14, 15, 16, 17, 18, 19, 20, 21, 22, 23, 24, 25, 26, 27, 28, 29, 30, 31, 32, 33]] mixed (by kernel_rfl) ?_
      refine Phases.go [ptc bt _ _, ptc br _ _, ptc b7 _ _] (by (repeat (first | exact Picks.nil | (apply Picks.cons; (repeat (first | exact Pick.here | apply Pick.there)))))) ?_
      refine D.qw [1, 2, 3, 4, 5, 6, 7, 8, 9, 10, 11, 12, 13, 14, 15, 16, 17, 18, 19, 20, 21, 22, 23, 24, 25, 26, 27, 28, 29, 30, 31, 32, 33] rfl (by kernel_rfl) (Quiet.move rfl) ?_
      refine D.qw [2, 3, 4, 5, 6, 7, 8, 9, 10, 11, 12, 13, 14, 15, 16, 17, 18, 19, 20, 21, 22, 23, 24, 25, 26, 27, 28, 29, 30, 31, 32, 33] rfl (by kernel_rfl) (Quiet.not rfl) ?_
      refine D.qw [3, 4, 5, 6, 7, 8, 9, 10, 11, 12, 13, 14, 15, 16, 17, 18, 19, 20, 21, 22, 23, 24, 25, 26, 27, 28, 29, 30, 31, 32, 33] rfl (by kernel_rfl) (Quiet.move rfl) ?_
      refine D.gqw [5, 6, 7, 8, 9, 10, 11, 12, 13, 14, 15, 16, 17, 18, 19, 20, 21, 22, 23, 24, 25, 26, 27, 28, 29, 30, 31, 32, 33] (t := 96) rfl rfl rfl (by kernel_rfl) (Quiet.move rfl) ?_
      refine D.gqw [5, 6, 7, 8, 9, 10, 11, 12, 13, 14, 15, 16, 17, 18, 19, 20, 21, 22, 23, 24, 25, 26, 27, 28, 29, 30, 31, 32, 33] (t := 96) rfl rfl rfl (by kernel_rfl) (Quiet.move rfl) ?_
      refine D.gqw [6, 7, 8, 9, 10, 11, 12, 13, 14, 15, 16, 17, 18, 19, 20, 21, 22, 23, 24, 25, 26, 27, 28, 29, 30, 31, 32, 33] (t := 96) rfl rfl rfl (by kernel_rfl) (Quiet.as (v' := .bool false) (by simp) (Quiet.int rfl rfl rfl)) ?_
      refine D.qw [7, 8, 9, 10, 11, 12, 13, 14, 15, 16, 17, 18, 19, 20, 21, 22, 23, 24, 25, 26, 27, 28, 29, 30, 31, 32, 33] rfl (by kernel_rfl) (Quiet.pickF rfl rfl) ?_
      refine D.qw [8, 9, 10, 11, 12, 13, 14, 15, 16, 17, 18, 19, 20, 21, 22, 23, 24, 25, 26, 27, 28, 29, 30, 31, 32, 33] rfl (by kernel_rfl) (Quiet.move rfl) ?_
      refine D.gqw [10, 11, 12, 13, 14, 15, 16, 17, 18, 19, 20, 21, 22, 23, 24, 25, 26, 27, 28, 29, 30, 31, 32, 33] (t := 101) rfl rfl rfl (by kernel_rfl) (Quiet.move rfl) ?_
      refine D.gqw [10, 11, 12, 13, 14, 15, 16, 17, 18, 19, 20, 21, 22, 23, 24, 25, 26, 27, 28, 29, 30, 31, 32, 33] (t := 101) rfl rfl rfl (by kernel_rfl) (Quiet.move rfl) ?_
      refine D.gqw [11, 12, 13, 14, 15, 16, 17, 18, 19, 20, 21, 22, 23, 24, 25, 26, 27, 28, 29, 30, 31, 32, 33] (t := 101) rfl rfl rfl (by kernel_rfl) (Quiet.as (v' := .bool false) (by simp) (Quiet.int rfl rfl rfl)) ?_
      refine D.qw [12, 13, 14, 15, 16, 17, 18, 19, 20, 21, 22, 23, 24, 25, 26, 27, 28, 29, 30, 31, 32, 33] rfl (by kernel_rfl) (Quiet.pickF rfl rfl) ?_
      refine D.qw [13, 14, 15, 16, 17, 18, 19, 20, 21, 22, 23, 24, 25, 26, 27, 28, 29, 30, 31, 32, 33] rfl (by kernel_rfl) (Quiet.move rfl) ?_
      refine D.gq (t := 106) rfl rfl rfl (by kernel_rfl) (Quiet.move rfl) ?_
      refine D.gqw [16, 17, 20, 21, 22, 23, 24, 25, 26, 27, 28, 29, 30, 31, 32, 33] (t := 106) rfl rfl rfl (by kernel_rfl) (Quiet.move rfl) ?_
      refine D.gqw [16, 17, 20, 21, 22, 23, 24, 25, 26, 27, 28, 29, 30, 31, 32, 33] (t := 106) rfl rfl rfl (by kernel_rfl) (Quiet.move rfl) ?_
      refine D.gqw [17, 20, 21, 22, 23, 24, 25, 26, 27, 28, 29, 30, 31, 32, 33] (t := 106) rfl rfl rfl (by kernel_rfl) (Quiet.indexAddr rfl rfl el_72 (by omega)) ?_
      refine D.gqw [20, 21, 22, 23, 24, 25, 26, 27, 28, 29, 30, 31, 32, 33] (t := 106) rfl rfl rfl (by kernel_rfl) (Quiet.load rfl ag_70 (by (repeat (first | exact Pick.here | apply Pick.there))) (rfl)) ?_
      refine D.gqw [19, 20, 21, 22, 23, 24, 25, 26, 27, 28, 29, 30, 31, 32, 33] (t := 106) rfl rfl rfl (by kernel_rfl) (Quiet.fieldAddr rfl fo_62_3) ?_
      refine D.gqw [20, 21, 22, 23, 24, 25, 26, 27, 28, 29, 30, 31, 32, 33] (t := 106) rfl rfl rfl (by kernel_rfl) (Quiet.load rfl ag_3 (by (repeat (first | exact Pick.here | apply Pick.there))) (rfl)) ?_
      refine D.gh (t := 106) rfl rfl rfl (by kernel_rfl) (OpSpec.call Try.func45 rfl rfl (vs := [_, _]) rfl (rexp_spec r0 (sStep σ0 xs[i]) xs[i].now)) (by (repeat (first | exact Picks.nil | (apply Picks.cons; (repeat (first | exact Pick.here | apply Pick.there)))))) ?nx90
      rintro v L' ⟨⟨af, cf, rfl⟩, rfl⟩
      refine D.gh (t := 106) rfl rfl rfl (by kernel_rfl) (OpSpec.call Try.func44 rfl rfl (vs := [_, _]) rfl (same10_spec _ _ (sExp (sStep σ0 xs[i]) xs[i].now) (sExp (sStep σ0 xs[i]) xs[i].now) (intR (.slice ae (sExp (sStep σ0 xs[i]) xs[i].now).length ce) (sExp (sStep σ0 xs[i]) xs[i].now)) (intR (.slice af (sExp (sStep σ0 xs[i]) xs[i].now).length cf) (sExp (sStep σ0 xs[i]) xs[i].now)) (fun h hp => slR_rd hp) (fun h hp => slR_rd hp) (by omega))) (by (repeat (first | exact Picks.nil | (apply Picks.cons; (repeat (first | exact Pick.here | apply Pick.there)))))) ?nx92
      rintro v L' ⟨rfl, rfl⟩; rw [decide_eq_true rfl]
      refine D.gqw [23, 24, 25, 26, 27, 28, 29, 30, 31, 32, 33] (t := 106) rfl rfl rfl (by kernel_rfl) (Quiet.not rfl) ?_
      refine D.qw [24, 25, 26, 27, 28, 29, 30, 31, 32, 33] rfl (by kernel_rfl) (Quiet.pickF rfl rfl) ?_
      refine D.qw [25, 26, 27, 28, 29, 30, 31, 32, 33] rfl (by kernel_rfl) (Quiet.move rfl) ?_
      refine D.gq (t := 118) rfl rfl rfl (by kernel_rfl) (Quiet.move rfl) ?_
      refine D.gqw [28, 29, 30, 31, 32, 33] (t := 118) rfl rfl rfl (by kernel_rfl) (Quiet.move rfl) ?_
      refine D.gqw [28, 29, 30, 31, 32, 33] (t := 118) rfl rfl rfl (by kernel_rfl) (Quiet.move rfl) ?_
      refine D.gqw [29, 30, 31, 32, 33] (t := 118) rfl rfl rfl (by kernel_rfl) (Quiet.indexAddr rfl rfl el_72 (by omega)) ?_
      refine D.gqw [30, 31, 32, 33] (t := 118) rfl rfl rfl (by kernel_rfl) (Quiet.load rfl ag_70 (by (repeat (first | exact Pick.here | apply Pick.there))) (rfl)) ?_
      refine D.gh (t := 118) rfl rfl rfl (by kernel_rfl) (OpSpec.call Try.func46 rfl rfl (vs := [_]) rfl (rall_spec r0 (sStep σ0 xs[i]))) (by (repeat (first | exact Picks.nil | (apply Picks.cons; (repeat (first | exact Pick.here | apply Pick.there)))))) ?nx98
      rintro v L' ⟨⟨ag, cg, rfl⟩, rfl⟩
      refine D.gh (t := 118) rfl rfl rfl (by kernel_rfl) (OpSpec.call Try.func44 rfl rfl (vs := [_, _]) rfl (same10_spec _ _ (sAll (sStep σ0 xs[i])) (sAll (sStep σ0 xs[i])) (intR (.slice aA (sAll (sStep σ0 xs[i])).length cA) (sAll (sStep σ0 xs[i]))) (intR (.slice ag (sAll (sStep σ0 xs[i])).length cg) (sAll (sStep σ0 xs[i]))) (fun h hp => slR_rd hp) (fun h hp => slR_rd hp) (by omega))) (by (repeat (first | exact Picks.nil | (apply Picks.cons; (repeat (first | exact Pick.here | apply Pick.there)))))) ?nx100
      rintro v L' ⟨rfl, rfl⟩; rw [decide_eq_true rfl]
      refine D.gqw [33] (t := 118) rfl rfl rfl (by kernel_rfl) (Quiet.not rfl) ?_
      refine D.qw [] rfl (by kernel_rfl) (Quiet.pickF rfl rfl) ?_
      refine D.ph ?_
      refine Phases.fin ?_
      refine G.then_n ?_
      refine G.condF rfl ?_
      refine G.skip ?_
      refine G.then_n ?_
      refine G.seq ?_
      refine G.seq ?_
      refine G.region ?_
      refine G.q (Quiet.assign rfl) rfl ?_
      refine G.nil ?_
      refine G.then_n ?_
      refine G.block ?_
      refine G.loopK (ι := Nat × (List Value)) (fun q E => (16, vint q.1) :: E) (fun q => [slR 3 1 (.slice aA (sAll (sStep σ0 xs[i])).length cA) (sAll (sStep σ0 xs[i])).length q.2]) (fun q => q.1 ≤ (sAll (sStep σ0 xs[i])).length) (fun q => (sAll (sStep σ0 xs[i])).length - q.1) (0, ints (sAll (sStep σ0 xs[i]))) (ts := [0, 4, 5, 6, 7, 8, 9, 10, 11, 12, 13, 14, 15, 39, 40, 41, 42, 45, 46, 47, 48, 49, 50, 51, 52, 53, 54, 55, 56, 57, 58, 59, 60, 61, 62, 63, 64, 65, 66, 67, 68, 69, 70, 71, 72, 73, 74, 75, 76, 77, 78, 79, 80, 81, 82, 83, 84, 85, 86, 87, 88, 89, 90, 91, 92, 93, 94, 95, 96, 97, 98, 99, 100, 101, 102, 103, 104, 105, 106, 107, 108, 109, 110, 111, 112, 113, 114, 115, 116, 117, 118, 119, 120, 121, 122, 123, 124, 125, 126, 127]) (.cons rfl (.cons rfl (.cons rfl (.cons rfl (.cons rfl (.cons rfl (.cons rfl (.cons rfl (.cons rfl (.cons rfl (.cons rfl (.cons rfl (.cons rfl (.cons rfl (.cons rfl (.cons rfl (.cons rfl (.cons rfl (.cons rfl (.cons rfl (.cons rfl (.cons rfl (.cons rfl (.cons rfl (.cons rfl (.cons rfl (.cons rfl (.cons rfl (.cons rfl (.cons rfl (.cons rfl (.cons rfl (.cons rfl (.cons rfl (.cons rfl (.cons rfl (.cons rfl (.cons rfl (.cons rfl (.cons rfl (.cons rfl (.cons rfl (.cons rfl (.cons rfl (.cons rfl (.cons rfl (.cons rfl (.cons rfl (.cons rfl (.cons rfl (.cons rfl (.cons rfl (.cons rfl (.cons rfl (.cons rfl (.cons rfl (.cons rfl (.cons rfl (.cons rfl (.cons rfl (.cons rfl (.cons rfl (.cons rfl (.cons rfl (.cons rfl (.cons rfl (.cons rfl (.cons rfl (.cons rfl (.cons rfl (.cons rfl (.cons rfl (.cons rfl (.cons rfl (.cons rfl (.cons rfl (.cons rfl (.cons rfl (.cons rfl (.cons rfl (.cons rfl (.cons rfl (.cons rfl (.cons rfl (.cons rfl (.cons rfl (.cons rfl (.cons rfl (.cons rfl (.cons rfl (.cons rfl (.cons rfl (.cons rfl (.cons rfl (.cons rfl (.cons rfl (.cons rfl (.cons rfl (.cons rfl (.cons rfl (.nil))))))))))))))))))))))))))))))))))))))))))))))))))))))))))))))))))))))))))))))))))))))))))))))))))))) (Nat.zero_le _) ⟨rfl, rfl, rfl, rfl, rfl, rfl, rfl, rfl, rfl, rfl, rfl, rfl, rfl, rfl, rfl, rfl, rfl, rfl, rfl, rfl, rfl, rfl, rfl, rfl, rfl, rfl, rfl, rfl, rfl, rfl, rfl, rfl, rfl, rfl, rfl, rfl, rfl, rfl, rfl, rfl, rfl, rfl, rfl, rfl, rfl, rfl, rfl, rfl, rfl, rfl, rfl, rfl, rfl, rfl, rfl, rfl, rfl, rfl, rfl, rfl, rfl, rfl, rfl, rfl, rfl, rfl, rfl, rfl, rfl, rfl, rfl, rfl, rfl, rfl, rfl, rfl, rfl, rfl, rfl, rfl, rfl, rfl, rfl, rfl, rfl, rfl, rfl, rfl, rfl, rfl, rfl, rfl, rfl, rfl, rfl, rfl, rfl, rfl, rfl, rfl, rfl, trivial⟩ (by (repeat (first | exact Picks.nil | (apply Picks.cons; (repeat (first | exact Pick.here | apply Pick.there)))))) ?_
      rintro ⟨j, ys⟩ hj
      dsimp only
      dsimp only at hj
      refine G.seq ?_
      refine G.seq ?_
      refine G.region ?_
      refine G.q (Quiet.move rfl) rfl ?_
      refine G.q (Quiet.move rfl) rfl ?_
      refine G.q (Quiet.slen rfl Try.underlying40 rfl) rfl ?_
      refine G.q (Quiet.int rfl rfl rfl) rfl ?_
      refine G.nil ?_
      refine G.then_n ?_
      refine G.condD rfl (fun h131 => ?_) (fun h131 => ?_)
      · have hj2 : j < (sAll (sStep σ0 xs[i])).length := by omega
        refine G.slShape (v := .slice aA _ cA) (by (repeat (first | exact Pick.here | apply Pick.there))) (by omega) fun bl cl' e ml _ => ?_
        simp only [Value.slice.injEq, true_and] at e
        obtain ⟨rfl, rfl⟩ := e
        refine G.skip ?_
        refine G.then_n ?_
        refine G.seq ?_
        refine G.block ?_
        refine G.region ?_
        refine G.q (Quiet.move rfl) rfl ?_
        refine G.q (Quiet.move rfl) rfl ?_
        refine G.q (Quiet.indexAddr rfl rfl el_40 (by omega)) rfl ?_
        refine G.op (OpSpec.storeEl (i := j * 1) rfl rfl rfl sz_3 ?hi111) (by (repeat (first | exact Picks.nil | (apply Picks.cons; (repeat (first | exact Pick.here | apply Pick.there)))))) rfl ?nx112
        case hi111 => omega
        rintro v L' rfl
        refine G.nil ?_
        refine G.blk_n ?_
        refine G.then_n ?_
        refine G.region ?_
        refine G.q (Quiet.move rfl) rfl ?_
        refine G.q (Quiet.add rfl rfl (by omega)) rfl ?_
        refine G.q (Quiet.assign rfl) rfl ?_
        refine G.nil ?_
        refine G.then_n ?_
        exact G.roundK ((j + 1, ys.set (j * 1) (vint (-9)))) (by dsimp only; omega) (by dsimp only; omega) ⟨rfl, rfl, rfl, rfl, rfl, rfl, rfl, rfl, rfl, rfl, rfl, rfl, rfl, rfl, rfl, rfl, rfl, rfl, rfl, rfl, rfl, rfl, rfl, rfl, rfl, rfl, rfl, rfl, rfl, rfl, rfl, rfl, rfl, rfl, rfl, rfl, rfl, rfl, rfl, rfl, rfl, rfl, rfl, rfl, rfl, rfl, rfl, rfl, rfl, rfl, rfl, rfl, rfl, rfl, rfl, rfl, rfl, rfl, rfl, rfl, rfl, rfl, rfl, rfl, rfl, rfl, rfl, rfl, rfl, rfl, rfl, rfl, rfl, rfl, rfl, rfl, rfl, rfl, rfl, rfl, rfl, rfl, rfl, rfl, rfl, rfl, rfl, rfl, rfl, rfl, rfl, rfl, rfl, rfl, rfl, rfl, rfl, rfl, rfl, rfl, rfl, trivial⟩ (by (repeat (first | exact Picks.nil | (apply Picks.cons; (repeat (first | exact Pick.here | apply Pick.there)))))) (by ((repeat (apply Have.cons; (repeat (first | exact Pick.here | apply Pick.there)))); apply Have.base; repeat (first | exact Suff.here | apply Suff.there)))
      · refine G.exit ?_
        refine G.then_e ?_
        refine G.then_e ?_
        refine G.blk_e ?_
        refine G.then_n ?_
        refine G.seq ?_
        refine G.region ?_
        refine G.q (Quiet.assign rfl) rfl ?_
        refine G.nil ?_
        refine G.then_n ?_
        refine G.block ?_
        refine G.loopK (ι := Nat × (List Value)) (fun q E => (17, vint q.1) :: E) (fun q => [slR 3 1 (.slice ae (sExp (sStep σ0 xs[i]) xs[i].now).length ce) (sExp (sStep σ0 xs[i]) xs[i].now).length q.2]) (fun q => q.1 ≤ (sExp (sStep σ0 xs[i]) xs[i].now).length) (fun q => (sExp (sStep σ0 xs[i]) xs[i].now).length - q.1) (0, ints (sExp (sStep σ0 xs[i]) xs[i].now)) (ts := [0, 4, 5, 6, 7, 8, 9, 10, 11, 12, 13, 14, 15, 16, 39, 40, 41, 42, 45, 46, 47, 48, 49, 50, 51, 52, 53, 54, 55, 56, 57, 58, 59, 60, 61, 62, 63, 64, 65, 66, 67, 68, 69, 70, 71, 72, 73, 74, 75, 76, 77, 78, 79, 80, 81, 82, 83, 84, 85, 86, 87, 88, 89, 90, 91, 92, 93, 94, 95, 96, 97, 98, 99, 100, 101, 102, 103, 104, 105, 106, 107, 108, 109, 110, 111, 112, 113, 114, 115, 116, 117, 118, 119, 120, 121, 122, 123, 124, 125, 126, 127, 128, 129, 130, 131]) (.cons rfl (.cons rfl (.cons rfl (.cons rfl (.cons rfl (.cons rfl (.cons rfl (.cons rfl (.cons rfl (.cons rfl (.cons rfl (.cons rfl (.cons rfl (.cons rfl (.cons rfl (.cons rfl (.cons rfl (.cons rfl (.cons rfl (.cons rfl (.cons rfl (.cons rfl (.cons rfl (.cons rfl (.cons rfl (.cons rfl (.cons rfl (.cons rfl (.cons rfl (.cons rfl (.cons rfl (.cons rfl (.cons rfl (.cons rfl (.cons rfl (.cons rfl (.cons rfl (.cons rfl (.cons rfl (.cons rfl (.cons rfl (.cons rfl (.cons rfl (.cons rfl (.cons rfl (.cons rfl (.cons rfl (.cons rfl (.cons rfl (.cons rfl (.cons rfl (.cons rfl (.cons rfl (.cons rfl (.cons rfl (.cons rfl (.cons rfl (.cons rfl (.cons rfl (.cons rfl (.cons rfl (.cons rfl (.cons rfl (.cons rfl (.cons rfl (.cons rfl (.cons rfl (.cons rfl (.cons rfl (.cons rfl (.cons rfl (.cons rfl (.cons rfl (.cons rfl (.cons rfl (.cons rfl (.cons rfl (.cons rfl (.cons rfl (.cons rfl (.cons rfl (.cons rfl (.cons rfl (.cons rfl (.cons rfl (.cons rfl (.cons rfl (.cons rfl (.cons rfl (.cons rfl (.cons rfl (.cons rfl (.cons rfl (.cons rfl (.cons rfl (.cons rfl (.cons rfl (.cons rfl (.cons rfl (.cons rfl (.cons rfl (.cons rfl (.cons rfl (.cons rfl (.cons rfl (.nil)))))))))))))))))))))))))))))))))))))))))))))))))))))))))))))))))))))))))))))))))))))))))))))))))))))))))) (Nat.zero_le _) ⟨rfl, rfl, rfl, rfl, rfl, rfl, rfl, rfl, rfl, rfl, rfl, rfl, rfl, rfl, rfl, rfl, rfl, rfl, rfl, rfl, rfl, rfl, rfl, rfl, rfl, rfl, rfl, rfl, rfl, rfl, rfl, rfl, rfl, rfl, rfl, rfl, rfl, rfl, rfl, rfl, rfl, rfl, rfl, rfl, rfl, rfl, rfl, rfl, rfl, rfl, rfl, rfl, rfl, rfl, rfl, rfl, rfl, rfl, rfl, rfl, rfl, rfl, rfl, rfl, rfl, rfl, rfl, rfl, rfl, rfl, rfl, rfl, rfl, rfl, rfl, rfl, rfl, rfl, rfl, rfl, rfl, rfl, rfl, rfl, rfl, rfl, rfl, rfl, rfl, rfl, rfl, rfl, rfl, rfl, rfl, rfl, rfl, rfl, rfl, rfl, rfl, rfl, rfl, rfl, rfl, rfl, trivial⟩ (by (repeat (first | exact Picks.nil | (apply Picks.cons; (repeat (first | exact Pick.here | apply Pick.there)))))) ?_
        rintro ⟨j, ys⟩ hj
        dsimp only
        dsimp only at hj
        refine G.seq ?_
        refine G.seq ?_
        refine G.region ?_
        refine G.q (Quiet.move rfl) rfl ?_
        refine G.q (Quiet.move rfl) rfl ?_
        refine G.q (Quiet.slen rfl Try.underlying40 rfl) rfl ?_
        refine G.q (Quiet.int rfl rfl rfl) rfl ?_
        refine G.nil ?_
        refine G.then_n ?_
        refine G.condD rfl (fun h140 => ?_) (fun h140 => ?_)
        · have hj2 : j < (sExp (sStep σ0 xs[i]) xs[i].now).length := by omega
          refine G.slShape (v := .slice ae _ ce) (by (repeat (first | exact Pick.here | apply Pick.there))) (by omega) fun bl cl' e ml _ => ?_
          simp only [Value.slice.injEq, true_and] at e
          obtain ⟨rfl, rfl⟩ := e
          refine G.skip ?_
          refine G.then_n ?_
          refine G.seq ?_
          refine G.block ?_
          refine G.region ?_
          refine G.q (Quiet.move rfl) rfl ?_
          refine G.q (Quiet.move rfl) rfl ?_
          refine G.q (Quiet.indexAddr rfl rfl el_40 (by omega)) rfl ?_
          refine G.op (OpSpec.storeEl (i := j * 1) rfl rfl rfl sz_3 ?hi123) (by (repeat (first | exact Picks.nil | (apply Picks.cons; (repeat (first | exact Pick.here | apply Pick.there)))))) rfl ?nx124
          case hi123 => omega
          rintro v L' rfl
          refine G.nil ?_
          refine G.blk_n ?_
          refine G.then_n ?_
          refine G.region ?_
          refine G.q (Quiet.move rfl) rfl ?_
          refine G.q (Quiet.add rfl rfl (by omega)) rfl ?_
          refine G.q (Quiet.assign rfl) rfl ?_
          refine G.nil ?_
          refine G.then_n ?_
          exact G.roundK ((j + 1, ys.set (j * 1) (vint (-9)))) (by dsimp only; omega) (by dsimp only; omega) ⟨rfl, rfl, rfl, rfl, rfl, rfl, rfl, rfl, rfl, rfl, rfl, rfl, rfl, rfl, rfl, rfl, rfl, rfl, rfl, rfl, rfl, rfl, rfl, rfl, rfl, rfl, rfl, rfl, rfl, rfl, rfl, rfl, rfl, rfl, rfl, rfl, rfl, rfl, rfl, rfl, rfl, rfl, rfl, rfl, rfl, rfl, rfl, rfl, rfl, rfl, rfl, rfl, rfl, rfl, rfl, rfl, rfl, rfl, rfl, rfl, rfl, rfl, rfl, rfl, rfl, rfl, rfl, rfl, rfl, rfl, rfl, rfl, rfl, rfl, rfl, rfl, rfl, rfl, rfl, rfl, rfl, rfl, rfl, rfl, rfl, rfl, rfl, rfl, rfl, rfl, rfl, rfl, rfl, rfl, rfl, rfl, rfl, rfl, rfl, rfl, rfl, rfl, rfl, rfl, rfl, rfl, trivial⟩ (by (repeat (first | exact Picks.nil | (apply Picks.cons; (repeat (first | exact Pick.here | apply Pick.there)))))) (by ((repeat (apply Have.cons; (repeat (first | exact Pick.here | apply Pick.there)))); apply Have.base; repeat (first | exact Suff.here | apply Suff.there)))
        · refine G.exit ?_
          refine G.then_e ?_
          refine G.then_e ?_
          refine G.blk_e ?_
          refine G.blk_n ?_
          refine G.then_n ?_
          refine G.region ?_
          refine G.q (Quiet.move rfl) rfl ?_
          refine G.q (Quiet.add rfl rfl (by omega)) rfl ?_
          refine G.q (Quiet.assign rfl) rfl ?_
          refine G.nil ?_
          refine G.then_n ?_
          exact G.roundK ((i + 1, sStep σ0 xs[i], σ1)) (⟨by dsimp only; omega, hs, h1⟩) (by dsimp only; omega) ⟨rfl, rfl, rfl, rfl, trivial⟩ (by (repeat (first | exact Picks.nil | (apply Picks.cons; (repeat (first | exact Pick.here | apply Pick.there)))))) (by ((repeat (apply Have.cons; (repeat (first | exact Pick.here | apply Pick.there)))); apply Have.base; repeat (first | exact Suff.here | apply Suff.there)))
    · rw [hk]
      have hs := h1.step xs[i] hfit.2.1.2
      have hs1 := sExp_len hs xs[i].now
      have hs2 := sAll_len hs
      refine G.q (Quiet.assign rfl) rfl ?_
      refine G.nil ?_
      refine G.then_n ?_
      refine G.seq ?_
      refine G.draw [9] [[0, 1, 2, 3, 4, 5, 6, 7, 8, 9], [10]] mixed (by kernel_rfl) ?_
      refine Phases.go [] (by (repeat (first | exact Picks.nil | (apply Picks.cons; (repeat (first | exact Pick.here | apply Pick.there)))))) ?_
      refine D.qw [2, 3, 9] rfl (by kernel_rfl) (Quiet.move rfl) ?_
      refine D.qw [2, 3, 9] rfl (by kernel_rfl) (Quiet.move rfl) ?_
      refine D.qw [3, 9] rfl (by kernel_rfl) (Quiet.indexAddr rfl rfl el_69 (by omega)) ?_
      refine D.qw [9] rfl (by kernel_rfl) (Quiet.load rfl ag_59 (by (repeat (first | exact Pick.here | apply Pick.there))) (rfl)) ?_
      refine D.qw [6, 7, 9] rfl (by kernel_rfl) (Quiet.move rfl) ?_
      refine D.qw [6, 7, 9] rfl (by kernel_rfl) (Quiet.move rfl) ?_
      refine D.qw [7, 9] rfl (by kernel_rfl) (Quiet.indexAddr rfl rfl el_72 (by omega)) ?_
      refine D.qw [9] rfl (by kernel_rfl) (Quiet.load rfl ag_70 (by (repeat (first | exact Pick.here | apply Pick.there))) (rfl)) ?_
      refine D.qw [9] rfl (by kernel_rfl) (Quiet.loadAs (vs := stepC xs[i]) rfl ag_62 (by (repeat (first | exact Pick.here | apply Pick.there))) (by simp [spl, stepC]) rfl) ?_
      refine D.h rfl (by kernel_rfl) (OpSpec.call Try.func40 rfl rfl (vs := [_, _, _]) rfl (do10_spec t1 r1 σ1 xs[i] hfit)) (by (repeat (first | exact Picks.nil | (apply Picks.cons; (repeat (first | exact Pick.here | apply Pick.there)))))) ?nx136
      rintro v L' ⟨rfl, rfl⟩
      refine D.ph ?_
      refine Phases.go [] (by (repeat (first | exact Picks.nil | (apply Picks.cons; (repeat (first | exact Pick.here | apply Pick.there)))))) ?_
      refine D.qw [] rfl (by kernel_rfl) (Quiet.assign rfl) ?_
      refine D.ph ?_
      refine Phases.fin ?_
      refine G.then_n ?_
      refine G.seq ?_
      refine G.draw [6] [[0, 1, 2, 3, 4, 5, 6, 7, 8, 9, 10], [11]] mixed (by kernel_rfl) ?_
      refine Phases.go [] (by (repeat (first | exact Picks.nil | (apply Picks.cons; (repeat (first | exact Pick.here | apply Pick.there)))))) ?_
      refine D.qw [2, 3, 6, 7, 8, 9, 10] rfl (by kernel_rfl) (Quiet.move rfl) ?_
      refine D.qw [2, 3, 6, 7, 8, 9, 10] rfl (by kernel_rfl) (Quiet.move rfl) ?_
      refine D.qw [3, 6, 7, 8, 9, 10] rfl (by kernel_rfl) (Quiet.indexAddr rfl rfl el_69 (by omega)) ?_
      refine D.qw [6, 7, 8, 9, 10] rfl (by kernel_rfl) (Quiet.load rfl ag_59 (by (repeat (first | exact Pick.here | apply Pick.there))) (rfl)) ?_
      refine D.qw [5, 6, 7, 8, 9, 10] rfl (by kernel_rfl) (Quiet.fieldAddr rfl fo_62_1) ?_
      refine D.qw [6, 7, 8, 9, 10] rfl (by kernel_rfl) (Quiet.load rfl ag_3 (by (repeat (first | exact Pick.here | apply Pick.there))) (rfl)) ?_
      refine D.h rfl (by kernel_rfl) (OpSpec.call Try.func38 rfl rfl (vs := [_, _]) rfl (tdead_spec t1 (sStep σ1 xs[i]) xs[i].id)) (by (repeat (first | exact Picks.nil | (apply Picks.cons; (repeat (first | exact Pick.here | apply Pick.there)))))) ?nx143
      rintro v L' ⟨rfl, rfl⟩
      refine D.qw [8, 9, 10] rfl (by kernel_rfl) (Quiet.move rfl) ?_
      refine D.qw [10] rfl (by kernel_rfl) (Quiet.extract rfl rfl) ?_
      refine D.qw [] rfl (by kernel_rfl) (Quiet.extract rfl rfl) ?_
      refine D.qw [] rfl (by kernel_rfl) (Quiet.assign rfl) ?_
      refine D.ph ?_
      refine Phases.go [] (by (repeat (first | exact Picks.nil | (apply Picks.cons; (repeat (first | exact Pick.here | apply Pick.there)))))) ?_
      refine D.qw [] rfl (by kernel_rfl) (Quiet.assign rfl) ?_
      refine D.ph ?_
      refine Phases.fin ?_
      refine G.then_n ?_
      refine G.seq ?_
      refine G.draw [6] [[0, 1, 2, 3, 4, 5, 6, 7, 8, 9, 10], [11]] mixed (by kernel_rfl) ?_
      refine Phases.go [] (by (repeat (first | exact Picks.nil | (apply Picks.cons; (repeat (first | exact Pick.here | apply Pick.there)))))) ?_
      refine D.qw [2, 3, 6, 7, 8, 9, 10] rfl (by kernel_rfl) (Quiet.move rfl) ?_
      refine D.qw [2, 3, 6, 7, 8, 9, 10] rfl (by kernel_rfl) (Quiet.move rfl) ?_
      refine D.qw [3, 6, 7, 8, 9, 10] rfl (by kernel_rfl) (Quiet.indexAddr rfl rfl el_72 (by omega)) ?_
      refine D.qw [6, 7, 8, 9, 10] rfl (by kernel_rfl) (Quiet.load rfl ag_70 (by (repeat (first | exact Pick.here | apply Pick.there))) (rfl)) ?_
      refine D.qw [5, 6, 7, 8, 9, 10] rfl (by kernel_rfl) (Quiet.fieldAddr rfl fo_62_1) ?_
      refine D.qw [6, 7, 8, 9, 10] rfl (by kernel_rfl) (Quiet.load rfl ag_3 (by (repeat (first | exact Pick.here | apply Pick.there))) (rfl)) ?_
      refine D.h rfl (by kernel_rfl) (OpSpec.call Try.func41 rfl rfl (vs := [_, _]) rfl (rdead_spec r1 (sStep σ1 xs[i]) xs[i].id)) (by (repeat (first | exact Picks.nil | (apply Picks.cons; (repeat (first | exact Pick.here | apply Pick.there)))))) ?nx152
      rintro v L' ⟨rfl, rfl⟩
      refine D.qw [8, 9, 10] rfl (by kernel_rfl) (Quiet.move rfl) ?_
      refine D.qw [10] rfl (by kernel_rfl) (Quiet.extract rfl rfl) ?_
      refine D.qw [] rfl (by kernel_rfl) (Quiet.extract rfl rfl) ?_
      refine D.qw [] rfl (by kernel_rfl) (Quiet.assign rfl) ?_
      refine D.ph ?_
      refine Phases.go [] (by (repeat (first | exact Picks.nil | (apply Picks.cons; (repeat (first | exact Pick.here | apply Pick.there)))))) ?_
      refine D.qw [] rfl (by kernel_rfl) (Quiet.assign rfl) ?_
      refine D.ph ?_
      refine Phases.fin ?_
      refine G.then_n ?_
      refine G.seq ?_
      refine G.draw [6] [[0, 1, 2, 3, 4, 5, 6], [7]] mixed (by kernel_rfl) ?_
      refine Phases.go [] (by (repeat (first | exact Picks.nil | (apply Picks.cons; (repeat (first | exact Pick.here | apply Pick.there)))))) ?_
      refine D.qw [2, 3, 6] rfl (by kernel_rfl) (Quiet.move rfl) ?_
      refine D.qw [2, 3, 6] rfl (by kernel_rfl) (Quiet.move rfl) ?_
      refine D.qw [3, 6] rfl (by kernel_rfl) (Quiet.indexAddr rfl rfl el_69 (by omega)) ?_
      refine D.qw [6] rfl (by kernel_rfl) (Quiet.load rfl ag_59 (by (repeat (first | exact Pick.here | apply Pick.there))) (rfl)) ?_
      refine D.qw [5, 6] rfl (by kernel_rfl) (Quiet.fieldAddr rfl fo_62_3) ?_
      refine D.qw [6] rfl (by kernel_rfl) (Quiet.load rfl ag_3 (by (repeat (first | exact Pick.here | apply Pick.there))) (rfl)) ?_
      refine D.h rfl (by kernel_rfl) (OpSpec.call Try.func42 rfl rfl (vs := [_, _]) rfl (texp_spec t1 (sStep σ1 xs[i]) xs[i].now)) (by (repeat (first | exact Picks.nil | (apply Picks.cons; (repeat (first | exact Pick.here | apply Pick.there)))))) ?nx161
      rintro v L' ⟨⟨ae, ce, rfl⟩, rfl⟩
      refine D.ph ?_
      refine Phases.go [] (by (repeat (first | exact Picks.nil | (apply Picks.cons; (repeat (first | exact Pick.here | apply Pick.there)))))) ?_
      refine D.qw [] rfl (by kernel_rfl) (Quiet.assign rfl) ?_
      refine D.ph ?_
      refine Phases.fin ?_
      refine G.then_n ?_
      refine G.seq ?_
      refine G.region ?_
      refine G.q (Quiet.move rfl) rfl ?_
      refine G.q (Quiet.move rfl) rfl ?_
      refine G.q (Quiet.indexAddr rfl rfl el_69 (by omega)) rfl ?_
      refine G.q (Quiet.load rfl ag_59 (by (repeat (first | exact Pick.here | apply Pick.there))) (rfl)) rfl ?_
      refine G.op (OpSpec.call Try.func43 rfl rfl (vs := [_]) rfl (tall_spec t1 (sStep σ1 xs[i]))) (by (repeat (first | exact Picks.nil | (apply Picks.cons; (repeat (first | exact Pick.here | apply Pick.there)))))) rfl ?nx166
      rintro v L' ⟨⟨aA, cA, rfl⟩, rfl⟩
      refine G.q (Quiet.assign rfl) rfl ?_
      refine G.nil ?_
      refine G.then_n ?_
      refine G.seq ?_
      refine G.seq ?_
      refine G.draw [20, 21, 30, 31] [[0, 1, 2, 3, 4, 5, 6, 7, 8, 9, 10, 11, 12, 13, 14, 15, 16, 17, 18, 19, 20, 21, 22, 23, 24, 25, 26, 27, 28, 29, 30, 31, 32, 33]] mixed (by kernel_rfl) ?_
      refine Phases.go [ptc bt _ _, ptc br _ _, ptc b7 _ _] (by (repeat (first | exact Picks.nil | (apply Picks.cons; (repeat (first | exact Pick.here | apply Pick.there)))))) ?_
      refine D.qw [1, 2, 3, 4, 5, 6, 7, 8, 9, 10, 11, 12, 13, 14, 15, 16, 17, 18, 19, 20, 21, 22, 23, 24, 25, 26, 27, 28, 29, 30, 31, 32, 33] rfl (by kernel_rfl) (Quiet.move rfl) ?_
      refine D.qw [2, 3, 4, 5, 6, 7, 8, 9, 10, 11, 12, 13, 14, 15, 16, 17, 18, 19, 20, 21, 22, 23, 24, 25, 26, 27, 28, 29, 30, 31, 32, 33] rfl (by kernel_rfl) (Quiet.not rfl) ?_
      refine D.qw [3, 4, 5, 6, 7, 8, 9, 10, 11, 12, 13, 14, 15, 16, 17, 18, 19, 20, 21, 22, 23, 24, 25, 26, 27, 28, 29, 30, 31, 32, 33] rfl (by kernel_rfl) (Quiet.move rfl) ?_
      refine D.gqw [5, 6, 7, 8, 9, 10, 11, 12, 13, 14, 15, 16, 17, 18, 19, 20, 21, 22, 23, 24, 25, 26, 27, 28, 29, 30, 31, 32, 33] (t := 96) rfl rfl rfl (by kernel_rfl) (Quiet.move rfl) ?_
      refine D.gqw [5, 6, 7, 8, 9, 10, 11, 12, 13, 14, 15, 16, 17, 18, 19, 20, 21, 22, 23, 24, 25, 26, 27, 28, 29, 30, 31, 32, 33] (t := 96) rfl rfl rfl (by kernel_rfl) (Quiet.move rfl) ?_
      refine D.gqw [6, 7, 8, 9, 10, 11, 12, 13, 14, 15, 16, 17, 18, 19, 20, 21, 22, 23, 24, 25, 26, 27, 28, 29, 30, 31, 32, 33] (t := 96) rfl rfl rfl (by kernel_rfl) (Quiet.as (v' := .bool false) (by simp) (Quiet.int rfl rfl rfl)) ?_
      refine D.qw [7, 8, 9, 10, 11, 12, 13, 14, 15, 16, 17, 18, 19, 20, 21, 22, 23, 24, 25, 26, 27, 28, 29, 30, 31, 32, 33] rfl (by kernel_rfl) (Quiet.pickF rfl rfl) ?_
      refine D.qw [8, 9, 10, 11, 12, 13, 14, 15, 16, 17, 18, 19, 20, 21, 22, 23, 24, 25, 26, 27, 28, 29, 30, 31, 32, 33] rfl (by kernel_rfl) (Quiet.move rfl) ?_
      refine D.gqw [10, 11, 12, 13, 14, 15, 16, 17, 18, 19, 20, 21, 22, 23, 24, 25, 26, 27, 28, 29, 30, 31, 32, 33] (t := 101) rfl rfl rfl (by kernel_rfl) (Quiet.move rfl) ?_
      refine D.gqw [10, 11, 12, 13, 14, 15, 16, 17, 18, 19, 20, 21, 22, 23, 24, 25, 26, 27, 28, 29, 30, 31, 32, 33] (t := 101) rfl rfl rfl (by kernel_rfl) (Quiet.move rfl) ?_
      refine D.gqw [11, 12, 13, 14, 15, 16, 17, 18, 19, 20, 21, 22, 23, 24, 25, 26, 27, 28, 29, 30, 31, 32, 33] (t := 101) rfl rfl rfl (by kernel_rfl) (Quiet.as (v' := .bool false) (by simp) (Quiet.int rfl rfl rfl)) ?_
      refine D.qw [12, 13, 14, 15, 16, 17, 18, 19, 20, 21, 22, 23, 24, 25, 26, 27, 28, 29, 30, 31, 32, 33] rfl (by kernel_rfl) (Quiet.pickF rfl rfl) ?_
      refine D.qw [13, 14, 15, 16, 17, 18, 19, 20, 21, 22, 23, 24, 25, 26, 27, 28, 29, 30, 31, 32, 33] rfl (by kernel_rfl) (Quiet.move rfl) ?_
      refine D.gq (t := 106) rfl rfl rfl (by kernel_rfl) (Quiet.move rfl) ?_
      refine D.gqw [16, 17, 20, 21, 22, 23, 24, 25, 26, 27, 28, 29, 30, 31, 32, 33] (t := 106) rfl rfl rfl (by kernel_rfl) (Quiet.move rfl) ?_
      refine D.gqw [16, 17, 20, 21, 22, 23, 24, 25, 26, 27, 28, 29, 30, 31, 32, 33] (t := 106) rfl rfl rfl (by kernel_rfl) (Quiet.move rfl) ?_
      refine D.gqw [17, 20, 21, 22, 23, 24, 25, 26, 27, 28, 29, 30, 31, 32, 33] (t := 106) rfl rfl rfl (by kernel_rfl) (Quiet.indexAddr rfl rfl el_72 (by omega)) ?_
      refine D.gqw [20, 21, 22, 23, 24, 25, 26, 27, 28, 29, 30, 31, 32, 33] (t := 106) rfl rfl rfl (by kernel_rfl) (Quiet.load rfl ag_70 (by (repeat (first | exact Pick.here | apply Pick.there))) (rfl)) ?_
      refine D.gqw [19, 20, 21, 22, 23, 24, 25, 26, 27, 28, 29, 30, 31, 32, 33] (t := 106) rfl rfl rfl (by kernel_rfl) (Quiet.fieldAddr rfl fo_62_3) ?_
      refine D.gqw [20, 21, 22, 23, 24, 25, 26, 27, 28, 29, 30, 31, 32, 33] (t := 106) rfl rfl rfl (by kernel_rfl) (Quiet.load rfl ag_3 (by (repeat (first | exact Pick.here | apply Pick.there))) (rfl)) ?_
      refine D.gh (t := 106) rfl rfl rfl (by kernel_rfl) (OpSpec.call Try.func45 rfl rfl (vs := [_, _]) rfl (rexp_spec r1 (sStep σ1 xs[i]) xs[i].now)) (by (repeat (first | exact Picks.nil | (apply Picks.cons; (repeat (first | exact Pick.here | apply Pick.there)))))) ?nx176
      rintro v L' ⟨⟨af, cf, rfl⟩, rfl⟩
      refine D.gh (t := 106) rfl rfl rfl (by kernel_rfl) (OpSpec.call Try.func44 rfl rfl (vs := [_, _]) rfl (same10_spec _ _ (sExp (sStep σ1 xs[i]) xs[i].now) (sExp (sStep σ1 xs[i]) xs[i].now) (intR (.slice ae (sExp (sStep σ1 xs[i]) xs[i].now).length ce) (sExp (sStep σ1 xs[i]) xs[i].now)) (intR (.slice af (sExp (sStep σ1 xs[i]) xs[i].now).length cf) (sExp (sStep σ1 xs[i]) xs[i].now)) (fun h hp => slR_rd hp) (fun h hp => slR_rd hp) (by omega))) (by (repeat (first | exact Picks.nil | (apply Picks.cons; (repeat (first | exact Pick.here | apply Pick.there)))))) ?nx178
      rintro v L' ⟨rfl, rfl⟩; rw [decide_eq_true rfl]
      refine D.gqw [23, 24, 25, 26, 27, 28, 29, 30, 31, 32, 33] (t := 106) rfl rfl rfl (by kernel_rfl) (Quiet.not rfl) ?_
      refine D.qw [24, 25, 26, 27, 28, 29, 30, 31, 32, 33] rfl (by kernel_rfl) (Quiet.pickF rfl rfl) ?_
      refine D.qw [25, 26, 27, 28, 29, 30, 31, 32, 33] rfl (by kernel_rfl) (Quiet.move rfl) ?_
      refine D.gq (t := 118) rfl rfl rfl (by kernel_rfl) (Quiet.move rfl) ?_
      refine D.gqw [28, 29, 30, 31, 32, 33] (t := 118) rfl rfl rfl (by kernel_rfl) (Quiet.move rfl) ?_
      refine D.gqw [28, 29, 30, 31, 32, 33] (t := 118) rfl rfl rfl (by kernel_rfl) (Quiet.move rfl) ?_
      refine D.gqw [29, 30, 31, 32, 33] (t := 118) rfl rfl rfl (by kernel_rfl) (Quiet.indexAddr rfl rfl el_72 (by omega)) ?_
      refine D.gqw [30, 31, 32, 33] (t := 118) rfl rfl rfl (by kernel_rfl) (Quiet.load rfl ag_70 (by (repeat (first | exact Pick.here | apply Pick.there))) (rfl)) ?_
      refine D.gh (t := 118) rfl rfl rfl (by kernel_rfl) (OpSpec.call Try.func46 rfl rfl (vs := [_]) rfl (rall_spec r1 (sStep σ1 xs[i]))) (by (repeat (first | exact Picks.nil | (apply Picks.cons; (repeat (first | exact Pick.here | apply Pick.there)))))) ?nx184
      rintro v L' ⟨⟨ag, cg, rfl⟩, rfl⟩
      refine D.gh (t := 118) rfl rfl rfl (by kernel_rfl) (OpSpec.call Try.func44 rfl rfl (vs := [_, _]) rfl (same10_spec _ _ (sAll (sStep σ1 xs[i])) (sAll (sStep σ1 xs[i])) (intR (.slice aA (sAll (sStep σ1 xs[i])).length cA) (sAll (sStep σ1 xs[i]))) (intR (.slice ag (sAll (sStep σ1 xs[i])).length cg) (sAll (sStep σ1 xs[i]))) (fun h hp => slR_rd hp) (fun h hp => slR_rd hp) (by omega))) (by (repeat (first | exact Picks.nil | (apply Picks.cons; (repeat (first | exact Pick.here | apply Pick.there)))))) ?nx186
      rintro v L' ⟨rfl, rfl⟩; rw [decide_eq_true rfl]
      refine D.gqw [33] (t := 118) rfl rfl rfl (by kernel_rfl) (Quiet.not rfl) ?_
      refine D.qw [] rfl (by kernel_rfl) (Quiet.pickF rfl rfl) ?_
      refine D.ph ?_
      refine Phases.fin ?_
      refine G.then_n ?_
      refine G.condF rfl ?_
      refine G.skip ?_
      refine G.then_n ?_
      refine G.seq ?_
      refine G.seq ?_
      refine G.region ?_
      refine G.q (Quiet.assign rfl) rfl ?_
      refine G.nil ?_
      refine G.then_n ?_
      refine G.block ?_
      refine G.loopK (ι := Nat × (List Value)) (fun q E => (16, vint q.1) :: E) (fun q => [slR 3 1 (.slice aA (sAll (sStep σ1 xs[i])).length cA) (sAll (sStep σ1 xs[i])).length q.2]) (fun q => q.1 ≤ (sAll (sStep σ1 xs[i])).length) (fun q => (sAll (sStep σ1 xs[i])).length - q.1) (0, ints (sAll (sStep σ1 xs[i]))) (ts := [0, 4, 5, 6, 7, 8, 9, 10, 11, 12, 13, 14, 15, 39, 40, 41, 42, 45, 46, 47, 48, 49, 50, 51, 52, 53, 54, 55, 56, 57, 58, 59, 60, 61, 62, 63, 64, 65, 66, 67, 68, 69, 70, 71, 72, 73, 74, 75, 76, 77, 78, 79, 80, 81, 82, 83, 84, 85, 86, 87, 88, 89, 90, 91, 92, 93, 94, 95, 96, 97, 98, 99, 100, 101, 102, 103, 104, 105, 106, 107, 108, 109, 110, 111, 112, 113, 114, 115, 116, 117, 118, 119, 120, 121, 122, 123, 124, 125, 126, 127]) (.cons rfl (.cons rfl (.cons rfl (.cons rfl (.cons rfl (.cons rfl (.cons rfl (.cons rfl (.cons rfl (.cons rfl (.cons rfl (.cons rfl (.cons rfl (.cons rfl (.cons rfl (.cons rfl (.cons rfl (.cons rfl (.cons rfl (.cons rfl (.cons rfl (.cons rfl (.cons rfl (.cons rfl (.cons rfl (.cons rfl (.cons rfl (.cons rfl (.cons rfl (.cons rfl (.cons rfl (.cons rfl (.cons rfl (.cons rfl (.cons rfl (.cons rfl (.cons rfl (.cons rfl (.cons rfl (.cons rfl (.cons rfl (.cons rfl (.cons rfl (.cons rfl (.cons rfl (.cons rfl (.cons rfl (.cons rfl (.cons rfl (.cons rfl (.cons rfl (.cons rfl (.cons rfl (.cons rfl (.cons rfl (.cons rfl (.cons rfl (.cons rfl (.cons rfl (.cons rfl (.cons rfl (.cons rfl (.cons rfl (.cons rfl (.cons rfl (.cons rfl (.cons rfl (.cons rfl (.cons rfl (.cons rfl (.cons rfl (.cons rfl (.cons rfl (.cons rfl (.cons rfl (.cons rfl (.cons rfl (.cons rfl (.cons rfl (.cons rfl (.cons rfl (.cons rfl (.cons rfl (.cons rfl (.cons rfl (.cons rfl (.cons rfl (.cons rfl (.cons rfl (.cons rfl (.cons rfl (.cons rfl (.cons rfl (.cons rfl (.cons rfl (.cons rfl (.cons rfl (.cons rfl (.cons rfl (.cons rfl (.nil))))))))))))))))))))))))))))))))))))))))))))))))))))))))))))))))))))))))))))))))))))))))))))))))))))) (Nat.zero_le _) ⟨rfl, rfl, rfl, rfl, rfl, rfl, rfl, rfl, rfl, rfl, rfl, rfl, rfl, rfl, rfl, rfl, rfl, rfl, rfl, rfl, rfl, rfl, rfl, rfl, rfl, rfl, rfl, rfl, rfl, rfl, rfl, rfl, rfl, rfl, rfl, rfl, rfl, rfl, rfl, rfl, rfl, rfl, rfl, rfl, rfl, rfl, rfl, rfl, rfl, rfl, rfl, rfl, rfl, rfl, rfl, rfl, rfl, rfl, rfl, rfl, rfl, rfl, rfl, rfl, rfl, rfl, rfl, rfl, rfl, rfl, rfl, rfl, rfl, rfl, rfl, rfl, rfl, rfl, rfl, rfl, rfl, rfl, rfl, rfl, rfl, rfl, rfl, rfl, rfl, rfl, rfl, rfl, rfl, rfl, rfl, rfl, rfl, rfl, rfl, rfl, rfl, trivial⟩ (by (repeat (first | exact Picks.nil | (apply Picks.cons; (repeat (first | exact Pick.here | apply Pick.there)))))) ?_
      rintro ⟨j, ys⟩ hj
      dsimp only
      dsimp only at hj
      refine G.seq ?_
      refine G.seq ?_
      refine G.region ?_
      refine G.q (Quiet.move rfl) rfl ?_
      refine G.q (Quiet.move rfl) rfl ?_
      refine G.q (Quiet.slen rfl Try.underlying40 rfl) rfl ?_
      refine G.q (Quiet.int rfl rfl rfl) rfl ?_
      refine G.nil ?_
      refine G.then_n ?_
      refine G.condD rfl (fun h131 => ?_) (fun h131 => ?_)
      · have hj2 : j < (sAll (sStep σ1 xs[i])).length := by omega
        refine G.slShape (v := .slice aA _ cA) (by (repeat (first | exact Pick.here | apply Pick.there))) (by omega) fun bl cl' e ml _ => ?_
        simp only [Value.slice.injEq, true_and] at e
        obtain ⟨rfl, rfl⟩ := e
        refine G.skip ?_
        refine G.then_n ?_
        refine G.seq ?_
        refine G.block ?_
        refine G.region ?_
        refine G.q (Quiet.move rfl) rfl ?_
        refine G.q (Quiet.move rfl) rfl ?_
        refine G.q (Quiet.indexAddr rfl rfl el_40 (by omega)) rfl ?_
        refine G.op (OpSpec.storeEl (i := j * 1) rfl rfl rfl sz_3 ?hi197) (by (repeat (first | exact Picks.nil | (apply Picks.cons; (repeat (first | exact Pick.here | apply Pick.there)))))) rfl ?nx198
        case hi197 => omega
        rintro v L' rfl
        refine G.nil ?_
        refine G.blk_n ?_
        refine G.then_n ?_
        refine G.region ?_
        refine G.q (Quiet.move rfl) rfl ?_
        refine G.q (Quiet.add rfl rfl (by omega)) rfl ?_
        refine G.q (Quiet.assign rfl) rfl ?_
        refine G.nil ?_
        refine G.then_n ?_
        exact G.roundK ((j + 1, ys.set (j * 1) (vint (-9)))) (by dsimp only; omega) (by dsimp only; omega) ⟨rfl, rfl, rfl, rfl, rfl, rfl, rfl, rfl, rfl, rfl, rfl, rfl, rfl, rfl, rfl, rfl, rfl, rfl, rfl, rfl, rfl, rfl, rfl, rfl, rfl, rfl, rfl, rfl, rfl, rfl, rfl, rfl, rfl, rfl, rfl, rfl, rfl, rfl, rfl, rfl, rfl, rfl, rfl, rfl, rfl, rfl, rfl, rfl, rfl, rfl, rfl, rfl, rfl, rfl, rfl, rfl, rfl, rfl, rfl, rfl, rfl, rfl, rfl, rfl, rfl, rfl, rfl, rfl, rfl, rfl, rfl, rfl, rfl, rfl, rfl, rfl, rfl, rfl, rfl, rfl, rfl, rfl, rfl, rfl, rfl, rfl, rfl, rfl, rfl, rfl, rfl, rfl, rfl, rfl, rfl, rfl, rfl, rfl, rfl, rfl, rfl, trivial⟩ (by (repeat (first | exact Picks.nil | (apply Picks.cons; (repeat (first | exact Pick.here | apply Pick.there)))))) (by ((repeat (apply Have.cons; (repeat (first | exact Pick.here | apply Pick.there)))); apply Have.base; repeat (first | exact Suff.here | apply Suff.there)))
      · refine G.exit ?_
        refine G.then_e ?_
        refine G.then_e ?_
        refine G.blk_e ?_
        refine G.then_n ?_
        refine G.seq ?_
        refine G.region ?_
        refine G.q (Quiet.assign rfl) rfl ?_
        refine G.nil ?_
        refine G.then_n ?_
        refine G.block ?_
        refine G.loopK (ι := Nat × (List Value)) (fun q E => (17, vint q.1) :: E) (fun q => [slR 3 1 (.slice ae (sExp (sStep σ1 xs[i]) xs[i].now).length ce) (sExp (sStep σ1 xs[i]) xs[i].now).length q.2]) (fun q => q.1 ≤ (sExp (sStep σ1 xs[i]) xs[i].now).length) (fun q => (sExp (sStep σ1 xs[i]) xs[i].now).length - q.1) (0, ints (sExp (sStep σ1 xs[i]) xs[i].now)) (ts := [0, 4, 5, 6, 7, 8, 9, 10, 11, 12, 13, 14, 15, 16, 39, 40, 41, 42, 45, 46, 47, 48, 49, 50, 51, 52, 53, 54, 55, 56, 57, 58, 59, 60, 61, 62, 63, 64, 65, 66, 67, 68, 69, 70, 71, 72, 73, 74, 75, 76, 77, 78, 79, 80, 81, 82, 83, 84, 85, 86, 87, 88, 89, 90, 91, 92, 93, 94, 95, 96, 97, 98, 99, 100, 101, 102, 103, 104, 105, 106, 107, 108, 109, 110, 111, 112, 113, 114, 115, 116, 117, 118, 119, 120, 121, 122, 123, 124, 125, 126, 127, 128, 129, 130, 131]) (.cons rfl (.cons rfl (.cons rfl (.cons rfl (.cons rfl (.cons rfl (.cons rfl (.cons rfl (.cons rfl (.cons rfl (.cons rfl (.cons rfl (.cons rfl (.cons rfl (.cons rfl (.cons rfl (.cons rfl (.cons rfl (.cons rfl (.cons rfl (.cons rfl (.cons rfl (.cons rfl (.cons rfl (.cons rfl (.cons rfl (.cons rfl (.cons rfl (.cons rfl (.cons rfl (.cons rfl (.cons rfl (.cons rfl (.cons rfl (.cons rfl (.cons rfl (.cons rfl (.cons rfl (.cons rfl (.cons rfl (.cons rfl (.cons rfl (.cons rfl (.cons rfl (.cons rfl (.cons rfl (.cons rfl (.cons rfl (.cons rfl (.cons rfl (.cons rfl (.cons rfl (.cons rfl (.cons rfl (.cons rfl (.cons rfl (.cons rfl (.cons rfl (.cons rfl (.cons rfl (.cons rfl (.cons rfl (.cons rfl (.cons rfl (.cons rfl (.cons rfl (.cons rfl (.cons rfl (.cons rfl (.cons rfl (.cons rfl (.cons rfl (.cons rfl (.cons rfl (.cons rfl (.cons rfl (.cons rfl (.cons rfl (.cons rfl (.cons rfl (.cons rfl (.cons rfl (.cons rfl (.cons rfl (.cons rfl (.cons rfl (.cons rfl (.cons rfl (.cons rfl (.cons rfl (.cons rfl (.cons rfl (.cons rfl (.cons rfl (.cons rfl (.cons rfl (.cons rfl (.cons rfl (.cons rfl (.cons rfl (.cons rfl (.cons rfl (.cons rfl (.cons rfl (.cons rfl (.nil)))))))))))))))))))))))))))))))))))))))))))))))))))))))))))))))))))))))))))))))))))))))))))))))))))))))))) (Nat.zero_le _) ⟨rfl, rfl, rfl, rfl, rfl, rfl, rfl, rfl, rfl, rfl, rfl, rfl, rfl, rfl, rfl, rfl, rfl, rfl, rfl, rfl, rfl, rfl, rfl, rfl, rfl, rfl, rfl, rfl, rfl, rfl, rfl, rfl, rfl, rfl, rfl, rfl, rfl, rfl, rfl, rfl, rfl, rfl, rfl, rfl, rfl, rfl, rfl, rfl, rfl, rfl, rfl, rfl, rfl, rfl, rfl, rfl, rfl, rfl, rfl, rfl, rfl, rfl, rfl, rfl, rfl, rfl, rfl, rfl, rfl, rfl, rfl, rfl, rfl, rfl, rfl, rfl, rfl, rfl, rfl, rfl, rfl, rfl, rfl, rfl, rfl, rfl, rfl, rfl, rfl, rfl, rfl, rfl, rfl, rfl, rfl, rfl, rfl, rfl, rfl, rfl, rfl, rfl, rfl, rfl, rfl, rfl, trivial⟩ (by (repeat (first | exact Picks.nil | (apply Picks.cons; (repeat (first | exact Pick.here | apply Pick.there)))))) ?_
        rintro ⟨j, ys⟩ hj
        dsimp only
        dsimp only at hj
        refine G.seq ?_
        refine G.seq ?_
        refine G.region ?_
        refine G.q (Quiet.move rfl) rfl ?_
        refine G.q (Quiet.move rfl) rfl ?_
        refine G.q (Quiet.slen rfl Try.underlying40 rfl) rfl ?_
        refine G.q (Quiet.int rfl rfl rfl) rfl ?_
        refine G.nil ?_
        refine G.then_n ?_
        refine G.condD rfl (fun h140 => ?_) (fun h140 => ?_)
        · have hj2 : j < (sExp (sStep σ1 xs[i]) xs[i].now).length := by omega
          refine G.slShape (v := .slice ae _ ce) (by (repeat (first | exact Pick.here | apply Pick.there))) (by omega) fun bl cl' e ml _ => ?_
          simp only [Value.slice.injEq, true_and] at e
          obtain ⟨rfl, rfl⟩ := e
          refine G.skip ?_
          refine G.then_n ?_
          refine G.seq ?_
          refine G.block ?_
          refine G.region ?_
          refine G.q (Quiet.move rfl) rfl ?_
          refine G.q (Quiet.move rfl) rfl ?_
          refine G.q (Quiet.indexAddr rfl rfl el_40 (by omega)) rfl ?_
          refine G.op (OpSpec.storeEl (i := j * 1) rfl rfl rfl sz_3 ?hi209) (by (repeat (first | exact Picks.nil | (apply Picks.cons; (repeat (first | exact Pick.here | apply Pick.there)))))) rfl ?nx210
          case hi209 => omega
          rintro v L' rfl
          refine G.nil ?_
          refine G.blk_n ?_
          refine G.then_n ?_
          refine G.region ?_
          refine G.q (Quiet.move rfl) rfl ?_
          refine G.q (Quiet.add rfl rfl (by omega)) rfl ?_
          refine G.q (Quiet.assign rfl) rfl ?_
          refine G.nil ?_
          refine G.then_n ?_
          exact G.roundK ((j + 1, ys.set (j * 1) (vint (-9)))) (by dsimp only; omega) (by dsimp only; omega) ⟨rfl, rfl, rfl, rfl, rfl, rfl, rfl, rfl, rfl, rfl, rfl, rfl, rfl, rfl, rfl, rfl, rfl, rfl, rfl, rfl, rfl, rfl, rfl, rfl, rfl, rfl, rfl, rfl, rfl, rfl, rfl, rfl, rfl, rfl, rfl, rfl, rfl, rfl, rfl, rfl, rfl, rfl, rfl, rfl, rfl, rfl, rfl, rfl, rfl, rfl, rfl, rfl, rfl, rfl, rfl, rfl, rfl, rfl, rfl, rfl, rfl, rfl, rfl, rfl, rfl, rfl, rfl, rfl, rfl, rfl, rfl, rfl, rfl, rfl, rfl, rfl, rfl, rfl, rfl, rfl, rfl, rfl, rfl, rfl, rfl, rfl, rfl, rfl, rfl, rfl, rfl, rfl, rfl, rfl, rfl, rfl, rfl, rfl, rfl, rfl, rfl, rfl, rfl, rfl, rfl, rfl, trivial⟩ (by (repeat (first | exact Picks.nil | (apply Picks.cons; (repeat (first | exact Pick.here | apply Pick.there)))))) (by ((repeat (apply Have.cons; (repeat (first | exact Pick.here | apply Pick.there)))); apply Have.base; repeat (first | exact Suff.here | apply Suff.there)))
        · refine G.exit ?_
          refine G.then_e ?_
          refine G.then_e ?_
          refine G.blk_e ?_
          refine G.blk_n ?_
          refine G.then_n ?_
          refine G.region ?_
          refine G.q (Quiet.move rfl) rfl ?_
          refine G.q (Quiet.add rfl rfl (by omega)) rfl ?_
          refine G.q (Quiet.assign rfl) rfl ?_
          refine G.nil ?_
          refine G.then_n ?_
          exact G.roundK ((i + 1, σ0, sStep σ1 xs[i])) (⟨by dsimp only; omega, h0, hs⟩) (by dsimp only; omega) ⟨rfl, rfl, rfl, rfl, trivial⟩ (by (repeat (first | exact Picks.nil | (apply Picks.cons; (repeat (first | exact Pick.here | apply Pick.there)))))) (by ((repeat (apply Have.cons; (repeat (first | exact Pick.here | apply Pick.there)))); apply Have.base; repeat (first | exact Suff.here | apply Suff.there)))
  · have hs0 := sAll_len h0
    have hs1 := sAll_len h1
    refine G.exit ?_
    refine G.then_e ?_
    refine G.then_e ?_
    refine G.blk_e ?_
    refine G.then_n ?_
    refine G.seq ?_
    refine G.draw [3, 7, 8, 13, 17, 18] [[0, 1, 2, 4, 5, 6, 3, 7, 8, 9, 10, 11, 12, 14, 15, 16, 13, 17, 18, 19], [20]] mixed (by kernel_rfl) ?_
    refine Phases.go [ptc bt _ _, ptc br _ _] (by (repeat (first | exact Picks.nil | (apply Picks.cons; (repeat (first | exact Pick.here | apply Pick.there)))))) ?_
    refine D.qw [1, 2, 3, 7, 8, 9, 10, 11, 12, 14, 15, 16, 13, 17, 18, 19] rfl (by kernel_rfl) (Quiet.move rfl) ?_
    refine D.qw [2, 3, 7, 8, 9, 10, 11, 12, 14, 15, 16, 13, 17, 18, 19] rfl (by kernel_rfl) (Quiet.indexAddr rfl rfl el_69 (by omega)) ?_
    refine D.qw [3, 7, 8, 9, 10, 11, 12, 14, 15, 16, 13, 17, 18, 19] rfl (by kernel_rfl) (Quiet.load rfl ag_59 (by (repeat (first | exact Pick.here | apply Pick.there))) (rfl)) ?_
    refine D.q rfl (by kernel_rfl) (Quiet.move rfl) ?_
    refine D.q rfl (by kernel_rfl) (Quiet.indexAddr rfl rfl el_72 (by omega)) ?_
    refine D.q rfl (by kernel_rfl) (Quiet.load rfl ag_70 (by (repeat (first | exact Pick.here | apply Pick.there))) (rfl)) ?_
    refine D.h rfl (by kernel_rfl) (OpSpec.call Try.func43 rfl rfl (vs := [_]) rfl (tall_spec t0 σ0)) (by (repeat (first | exact Picks.nil | (apply Picks.cons; (repeat (first | exact Pick.here | apply Pick.there)))))) ?nx221
    rintro v L' ⟨⟨aa, ca, rfl⟩, rfl⟩
    refine D.h rfl (by kernel_rfl) (OpSpec.call Try.func46 rfl rfl (vs := [_]) rfl (rall_spec r0 σ0)) (by (repeat (first | exact Picks.nil | (apply Picks.cons; (repeat (first | exact Pick.here | apply Pick.there)))))) ?nx223
    rintro v L' ⟨⟨ab, cb, rfl⟩, rfl⟩
    refine D.h rfl (by kernel_rfl) (OpSpec.call Try.func44 rfl rfl (vs := [_, _]) rfl (same10_spec _ _ (sAll σ0) (sAll σ0) (intR (.slice aa (sAll σ0).length ca) (sAll σ0)) (intR (.slice ab (sAll σ0).length cb) (sAll σ0)) (fun h hp => slR_rd hp) (fun h hp => slR_rd hp) (by omega))) (by (repeat (first | exact Picks.nil | (apply Picks.cons; (repeat (first | exact Pick.here | apply Pick.there)))))) ?nx225
    rintro v L' ⟨rfl, rfl⟩; rw [decide_eq_true rfl]
    refine D.qw [10, 11, 12, 14, 15, 16, 13, 17, 18, 19] rfl (by kernel_rfl) (Quiet.move rfl) ?_
    refine D.gqw [11, 12, 13, 17, 18, 19] (t := 155) rfl rfl rfl (by kernel_rfl) (Quiet.move rfl) ?_
    refine D.gqw [12, 13, 17, 18, 19] (t := 155) rfl rfl rfl (by kernel_rfl) (Quiet.indexAddr rfl rfl el_69 (by omega)) ?_
    refine D.gqw [13, 17, 18, 19] (t := 155) rfl rfl rfl (by kernel_rfl) (Quiet.load rfl ag_59 (by (repeat (first | exact Pick.here | apply Pick.there))) (rfl)) ?_
    refine D.gq (t := 155) rfl rfl rfl (by kernel_rfl) (Quiet.move rfl) ?_
    refine D.gq (t := 155) rfl rfl rfl (by kernel_rfl) (Quiet.indexAddr rfl rfl el_72 (by omega)) ?_
    refine D.gq (t := 155) rfl rfl rfl (by kernel_rfl) (Quiet.load rfl ag_70 (by (repeat (first | exact Pick.here | apply Pick.there))) (rfl)) ?_
    refine D.gh (t := 155) rfl rfl rfl (by kernel_rfl) (OpSpec.call Try.func43 rfl rfl (vs := [_]) rfl (tall_spec t1 σ1)) (by (repeat (first | exact Picks.nil | (apply Picks.cons; (repeat (first | exact Pick.here | apply Pick.there)))))) ?nx233
    rintro v L' ⟨⟨ac, cc, rfl⟩, rfl⟩
    refine D.gh (t := 155) rfl rfl rfl (by kernel_rfl) (OpSpec.call Try.func46 rfl rfl (vs := [_]) rfl (rall_spec r1 σ1)) (by (repeat (first | exact Picks.nil | (apply Picks.cons; (repeat (first | exact Pick.here | apply Pick.there)))))) ?nx235
    rintro v L' ⟨⟨ad, cd, rfl⟩, rfl⟩
    refine D.gh (t := 155) rfl rfl rfl (by kernel_rfl) (OpSpec.call Try.func44 rfl rfl (vs := [_, _]) rfl (same10_spec _ _ (sAll σ1) (sAll σ1) (intR (.slice ac (sAll σ1).length cc) (sAll σ1)) (intR (.slice ad (sAll σ1).length cd) (sAll σ1)) (fun h hp => slR_rd hp) (fun h hp => slR_rd hp) (by omega))) (by (repeat (first | exact Picks.nil | (apply Picks.cons; (repeat (first | exact Pick.here | apply Pick.there)))))) ?nx237
    rintro v L' ⟨rfl, rfl⟩; rw [decide_eq_true rfl]
    refine D.qw [] rfl (by kernel_rfl) (Quiet.pickT rfl rfl) ?_
    refine D.ph ?_
    refine Phases.go [] (by (repeat (first | exact Picks.nil | (apply Picks.cons; (repeat (first | exact Pick.here | apply Pick.there)))))) ?_
    refine D.qw [] rfl (by kernel_rfl) (Quiet.assign rfl) ?_
    refine D.ph ?_
    refine Phases.fin ?_
    refine G.then_n ?_
    refine G.ret ?_
    exact G.done (l := [.tmp 2]) rfl rfl ⟨rfl, rfl⟩ (by (repeat (first | exact Picks.nil | (apply Picks.cons; (repeat (first | exact Pick.here | apply Pick.there)))))) (by (repeat (first | exact Suff.here | apply Suff.there)))

set_option maxRecDepth 100000 in
theorem sapart_spec (v0 : Value) (xs : List StepZ) (p : HP) (hops : StepsRd p v0 xs) : Fn Try.prog 6 #[v0] [p] fun v L => v = .bool true ∧ L = [p] := by
  refine Fn.intro (vs := [v0]) Try.func6 rfl rfl ?_
  intro F W
  have hcells := hops.cells
  have hopl := hops.len
  refine G.rdAny (p := p) hcells (by (repeat (first | exact Pick.here | apply Pick.there))) fun a0 c0 e _ => ?_
  subst e
  refine G.seq ?_
  refine G.region ?_
  refine G.q (Quiet.assign rfl) rfl ?_
  refine G.nil ?_
  refine G.then_n ?_
  refine G.seq ?_
  refine G.region ?_
  refine G.op (OpSpec.call Try.func32 rfl rfl (vs := []) rfl (awake10_spec)) (by (repeat (first | exact Picks.nil | (apply Picks.cons; (repeat (first | exact Pick.here | apply Pick.there)))))) rfl ?nx2
  rintro v L' ⟨rfl, rfl⟩
  refine G.q (Quiet.assign rfl) rfl ?_
  refine G.nil ?_
  refine G.then_n ?_
  refine G.seq ?_
  refine G.region ?_
  refine G.op (OpSpec.call Try.func33 rfl rfl (vs := []) rfl (tnew_spec)) (by (repeat (first | exact Picks.nil | (apply Picks.cons; (repeat (first | exact Pick.here | apply Pick.there)))))) rfl ?nx4
  rintro v L' ⟨t, rfl, rfl⟩
  refine G.q (Quiet.assign rfl) rfl ?_
  refine G.nil ?_
  refine G.then_n ?_
  refine G.seq ?_
  refine G.region ?_
  refine G.op (OpSpec.call Try.func33 rfl rfl (vs := []) rfl (tnew_spec)) (by (repeat (first | exact Picks.nil | (apply Picks.cons; (repeat (first | exact Pick.here | apply Pick.there)))))) rfl ?nx6
  rintro v L' ⟨t1, rfl, rfl⟩
  refine G.q (Quiet.assign rfl) rfl ?_
  refine G.nil ?_
  refine G.then_n ?_
  refine G.seq ?_
  refine G.seq ?_
  refine G.region ?_
  refine G.q (Quiet.move rfl) rfl ?_
  refine G.q (Quiet.not rfl) rfl ?_
  refine G.q (Quiet.move rfl) rfl ?_
  refine G.grun (t := 19) rfl rfl rfl ?_
  refine G.q (Quiet.move rfl) rfl ?_
  refine G.grun (t := 19) rfl rfl rfl ?_
  refine G.q (Quiet.ptreq rfl rfl Try.underlying59) rfl ?_
  refine G.q (Quiet.pickF rfl rfl) rfl ?_
  refine G.q (Quiet.move rfl) rfl ?_
  refine G.grun (t := 23) rfl rfl rfl ?_
  refine G.q (Quiet.move rfl) rfl ?_
  refine G.grun (t := 23) rfl rfl rfl ?_
  refine G.q (Quiet.ptreq rfl rfl Try.underlying59) rfl ?_
  refine G.q (Quiet.pickF rfl rfl) rfl ?_
  refine G.nil ?_
  refine G.then_n ?_
  refine G.condF rfl ?_
  refine G.skip ?_
  refine G.then_n ?_
  refine G.seq ?_
  refine G.seq ?_
  refine G.region ?_
  refine G.q (Quiet.assign rfl) rfl ?_
  refine G.nil ?_
  refine G.then_n ?_
  refine G.block ?_
  refine G.loopK (ι := Nat × Ses × Ses) (fun q E => (6, vint q.1) :: E) (fun q => [tkR t q.2.1, tkR t1 q.2.2]) (fun q => q.1 ≤ xs.length ∧ AR q.2.1 q.2.2) (fun q => xs.length - q.1) (0, [], []) (ts := [0, 4, 5]) (.cons rfl (.cons rfl (.cons rfl (.nil)))) (⟨Nat.zero_le _, AR.start⟩) ⟨rfl, rfl, rfl, rfl, trivial⟩ (by (repeat (first | exact Picks.nil | (apply Picks.cons; (repeat (first | exact Pick.here | apply Pick.there)))))) ?_
  rintro ⟨i, σ, τ⟩ ⟨hi, hA⟩
  dsimp only
  dsimp only at hi hA
  refine G.seq ?_
  refine G.seq ?_
  refine G.region ?_
  refine G.q (Quiet.move rfl) rfl ?_
  refine G.q (Quiet.move rfl) rfl ?_
  refine G.q (Quiet.slen rfl Try.underlying58 rfl) rfl ?_
  refine G.q (Quiet.int rfl rfl rfl) rfl ?_
  refine G.nil ?_
  refine G.then_n ?_
  refine G.condD rfl (fun h30 => ?_) (fun h30 => ?_)
  · have hi2 : i < xs.length := by omega
    have hfit := hops.fit _ (List.getElem_mem hi2)
    refine G.rdShape (p := p) hcells (by (repeat (first | exact Pick.here | apply Pick.there))) (by omega) fun bh oh e => ?_
    subst e
    have hpr := pickZ_range xs[i].id (n := 16) (by decide)
    have hidm : 1 + pickZ xs[i].id 16 ≤ 9223372036854775807 := by omega
    refine G.skip ?_
    refine G.then_n ?_
    refine G.seq ?_
    refine G.block ?_
    refine G.seq ?_
    refine G.region ?_
    refine G.q (Quiet.move rfl) rfl ?_
    refine G.q (Quiet.move rfl) rfl ?_
    refine G.q (Quiet.indexAddr rfl rfl el_58 (by omega)) rfl ?_
    refine G.q (Quiet.loadRdA (sz := 4) (j := i * 4) (vs := stepC xs[i]) (p := p) rfl ag_62 (by (repeat (first | exact Pick.here | apply Pick.there))) hcells rfl (by omega) (by omega) (stepsC_at hi2)) rfl ?_
    refine G.op (OpSpec.allocA ze_62) (by (repeat (first | exact Picks.nil | (apply Picks.cons; (repeat (first | exact Pick.here | apply Pick.there)))))) rfl ?nx20
    rintro v L' ⟨b7, rfl, rfl⟩
    refine G.op (OpSpec.storeA rfl rfl ?c22 sz_62 ?c25 ?c23 ?c24) (by (repeat (first | exact Picks.nil | (apply Picks.cons; (repeat (first | exact Pick.here | apply Pick.there)))))) rfl ?nx26
    case c22 => simp [stepC, isCell]
    case c25 => simp [stepC]
    case c23 => simp [stepC]
    case c24 => exact nfz0 _ _
    rintro v L' rfl
    refine G.nil ?_
    refine G.then_n ?_
    refine G.seq ?_
    refine G.region ?_
    refine G.q (Quiet.fieldAddr rfl fo_62_1) rfl ?_
    refine G.q (Quiet.load rfl ag_3 (by (repeat (first | exact Pick.here | apply Pick.there))) (rfl)) rfl ?_
    refine G.op (OpSpec.call Try.func34 rfl rfl (vs := [_, _]) rfl (pick10_spec xs[i].id 16 hfit.2.1 (by decide))) (by (repeat (first | exact Picks.nil | (apply Picks.cons; (repeat (first | exact Pick.here | apply Pick.there)))))) rfl ?nx29
    rintro v L' ⟨rfl, rfl⟩
    refine G.q (Quiet.add rfl rfl (by omega)) rfl ?_
    refine G.q (Quiet.fieldAddr rfl fo_62_1) rfl ?_
    refine G.op (OpSpec.store rfl rfl rfl sz_3 ?c33 ?c34) (by (repeat (first | exact Picks.nil | (apply Picks.cons; (repeat (first | exact Pick.here | apply Pick.there)))))) rfl ?nx35
    case c33 => simp [stepC, spl]
    case c34 => exact nfz0 _ _
    rintro v L' rfl
    refine G.nil ?_
    refine G.then_n ?_
    refine G.seq ?_
    refine G.region ?_
    refine G.q (Quiet.assign rfl) rfl ?_
    refine G.nil ?_
    refine G.then_n ?_
    refine G.seq ?_
    refine G.region ?_
    refine G.q (Quiet.assign rfl) rfl ?_
    refine G.nil ?_
    refine G.then_n ?_
    refine G.seq ?_
    refine G.joinK (ι := Ses × Ses × Int × Int) (fun q E => (8, vint q.2.2.1) :: (9, vint q.2.2.2) :: E) (fun q => [tkR t q.1, tkR t1 q.2.1]) (fun q => AR q.1 q.2.1 ∧ (1 + pickZ xs[i].id 16 = 1 → q.2.2.1 = q.2.2.2)) (pre := [tkR t σ, tkR t1 τ]) (ts := [0, 4, 5, 6, 7, 27, 28, 29, 30, 33, 34, 35, 36, 37, 38, 39, 40, 41]) (.cons rfl (.cons rfl (.cons rfl (.cons rfl (.cons rfl (.cons rfl (.cons rfl (.cons rfl (.cons rfl (.cons rfl (.cons rfl (.cons rfl (.cons rfl (.cons rfl (.cons rfl (.cons rfl (.cons rfl (.cons rfl (.nil))))))))))))))))))) (by (repeat (first | exact Picks.nil | (apply Picks.cons; (repeat (first | exact Pick.here | apply Pick.there)))))) ?_ ?_
    · refine G.seq ?_
      refine G.region ?_
      refine G.q (Quiet.fieldAddr rfl fo_62_0) rfl ?_
      refine G.q (Quiet.load rfl ag_3 (by (repeat (first | exact Pick.here | apply Pick.there))) (rfl)) rfl ?_
      refine G.op (OpSpec.call Try.func34 rfl rfl (vs := [_, _]) rfl (pick10_spec xs[i].what 5 hfit.1 (by decide))) (by (repeat (first | exact Picks.nil | (apply Picks.cons; (repeat (first | exact Pick.here | apply Pick.there)))))) rfl ?nx40
      rintro v L' ⟨rfl, rfl⟩
      refine G.nil ?_
      refine G.then_n ?_
      refine G.block ?_
      refine G.seq ?_
      refine G.seq ?_
      refine G.region ?_
      refine G.q (Quiet.int rfl rfl rfl) rfl ?_
      refine G.q (Quiet.assign rfl) rfl ?_
      refine G.nil ?_
      refine G.then_n ?_
      refine G.dec (t := 62) rfl (fun h62 => ?_) (fun h62 => ?_)
      · refine G.condT rfl ?_
        refine G.skip ?_
        refine G.then_n ?_
        refine G.condT rfl ?_
        refine G.seq ?_
        refine G.region ?_
        refine G.q (Quiet.move rfl) rfl ?_
        refine G.q (Quiet.fieldAddr rfl fo_62_1) rfl ?_
        refine G.q (Quiet.load rfl ag_3 (by (repeat (first | exact Pick.here | apply Pick.there))) (rfl)) rfl ?_
        refine G.q (Quiet.fieldAddr rfl fo_62_3) rfl ?_
        refine G.q (Quiet.load rfl ag_3 (by (repeat (first | exact Pick.here | apply Pick.there))) (rfl)) rfl ?_
        refine G.op (OpSpec.call Try.func35 rfl rfl (vs := [_, _, _]) rfl (ttouch_spec t σ (1 + pickZ xs[i].id 16) xs[i].now)) (by (repeat (first | exact Picks.nil | (apply Picks.cons; (repeat (first | exact Pick.here | apply Pick.there)))))) rfl ?nx48
        rintro v L' ⟨rfl, rfl⟩
        refine G.q (Quiet.assign rfl) rfl ?_
        refine G.nil ?_
        refine G.then_n ?_
        refine G.seq ?_
        refine G.region ?_
        refine G.q (Quiet.fieldAddr rfl fo_62_1) rfl ?_
        refine G.q (Quiet.load rfl ag_3 (by (repeat (first | exact Pick.here | apply Pick.there))) (rfl)) rfl ?_
        refine G.q (Quiet.int rfl rfl rfl) rfl ?_
        refine G.nil ?_
        refine G.then_n ?_
        refine G.condD rfl (fun h73 => ?_) (fun h73 => ?_)
        · refine G.region ?_
          refine G.q (Quiet.move rfl) rfl ?_
          refine G.q (Quiet.fieldAddr rfl fo_62_3) rfl ?_
          refine G.q (Quiet.load rfl ag_3 (by (repeat (first | exact Pick.here | apply Pick.there))) (rfl)) rfl ?_
          refine G.op (OpSpec.call Try.func35 rfl rfl (vs := [_, _, _]) rfl (ttouch_spec t1 τ 1 xs[i].now)) (by (repeat (first | exact Picks.nil | (apply Picks.cons; (repeat (first | exact Pick.here | apply Pick.there)))))) rfl ?nx56
          rintro v L' ⟨rfl, rfl⟩
          refine G.q (Quiet.assign rfl) rfl ?_
          refine G.nil ?_
          refine G.blk_n ?_
          refine G.then_n ?_
          exact G.meetK (((sTouch σ (1 + pickZ xs[i].id 16) xs[i].now).1, (sTouch τ 1 xs[i].now).1, (sTouch σ (1 + pickZ xs[i].id 16) xs[i].now).2, (sTouch τ 1 xs[i].now).2)) (by rw [h73]; exact ⟨(hA.touchOne xs[i].now).2, fun _ => (hA.touchOne xs[i].now).1⟩) ⟨rfl, rfl, rfl, rfl, rfl, rfl, rfl, rfl, rfl, rfl, rfl, rfl, rfl, rfl, rfl, rfl, rfl, rfl, rfl, rfl, trivial⟩ (by (repeat (first | exact Picks.nil | (apply Picks.cons; (repeat (first | exact Pick.here | apply Pick.there)))))) (by ((repeat (apply Have.cons; (repeat (first | exact Pick.here | apply Pick.there)))); apply Have.base; repeat (first | exact Suff.here | apply Suff.there)))
        · refine G.skip ?_
          refine G.blk_n ?_
          refine G.then_n ?_
          exact G.meetK (((sTouch σ (1 + pickZ xs[i].id 16) xs[i].now).1, τ, (sTouch σ (1 + pickZ xs[i].id 16) xs[i].now).2, 0)) (⟨hA.touchOther xs[i].now h73 (by omega), fun h => absurd h h73⟩) ⟨rfl, rfl, rfl, rfl, rfl, rfl, rfl, rfl, rfl, rfl, rfl, rfl, rfl, rfl, rfl, rfl, rfl, rfl, rfl, rfl, trivial⟩ (by (repeat (first | exact Picks.nil | (apply Picks.cons; (repeat (first | exact Pick.here | apply Pick.there)))))) (by ((repeat (apply Have.cons; (repeat (first | exact Pick.here | apply Pick.there)))); apply Have.base; repeat (first | exact Suff.here | apply Suff.there)))
      · refine G.condF rfl ?_
        refine G.region ?_
        refine G.q (Quiet.int rfl rfl rfl) rfl ?_
        refine G.q (Quiet.assign rfl) rfl ?_
        refine G.nil ?_
        refine G.then_n ?_
        refine G.dec (t := 62) rfl (fun h62 => ?_) (fun h62 => ?_)
        · refine G.condT rfl ?_
          refine G.seq ?_
          refine G.region ?_
          refine G.q (Quiet.move rfl) rfl ?_
          refine G.q (Quiet.fieldAddr rfl fo_62_1) rfl ?_
          refine G.q (Quiet.load rfl ag_3 (by (repeat (first | exact Pick.here | apply Pick.there))) (rfl)) rfl ?_
          refine G.q (Quiet.fieldAddr rfl fo_62_3) rfl ?_
          refine G.q (Quiet.load rfl ag_3 (by (repeat (first | exact Pick.here | apply Pick.there))) (rfl)) rfl ?_
          refine G.op (OpSpec.call Try.func35 rfl rfl (vs := [_, _, _]) rfl (ttouch_spec t σ (1 + pickZ xs[i].id 16) xs[i].now)) (by (repeat (first | exact Picks.nil | (apply Picks.cons; (repeat (first | exact Pick.here | apply Pick.there)))))) rfl ?nx64
          rintro v L' ⟨rfl, rfl⟩
          refine G.q (Quiet.assign rfl) rfl ?_
          refine G.nil ?_
          refine G.then_n ?_
          refine G.seq ?_
          refine G.region ?_
          refine G.q (Quiet.fieldAddr rfl fo_62_1) rfl ?_
          refine G.q (Quiet.load rfl ag_3 (by (repeat (first | exact Pick.here | apply Pick.there))) (rfl)) rfl ?_
          refine G.q (Quiet.int rfl rfl rfl) rfl ?_
          refine G.nil ?_
          refine G.then_n ?_
          refine G.condD rfl (fun h73 => ?_) (fun h73 => ?_)
          · refine G.region ?_
            refine G.q (Quiet.move rfl) rfl ?_
            refine G.q (Quiet.fieldAddr rfl fo_62_3) rfl ?_
            refine G.q (Quiet.load rfl ag_3 (by (repeat (first | exact Pick.here | apply Pick.there))) (rfl)) rfl ?_
            refine G.op (OpSpec.call Try.func35 rfl rfl (vs := [_, _, _]) rfl (ttouch_spec t1 τ 1 xs[i].now)) (by (repeat (first | exact Picks.nil | (apply Picks.cons; (repeat (first | exact Pick.here | apply Pick.there)))))) rfl ?nx72
            rintro v L' ⟨rfl, rfl⟩
            refine G.q (Quiet.assign rfl) rfl ?_
            refine G.nil ?_
            refine G.blk_n ?_
            refine G.then_n ?_
            exact G.meetK (((sTouch σ (1 + pickZ xs[i].id 16) xs[i].now).1, (sTouch τ 1 xs[i].now).1, (sTouch σ (1 + pickZ xs[i].id 16) xs[i].now).2, (sTouch τ 1 xs[i].now).2)) (by rw [h73]; exact ⟨(hA.touchOne xs[i].now).2, fun _ => (hA.touchOne xs[i].now).1⟩) ⟨rfl, rfl, rfl, rfl, rfl, rfl, rfl, rfl, rfl, rfl, rfl, rfl, rfl, rfl, rfl, rfl, rfl, rfl, rfl, rfl, trivial⟩ (by (repeat (first | exact Picks.nil | (apply Picks.cons; (repeat (first | exact Pick.here | apply Pick.there)))))) (by ((repeat (apply Have.cons; (repeat (first | exact Pick.here | apply Pick.there)))); apply Have.base; repeat (first | exact Suff.here | apply Suff.there)))
          · refine G.skip ?_
            refine G.blk_n ?_
            refine G.then_n ?_
            exact G.meetK (((sTouch σ (1 + pickZ xs[i].id 16) xs[i].now).1, τ, (sTouch σ (1 + pickZ xs[i].id 16) xs[i].now).2, 0)) (⟨hA.touchOther xs[i].now h73 (by omega), fun h => absurd h h73⟩) ⟨rfl, rfl, rfl, rfl, rfl, rfl, rfl, rfl, rfl, rfl, rfl, rfl, rfl, rfl, rfl, rfl, rfl, rfl, rfl, rfl, trivial⟩ (by (repeat (first | exact Picks.nil | (apply Picks.cons; (repeat (first | exact Pick.here | apply Pick.there)))))) (by ((repeat (apply Have.cons; (repeat (first | exact Pick.here | apply Pick.there)))); apply Have.base; repeat (first | exact Suff.here | apply Suff.there)))
        · refine G.condF rfl ?_
          refine G.seq ?_
          refine G.region ?_
          refine G.q (Quiet.int rfl rfl rfl) rfl ?_
          refine G.q (Quiet.assign rfl) rfl ?_
          refine G.nil ?_
          refine G.then_n ?_
          refine G.condD rfl (fun h78 => ?_) (fun h78 => ?_)
          · refine G.seq ?_
            refine G.region ?_
            refine G.q (Quiet.move rfl) rfl ?_
            refine G.q (Quiet.fieldAddr rfl fo_62_1) rfl ?_
            refine G.q (Quiet.load rfl ag_3 (by (repeat (first | exact Pick.here | apply Pick.there))) (rfl)) rfl ?_
            refine G.op (OpSpec.call Try.func36 rfl rfl (vs := [_, _]) rfl (tclose_spec t σ (1 + pickZ xs[i].id 16))) (by (repeat (first | exact Picks.nil | (apply Picks.cons; (repeat (first | exact Pick.here | apply Pick.there)))))) rfl ?nx78
            rintro v L' ⟨rfl, rfl⟩
            refine G.q (Quiet.assign rfl) rfl ?_
            refine G.nil ?_
            refine G.then_n ?_
            refine G.seq ?_
            refine G.region ?_
            refine G.q (Quiet.fieldAddr rfl fo_62_1) rfl ?_
            refine G.q (Quiet.load rfl ag_3 (by (repeat (first | exact Pick.here | apply Pick.there))) (rfl)) rfl ?_
            refine G.q (Quiet.int rfl rfl rfl) rfl ?_
            refine G.nil ?_
            refine G.then_n ?_
            refine G.condD rfl (fun h86 => ?_) (fun h86 => ?_)
            · refine G.region ?_
              refine G.q (Quiet.move rfl) rfl ?_
              refine G.op (OpSpec.call Try.func36 rfl rfl (vs := [_, _]) rfl (tclose_spec t1 τ 1)) (by (repeat (first | exact Picks.nil | (apply Picks.cons; (repeat (first | exact Pick.here | apply Pick.there)))))) rfl ?nx84
              rintro v L' ⟨rfl, rfl⟩
              refine G.q (Quiet.assign rfl) rfl ?_
              refine G.nil ?_
              refine G.blk_n ?_
              refine G.then_n ?_
              exact G.meetK (((sClose σ (1 + pickZ xs[i].id 16)).1, (sClose τ 1).1, (sClose σ (1 + pickZ xs[i].id 16)).2, (sClose τ 1).2)) (by rw [h86]; exact ⟨(hA.closeOne).2, fun _ => (hA.closeOne).1⟩) ⟨rfl, rfl, rfl, rfl, rfl, rfl, rfl, rfl, rfl, rfl, rfl, rfl, rfl, rfl, rfl, rfl, rfl, rfl, rfl, rfl, trivial⟩ (by (repeat (first | exact Picks.nil | (apply Picks.cons; (repeat (first | exact Pick.here | apply Pick.there)))))) (by ((repeat (apply Have.cons; (repeat (first | exact Pick.here | apply Pick.there)))); apply Have.base; repeat (first | exact Suff.here | apply Suff.there)))
            · refine G.skip ?_
              refine G.blk_n ?_
              refine G.then_n ?_
              exact G.meetK (((sClose σ (1 + pickZ xs[i].id 16)).1, τ, (sClose σ (1 + pickZ xs[i].id 16)).2, 0)) (⟨hA.closeOther h86, fun h => absurd h h86⟩) ⟨rfl, rfl, rfl, rfl, rfl, rfl, rfl, rfl, rfl, rfl, rfl, rfl, rfl, rfl, rfl, rfl, rfl, rfl, rfl, rfl, trivial⟩ (by (repeat (first | exact Picks.nil | (apply Picks.cons; (repeat (first | exact Pick.here | apply Pick.there)))))) (by ((repeat (apply Have.cons; (repeat (first | exact Pick.here | apply Pick.there)))); apply Have.base; repeat (first | exact Suff.here | apply Suff.there)))
          · refine G.seq ?_
            refine G.region ?_
            refine G.q (Quiet.move rfl) rfl ?_
            refine G.q (Quiet.fieldAddr rfl fo_62_1) rfl ?_
            refine G.q (Quiet.load rfl ag_3 (by (repeat (first | exact Pick.here | apply Pick.there))) (rfl)) rfl ?_
            refine G.q (Quiet.fieldAddr rfl fo_62_2) rfl ?_
            refine G.q (Quiet.load rfl ag_3 (by (repeat (first | exact Pick.here | apply Pick.there))) (rfl)) rfl ?_
            refine G.q (Quiet.fieldAddr rfl fo_62_3) rfl ?_
            refine G.q (Quiet.load rfl ag_3 (by (repeat (first | exact Pick.here | apply Pick.there))) (rfl)) rfl ?_
            refine G.op (OpSpec.call Try.func37 rfl rfl (vs := [_, _, _, _]) rfl (topen_spec t σ (1 + pickZ xs[i].id 16) xs[i].to xs[i].now hidm)) (by (repeat (first | exact Picks.nil | (apply Picks.cons; (repeat (first | exact Pick.here | apply Pick.there)))))) rfl ?nx93
            rintro v L' ⟨rfl, rfl⟩
            refine G.q (Quiet.assign rfl) rfl ?_
            refine G.nil ?_
            refine G.then_n ?_
            refine G.seq ?_
            refine G.region ?_
            refine G.q (Quiet.fieldAddr rfl fo_62_1) rfl ?_
            refine G.q (Quiet.load rfl ag_3 (by (repeat (first | exact Pick.here | apply Pick.there))) (rfl)) rfl ?_
            refine G.q (Quiet.int rfl rfl rfl) rfl ?_
            refine G.nil ?_
            refine G.then_n ?_
            refine G.condD rfl (fun h55 => ?_) (fun h55 => ?_)
            · refine G.region ?_
              refine G.q (Quiet.move rfl) rfl ?_
              refine G.q (Quiet.fieldAddr rfl fo_62_2) rfl ?_
              refine G.q (Quiet.load rfl ag_3 (by (repeat (first | exact Pick.here | apply Pick.there))) (rfl)) rfl ?_
              refine G.q (Quiet.fieldAddr rfl fo_62_3) rfl ?_
              refine G.q (Quiet.load rfl ag_3 (by (repeat (first | exact Pick.here | apply Pick.there))) (rfl)) rfl ?_
              refine G.op (OpSpec.call Try.func37 rfl rfl (vs := [_, _, _, _]) rfl (topen_spec t1 τ 1 xs[i].to xs[i].now (by decide))) (by (repeat (first | exact Picks.nil | (apply Picks.cons; (repeat (first | exact Pick.here | apply Pick.there)))))) rfl ?nx103
              rintro v L' ⟨rfl, rfl⟩
              refine G.q (Quiet.assign rfl) rfl ?_
              refine G.nil ?_
              refine G.blk_n ?_
              refine G.then_n ?_
              exact G.meetK (((sOpen σ (1 + pickZ xs[i].id 16) xs[i].to xs[i].now).1, (sOpen τ 1 xs[i].to xs[i].now).1, (sOpen σ (1 + pickZ xs[i].id 16) xs[i].to xs[i].now).2, (sOpen τ 1 xs[i].to xs[i].now).2)) (by rw [h55]; exact ⟨(hA.openOne xs[i].to xs[i].now).2, fun _ => (hA.openOne xs[i].to xs[i].now).1⟩) ⟨rfl, rfl, rfl, rfl, rfl, rfl, rfl, rfl, rfl, rfl, rfl, rfl, rfl, rfl, rfl, rfl, rfl, rfl, rfl, rfl, trivial⟩ (by (repeat (first | exact Picks.nil | (apply Picks.cons; (repeat (first | exact Pick.here | apply Pick.there)))))) (by ((repeat (apply Have.cons; (repeat (first | exact Pick.here | apply Pick.there)))); apply Have.base; repeat (first | exact Suff.here | apply Suff.there)))
            · refine G.skip ?_
              refine G.blk_n ?_
              refine G.then_n ?_
              exact G.meetK (((sOpen σ (1 + pickZ xs[i].id 16) xs[i].to xs[i].now).1, τ, (sOpen σ (1 + pickZ xs[i].id 16) xs[i].to xs[i].now).2, 0)) (⟨hA.openOther xs[i].to xs[i].now h55 (by omega), fun h => absurd h h55⟩) ⟨rfl, rfl, rfl, rfl, rfl, rfl, rfl, rfl, rfl, rfl, rfl, rfl, rfl, rfl, rfl, rfl, rfl, rfl, rfl, rfl, trivial⟩ (by (repeat (first | exact Picks.nil | (apply Picks.cons; (repeat (first | exact Pick.here | apply Pick.there)))))) (by ((repeat (apply Have.cons; (repeat (first | exact Pick.here | apply Pick.there)))); apply Have.base; repeat (first | exact Suff.here | apply Suff.there)))
    · rintro ⟨σ2, τ2, ea, eb⟩ ⟨hA2, hee⟩
      dsimp only
      dsimp only at hA2 hee
      refine G.seq ?_
      refine G.region ?_
      refine G.q (Quiet.move rfl) rfl ?_
      refine G.op (OpSpec.call Try.func38 rfl rfl (vs := [_, _]) rfl (tdead_spec t σ2 1)) (by (repeat (first | exact Picks.nil | (apply Picks.cons; (repeat (first | exact Pick.here | apply Pick.there)))))) rfl ?nx106
      rintro v L' ⟨rfl, rfl⟩
      refine G.q (Quiet.move rfl) rfl ?_
      refine G.q (Quiet.extract rfl rfl) rfl ?_
      refine G.q (Quiet.extract rfl rfl) rfl ?_
      refine G.q (Quiet.assign rfl) rfl ?_
      refine G.q (Quiet.assign rfl) rfl ?_
      refine G.nil ?_
      refine G.then_n ?_
      refine G.seq ?_
      refine G.region ?_
      refine G.q (Quiet.move rfl) rfl ?_
      refine G.op (OpSpec.call Try.func38 rfl rfl (vs := [_, _]) rfl (tdead_spec t1 τ2 1)) (by (repeat (first | exact Picks.nil | (apply Picks.cons; (repeat (first | exact Pick.here | apply Pick.there)))))) rfl ?nx111
      rintro v L' ⟨rfl, rfl⟩; rw [hA2.dead]
      refine G.q (Quiet.move rfl) rfl ?_
      refine G.q (Quiet.extract rfl rfl) rfl ?_
      refine G.q (Quiet.extract rfl rfl) rfl ?_
      refine G.q (Quiet.assign rfl) rfl ?_
      refine G.q (Quiet.assign rfl) rfl ?_
      refine G.nil ?_
      refine G.then_n ?_
      refine G.seq ?_
      refine G.region ?_
      refine G.q (Quiet.fieldAddr rfl fo_62_1) rfl ?_
      refine G.q (Quiet.load rfl ag_3 (by (repeat (first | exact Pick.here | apply Pick.there))) (rfl)) rfl ?_
      refine G.q (Quiet.int rfl rfl rfl) rfl ?_
      refine G.q (Quiet.move rfl) rfl ?_
      refine G.dec (t := 102) rfl (fun h28_102 => ?_) (fun h28_102 => ?_)
      · refine G.kDT (t := 101) rfl h28_102 ?_
        refine G.grun (t := 102) rfl rfl rfl ?_
        refine G.q (Quiet.move rfl) rfl ?_
        refine G.grun (t := 102) rfl rfl rfl ?_
        refine G.q (Quiet.move rfl) rfl ?_
        refine G.grun (t := 102) rfl rfl rfl ?_
        refine G.q (Quiet.as (v' := .bool false) (by rw [hee h28_102]; simp) (Quiet.int rfl rfl rfl)) rfl ?_
        refine G.q (Quiet.pickT rfl rfl) rfl ?_
        refine G.q (Quiet.move rfl) rfl ?_
        refine G.grun (t := 107) rfl rfl rfl ?_
        refine G.q (Quiet.move rfl) rfl ?_
        refine G.grun (t := 107) rfl rfl rfl ?_
        refine G.q (Quiet.move rfl) rfl ?_
        refine G.grun (t := 107) rfl rfl rfl ?_
        refine G.q (Quiet.as (v' := .bool false) (by simp) (Quiet.int rfl rfl rfl)) rfl ?_
        refine G.q (Quiet.pickF rfl rfl) rfl ?_
        refine G.q (Quiet.move rfl) rfl ?_
        refine G.grun (t := 112) rfl rfl rfl ?_
        refine G.q (Quiet.move rfl) rfl ?_
        refine G.grun (t := 112) rfl rfl rfl ?_
        refine G.q (Quiet.move rfl) rfl ?_
        refine G.grun (t := 112) rfl rfl rfl ?_
        refine G.q (Quiet.as (v' := .bool false) (by simp) (Quiet.int rfl rfl rfl)) rfl ?_
        refine G.q (Quiet.pickF rfl rfl) rfl ?_
        refine G.nil ?_
        refine G.then_n ?_
        refine G.condF rfl ?_
        refine G.skip ?_
        refine G.blk_n ?_
        refine G.then_n ?_
        refine G.region ?_
        refine G.q (Quiet.move rfl) rfl ?_
        refine G.q (Quiet.add rfl rfl (by omega)) rfl ?_
        refine G.q (Quiet.assign rfl) rfl ?_
        refine G.nil ?_
        refine G.then_n ?_
        exact G.roundK ((i + 1, σ2, τ2)) (⟨by dsimp only; omega, hA2⟩) (by dsimp only; omega) ⟨rfl, rfl, rfl, rfl, trivial⟩ (by (repeat (first | exact Picks.nil | (apply Picks.cons; (repeat (first | exact Pick.here | apply Pick.there)))))) (by ((repeat (apply Have.cons; (repeat (first | exact Pick.here | apply Pick.there)))); apply Have.base; repeat (first | exact Suff.here | apply Suff.there)))
      · refine G.kDF (t := 101) rfl h28_102 ?_
        refine G.gskip (t := 102) rfl rfl rfl rfl ?_
        refine G.gskip (t := 102) rfl rfl rfl rfl ?_
        refine G.gskip (t := 102) rfl rfl rfl rfl ?_
        refine G.q (Quiet.pickF rfl rfl) rfl ?_
        refine G.q (Quiet.move rfl) rfl ?_
        refine G.grun (t := 107) rfl rfl rfl ?_
        refine G.q (Quiet.move rfl) rfl ?_
        refine G.grun (t := 107) rfl rfl rfl ?_
        refine G.q (Quiet.move rfl) rfl ?_
        refine G.grun (t := 107) rfl rfl rfl ?_
        refine G.q (Quiet.as (v' := .bool false) (by simp) (Quiet.int rfl rfl rfl)) rfl ?_
        refine G.q (Quiet.pickF rfl rfl) rfl ?_
        refine G.q (Quiet.move rfl) rfl ?_
        refine G.grun (t := 112) rfl rfl rfl ?_
        refine G.q (Quiet.move rfl) rfl ?_
        refine G.grun (t := 112) rfl rfl rfl ?_
        refine G.q (Quiet.move rfl) rfl ?_
        refine G.grun (t := 112) rfl rfl rfl ?_
        refine G.q (Quiet.as (v' := .bool false) (by simp) (Quiet.int rfl rfl rfl)) rfl ?_
        refine G.q (Quiet.pickF rfl rfl) rfl ?_
        refine G.nil ?_
        refine G.then_n ?_
        refine G.condF rfl ?_
        refine G.skip ?_
        refine G.blk_n ?_
        refine G.then_n ?_
        refine G.region ?_
        refine G.q (Quiet.move rfl) rfl ?_
        refine G.q (Quiet.add rfl rfl (by omega)) rfl ?_
        refine G.q (Quiet.assign rfl) rfl ?_
        refine G.nil ?_
        refine G.then_n ?_
        exact G.roundK ((i + 1, σ2, τ2)) (⟨by dsimp only; omega, hA2⟩) (by dsimp only; omega) ⟨rfl, rfl, rfl, rfl, trivial⟩ (by (repeat (first | exact Picks.nil | (apply Picks.cons; (repeat (first | exact Pick.here | apply Pick.there)))))) (by ((repeat (apply Have.cons; (repeat (first | exact Pick.here | apply Pick.there)))); apply Have.base; repeat (first | exact Suff.here | apply Suff.there)))
  · refine G.exit ?_
    refine G.then_e ?_
    refine G.then_e ?_
    refine G.blk_e ?_
    refine G.then_n ?_
    refine G.seq ?_
    refine G.region ?_
    refine G.q (Quiet.assign rfl) rfl ?_
    refine G.nil ?_
    refine G.then_n ?_
    refine G.ret ?_
    exact G.done (l := [.tmp 2]) rfl rfl ⟨rfl, rfl⟩ (by (repeat (first | exact Picks.nil | (apply Picks.cons; (repeat (first | exact Pick.here | apply Pick.there)))))) (by (repeat (first | exact Suff.here | apply Suff.there)))

end Go.Proofs.Ytepncdidkjjllaa
