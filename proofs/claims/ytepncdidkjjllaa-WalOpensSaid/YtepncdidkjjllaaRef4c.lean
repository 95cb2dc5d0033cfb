/- Own work, by program: WalOpens: walked. -/
import Derived.Test.YtepncdidkjjllaaRef4b
import Derived.Test.YtepncdidkjjllaaL4F
namespace Go.Proofs.Ytepncdidkjjllaa
open Go
set_option maxRecDepth 100000 in
theorem rrecs_spec (y x : Nat) (ω : Wl) (hd : ω.doubt = false) (hl : ω.recs.length ≤ 4294967296) : Fn Try.prog 68 #[vptr y] [rlR y x ω] fun v L => ∃ a c, v = .tuple #[.slice a ω.recs.length c, vint 0] ∧ L = [rlR y x ω, strR (.slice a ω.recs.length c) ω.recs] := by
  refine Fn.intro (vs := [vptr y]) Try.func68 rfl rfl ?_
  intro F W
  refine G.rlOpen (ω := ω) (by (repeat (first | exact Pick.here | apply Pick.there))) fun vr => ?_
  refine G.slAny (v := vr) (by (repeat (first | exact Pick.here | apply Pick.there))) fun ar cr e _ => ?_
  subst e
  rw [hd]
  refine G.seq ?_
  refine G.region ?_
  refine G.q (Quiet.assign rfl) rfl ?_
  refine G.q (Quiet.assign rfl) rfl ?_
  refine G.nil ?_
  refine G.then_n ?_
  refine G.seq ?_
  refine G.seq ?_
  refine G.region ?_
  refine G.q (Quiet.move rfl) rfl ?_
  refine G.q (Quiet.nilp rfl) rfl ?_
  refine G.q (Quiet.fieldAddr rfl fo_113_7) rfl ?_
  refine G.q (Quiet.load rfl ag_4 (by (repeat (first | exact Pick.here | apply Pick.there))) (rfl)) rfl ?_
  refine G.nil ?_
  refine G.then_n ?_
  refine G.condF rfl ?_
  refine G.skip ?_
  refine G.then_n ?_
  refine G.seq ?_
  refine G.region ?_
  refine G.q (Quiet.assign rfl) rfl ?_
  refine G.nil ?_
  refine G.then_n ?_
  refine G.seq ?_
  refine G.add (slR_nil 9 1) ?_
  refine G.region ?_
  refine G.q (Quiet.move rfl) rfl ?_
  refine G.q (Quiet.move rfl) rfl ?_
  refine G.q (Quiet.nilp rfl) rfl ?_
  refine G.q (Quiet.fieldAddr rfl fo_113_1) rfl ?_
  refine G.q (Quiet.load rfl ag_22 (by (repeat (first | exact Pick.here | apply Pick.there))) (rfl)) rfl ?_
  refine G.op (OpSpec.append (n := 0) (m := ω.recs.length) (ys := strs ω.recs) (p := strR (.slice ar ω.recs.length cr) ω.recs) rfl rfl rfl el_22 (.inl ⟨_, Try.underlying22⟩) ze_9 rfl rfl ?hc12 ?hr13 ?hb14 (by decide)) (by (repeat (first | exact Picks.nil | (apply Picks.cons; (repeat (first | exact Pick.here | apply Pick.there)))))) rfl ?nx15
  case hc12 => exact strs_cell _
  case hr13 => exact fun h hp => slR_rd hp
  case hb14 => omega
  rintro v L' ⟨⟨a8, c8, rfl⟩, rfl⟩; rw [Nat.zero_add, List.nil_append]
  refine G.q (Quiet.assign rfl) rfl ?_
  refine G.q (Quiet.assign rfl) rfl ?_
  refine G.nil ?_
  refine G.then_n ?_
  refine G.ret ?_
  refine G.rlFold (y := y) (x := x) (ω := ω) (v := .slice ar ω.recs.length cr) (by (repeat (first | exact Picks.nil | (apply Picks.cons; (repeat (first | exact Pick.here | apply Pick.there)))))) (by rw [hd]) rfl rfl ?_
  exact G.done (l := [.tmp 2, .tmp 3]) rfl rfl ⟨a8, c8, rfl, rfl⟩ (by (repeat (first | exact Picks.nil | (apply Picks.cons; (repeat (first | exact Pick.here | apply Pick.there)))))) (by (repeat (first | exact Suff.here | apply Suff.there)))

set_option maxRecDepth 100000 in
theorem rroom_spec (y x : Nat) (vr vL vO vP : Value) (N At sy ar ct a b : Int) (Gone db : Bool) (δ : Dk) (ω : Wl) (hn : 2 ≤ δ.now.length ∧ δ.now.length ≤ 32768) (hfit : (laidZ ω.recs).length ≤ 4000000) : Fn Try.prog 71 #[vptr y] [ptc y [vptr x, vr, vint sy, vint ar, vint ct, vint a, vint b, .bool db] 113, strR vr ω.recs, rkC x vL vO vP N At Gone, strR vL δ.now] fun v L => v = vint (roomZ δ ω) ∧ L = [ptc y [vptr x, vr, vint sy, vint ar, vint ct, vint a, vint b, .bool db] 113, strR vr ω.recs, rkC x vL vO vP N At Gone, strR vL δ.now] := by
  refine Fn.intro (vs := [vptr y]) Try.func71 rfl rfl ?_
  intro F W
  have hh := half_le hn
  have hHL : halfZ δ = halfL δ.now := rfl
  refine G.seq ?_
  refine G.region ?_
  refine G.q (Quiet.assign rfl) rfl ?_
  refine G.nil ?_
  refine G.then_n ?_
  refine G.seq ?_
  refine G.draw [] [[0, 1, 2, 3, 4, 5, 6, 7, 8, 9, 10, 11, 12, 13, 14, 15]] mixed (by kernel_rfl) ?_
  refine Phases.go [ptc y [vptr x, vr, vint sy, vint ar, vint ct, vint a, vint b, .bool db] 113, strR vr ω.recs, rkC x vL vO vP N At Gone, strR vL δ.now] (by (repeat (first | exact Picks.nil | (apply Picks.cons; (repeat (first | exact Pick.here | apply Pick.there)))))) ?_
  refine D.qw [1, 2, 3, 4, 5, 10, 11, 12, 13, 14, 15] rfl (by kernel_rfl) (Quiet.move rfl) ?_
  refine D.qw [2, 3, 4, 5, 10, 11, 12, 13, 14, 15] rfl (by kernel_rfl) (Quiet.nilp rfl) ?_
  refine D.qw [3, 4, 5, 10, 11, 12, 13, 14, 15] rfl (by kernel_rfl) (Quiet.fieldAddr rfl fo_113_0) ?_
  refine D.qw [4, 5, 10, 11, 12, 13, 14, 15] rfl (by kernel_rfl) (Quiet.load rfl ag_28 (by (repeat (first | exact Pick.here | apply Pick.there))) (rfl)) ?_
  refine D.m rfl (by kernel_rfl) (OpSpec.call Try.func114 rfl rfl (vs := [_]) rfl (rhalf_spec x vL vO vP N At Gone δ.now hn)) (by (repeat (first | exact Picks.nil | (apply Picks.cons; (repeat (first | exact Pick.here | apply Pick.there)))))) ?nx6
  rw [← hHL]
  refine D.qw [11, 12, 13, 14, 15] rfl (by kernel_rfl) (Quiet.mul rfl rfl (by omega)) ?_
  refine D.qw [7, 8, 9, 10, 11, 12, 13, 14, 15] rfl (by kernel_rfl) (Quiet.move rfl) ?_
  refine D.qw [8, 9, 10, 11, 12, 13, 14, 15] rfl (by kernel_rfl) (Quiet.nilp rfl) ?_
  refine D.qw [9, 10, 11, 12, 13, 14, 15] rfl (by kernel_rfl) (Quiet.fieldAddr rfl fo_113_1) ?_
  refine D.qw [10, 11, 12, 13, 14, 15] rfl (by kernel_rfl) (Quiet.load rfl ag_22 (by (repeat (first | exact Pick.here | apply Pick.there))) (rfl)) ?_
  refine D.m rfl (by kernel_rfl) (OpSpec.call Try.func116 rfl rfl (vs := [_]) rfl (rsize_spec vr ω.recs (strR vr ω.recs) (fun h hp => slR_rd hp) (by omega))) (by (repeat (first | exact Picks.nil | (apply Picks.cons; (repeat (first | exact Pick.here | apply Pick.there)))))) ?nx13
  refine D.qw [12, 13, 14, 15] rfl (by kernel_rfl) (Quiet.sub rfl rfl (by omega)) ?_
  refine D.qw [13, 14, 15] rfl (by kernel_rfl) (Quiet.sub rfl rfl (by omega)) ?_
  refine D.qw [14, 15] rfl (by kernel_rfl) (Quiet.min2 rfl rfl) ?_
  refine D.qw [15] rfl (by kernel_rfl) (Quiet.max2 rfl rfl) ?_
  refine D.qw [] rfl (by kernel_rfl) (Quiet.assign rfl) ?_
  refine D.ph ?_
  refine Phases.fin ?_
  refine G.then_n ?_
  refine G.ret ?_
  exact G.done (l := [.tmp 2]) rfl rfl ⟨rfl, rfl⟩ (by (repeat (first | exact Picks.nil | (apply Picks.cons; (repeat (first | exact Pick.here | apply Pick.there)))))) (by (repeat (first | exact Suff.here | apply Suff.there)))

set_option maxRecDepth 100000 in
theorem sopens_spec (s d x : Nat) (δ : Dk) (ρ : Rk) (hL : ρ.L = δ.now) (hd : δ.dead = false) (hg : ρ.Gone = false) (hn : 2 ≤ δ.now.length ∧ δ.now.length ≤ 32768) : Fn Try.prog 19 #[vptr s, .bool false] [ptc s [vptr d, .pointer none, vptr x, .pointer none] 37, dkR d δ, rkR x ρ] fun v L => (openZ δ = none ∧ v = .bool true ∧ L = [ptc s [vptr d, .pointer none, vptr x, .pointer none] 37, dkR d δ, rkR x ρ]) ∨ (∃ ω, openZ δ = some ω ∧ ∃ l y, v = .bool true ∧ L = [ptc s [vptr d, vptr l, vptr x, vptr y] 37, dkR d δ, rkR x ρ, wlR l d ω, rlR y x ω]) := by
  refine Fn.intro (vs := [vptr s, .bool false]) Try.func19 rfl rfl ?_
  intro F W
  refine G.seq ?_
  refine G.region ?_
  refine G.q (Quiet.assign rfl) rfl ?_
  refine G.nil ?_
  refine G.then_n ?_
  refine G.seq ?_
  refine G.region ?_
  refine G.q (Quiet.assign rfl) rfl ?_
  refine G.nil ?_
  refine G.then_n ?_
  refine G.seq ?_
  refine G.region ?_
  refine G.q (Quiet.assign rfl) rfl ?_
  refine G.nil ?_
  refine G.then_n ?_
  refine G.seq ?_
  refine G.seq ?_
  refine G.region ?_
  refine G.q (Quiet.move rfl) rfl ?_
  refine G.nil ?_
  refine G.then_n ?_
  refine G.condF rfl ?_
  refine G.seq ?_
  refine G.dkOk (d := d) (δ := δ) (by (repeat (first | exact Pick.here | apply Pick.there))) fun hok => ?_
  refine G.region ?_
  refine G.q (Quiet.move rfl) rfl ?_
  refine G.q (Quiet.move rfl) rfl ?_
  refine G.q (Quiet.nilp rfl) rfl ?_
  refine G.q (Quiet.fieldAddr rfl fo_37_0) rfl ?_
  refine G.q (Quiet.load rfl ag_24 (by (repeat (first | exact Pick.here | apply Pick.there))) (rfl)) rfl ?_
  refine G.op (OpSpec.call Try.func30 rfl rfl (vs := [_]) rfl (open_spec d δ hn hok)) (by (repeat (first | exact Picks.nil | (apply Picks.cons; (repeat (first | exact Pick.here | apply Pick.there)))))) rfl ?nx10
  rintro v L' (⟨h, -, -⟩ | ⟨-, hop, rfl, rfl⟩ | ⟨-, ω, hop, l, rfl, rfl⟩)
  · rw [hd] at h; cases h
  · refine G.q (Quiet.move rfl) rfl ?_
    refine G.q (Quiet.extract rfl rfl) rfl ?_
    refine G.q (Quiet.extract rfl rfl) rfl ?_
    refine G.q (Quiet.nilp rfl) rfl ?_
    refine G.q (Quiet.fieldAddr rfl fo_37_1) rfl ?_
    refine G.op (OpSpec.store rfl rfl rfl sz_34 ?c16 ?c17) (by (repeat (first | exact Picks.nil | (apply Picks.cons; (repeat (first | exact Pick.here | apply Pick.there)))))) rfl ?nx18
    case c16 => first | decide | (simp; omega) | simp
    case c17 => exact nfz0 _ _
    rintro v L' rfl
    refine G.q (Quiet.assign rfl) rfl ?_
    refine G.nil ?_
    refine G.ptCast (b := s) (l' := [vptr d, .pointer none, vptr x, .pointer none]) (by (repeat (first | exact Pick.here | apply Pick.there))) rfl ?_
    refine G.then_n ?_
    refine G.region ?_
    refine G.q (Quiet.move rfl) rfl ?_
    refine G.q (Quiet.move rfl) rfl ?_
    refine G.q (Quiet.nilp rfl) rfl ?_
    refine G.q (Quiet.fieldAddr rfl fo_37_2) rfl ?_
    refine G.q (Quiet.load rfl ag_28 (by (repeat (first | exact Pick.here | apply Pick.there))) (rfl)) rfl ?_
    refine G.op (OpSpec.call Try.func67 rfl rfl (vs := [_]) rfl (ropen_spec x ρ δ hL hd hg hn hok)) (by (repeat (first | exact Picks.nil | (apply Picks.cons; (repeat (first | exact Pick.here | apply Pick.there)))))) rfl ?nx24
    rintro v L' (⟨h, rfl, rfl⟩ | ⟨ω2, hop2, y, rfl, rfl⟩)
    rotate_left
    · rw [hop] at hop2; cases hop2
    refine G.q (Quiet.move rfl) rfl ?_
    refine G.q (Quiet.extract rfl rfl) rfl ?_
    refine G.q (Quiet.extract rfl rfl) rfl ?_
    refine G.q (Quiet.nilp rfl) rfl ?_
    refine G.q (Quiet.fieldAddr rfl fo_37_3) rfl ?_
    refine G.op (OpSpec.store rfl rfl rfl sz_35 ?c30 ?c31) (by (repeat (first | exact Picks.nil | (apply Picks.cons; (repeat (first | exact Pick.here | apply Pick.there)))))) rfl ?nx32
    case c30 => first | decide | (simp; omega) | simp
    case c31 => exact nfz0 _ _
    rintro v L' rfl
    refine G.q (Quiet.assign rfl) rfl ?_
    refine G.nil ?_
    refine G.ptCast (b := s) (l' := [vptr d, .pointer none, vptr x, .pointer none]) (by (repeat (first | exact Pick.here | apply Pick.there))) rfl ?_
    refine G.then_n ?_
    refine G.seq ?_
    refine G.draw [] [[0, 1, 2, 3, 4, 5, 6, 7, 8, 9, 10, 11, 12, 13, 14, 15, 16]] mixed (by kernel_rfl) ?_
    refine Phases.go [] (by (repeat (first | exact Picks.nil | (apply Picks.cons; (repeat (first | exact Pick.here | apply Pick.there)))))) ?_
    refine D.qw [2, 3, 4, 5, 6, 7, 8, 9, 10, 11, 12, 13, 14, 15, 16] rfl (by kernel_rfl) (Quiet.move rfl) ?_
    refine D.qw [2, 3, 4, 5, 6, 7, 8, 9, 10, 11, 12, 13, 14, 15, 16] rfl (by kernel_rfl) (Quiet.move rfl) ?_
    refine D.qw [3, 4, 5, 6, 7, 8, 9, 10, 11, 12, 13, 14, 15, 16] rfl (by kernel_rfl) (Quiet.as (v' := .bool true) (by rfl) (Quiet.int rfl rfl rfl)) ?_
    refine D.qw [4, 5, 6, 7, 8, 9, 10, 11, 12, 13, 14, 15, 16] rfl (by kernel_rfl) (Quiet.move rfl) ?_
    refine D.gqw [5, 6, 7, 8, 14, 15, 16] (t := 55) rfl rfl rfl (by kernel_rfl) (Quiet.move rfl) ?_
    refine D.gqw [6, 7, 8, 14, 15, 16] (t := 55) rfl rfl rfl (by kernel_rfl) (Quiet.nilp rfl) ?_
    refine D.gqw [7, 8, 14, 15, 16] (t := 55) rfl rfl rfl (by kernel_rfl) (Quiet.fieldAddr rfl fo_37_1) ?_
    refine D.gqw [8, 14, 15, 16] (t := 55) rfl rfl rfl (by kernel_rfl) (Quiet.load rfl ag_34 (by (repeat (first | exact Pick.here | apply Pick.there))) (rfl)) ?_
    refine D.gqw [14, 15, 16] (t := 55) rfl rfl rfl (by kernel_rfl) (Quiet.ptreq rfl rfl Try.underlying34) ?_
    refine D.gqw [10, 11, 12, 13, 14, 15, 16] (t := 55) rfl rfl rfl (by kernel_rfl) (Quiet.move rfl) ?_
    refine D.gqw [11, 12, 13, 14, 15, 16] (t := 55) rfl rfl rfl (by kernel_rfl) (Quiet.nilp rfl) ?_
    refine D.gqw [12, 13, 14, 15, 16] (t := 55) rfl rfl rfl (by kernel_rfl) (Quiet.fieldAddr rfl fo_37_3) ?_
    refine D.gqw [13, 14, 15, 16] (t := 55) rfl rfl rfl (by kernel_rfl) (Quiet.load rfl ag_35 (by (repeat (first | exact Pick.here | apply Pick.there))) (rfl)) ?_
    refine D.gqw [14, 15, 16] (t := 55) rfl rfl rfl (by kernel_rfl) (Quiet.ptreq rfl rfl Try.underlying35) ?_
    refine D.gqw [15, 16] (t := 55) rfl rfl rfl (by kernel_rfl) (Quiet.as (v' := .bool true) (by rfl) (Quiet.booleq rfl rfl Try.underlying4)) ?_
    refine D.qw [16] rfl (by kernel_rfl) (Quiet.pickT rfl rfl) ?_
    refine D.qw [] rfl (by kernel_rfl) (Quiet.assign rfl) ?_
    refine D.ph ?_
    refine Phases.fin ?_
    refine G.then_n ?_
    refine G.ret ?_
    exact G.done (l := [.tmp 4]) rfl rfl (.inl ⟨hop, rfl, rfl⟩) (by (repeat (first | exact Picks.nil | (apply Picks.cons; (repeat (first | exact Pick.here | apply Pick.there)))))) (by (repeat (first | exact Suff.here | apply Suff.there)))
  · refine G.q (Quiet.move rfl) rfl ?_
    refine G.q (Quiet.extract rfl rfl) rfl ?_
    refine G.q (Quiet.extract rfl rfl) rfl ?_
    refine G.q (Quiet.nilp rfl) rfl ?_
    refine G.q (Quiet.fieldAddr rfl fo_37_1) rfl ?_
    refine G.op (OpSpec.store rfl rfl rfl sz_34 ?c50 ?c51) (by (repeat (first | exact Picks.nil | (apply Picks.cons; (repeat (first | exact Pick.here | apply Pick.there)))))) rfl ?nx52
    case c50 => first | decide | (simp; omega) | simp
    case c51 => exact nfz0 _ _
    rintro v L' rfl
    refine G.q (Quiet.assign rfl) rfl ?_
    refine G.nil ?_
    refine G.ptCast (b := s) (l' := [vptr d, vptr l, vptr x, .pointer none]) (by (repeat (first | exact Pick.here | apply Pick.there))) rfl ?_
    refine G.then_n ?_
    refine G.region ?_
    refine G.q (Quiet.move rfl) rfl ?_
    refine G.q (Quiet.move rfl) rfl ?_
    refine G.q (Quiet.nilp rfl) rfl ?_
    refine G.q (Quiet.fieldAddr rfl fo_37_2) rfl ?_
    refine G.q (Quiet.load rfl ag_28 (by (repeat (first | exact Pick.here | apply Pick.there))) (rfl)) rfl ?_
    refine G.op (OpSpec.call Try.func67 rfl rfl (vs := [_]) rfl (ropen_spec x ρ δ hL hd hg hn hok)) (by (repeat (first | exact Picks.nil | (apply Picks.cons; (repeat (first | exact Pick.here | apply Pick.there)))))) rfl ?nx58
    rintro v L' (⟨h, rfl, rfl⟩ | ⟨ω2, hop2, y, rfl, rfl⟩)
    · rw [hop] at h; cases h
    obtain rfl : ω = ω2 := by rw [hop] at hop2; exact Option.some.inj hop2
    refine G.q (Quiet.move rfl) rfl ?_
    refine G.q (Quiet.extract rfl rfl) rfl ?_
    refine G.q (Quiet.extract rfl rfl) rfl ?_
    refine G.q (Quiet.nilp rfl) rfl ?_
    refine G.q (Quiet.fieldAddr rfl fo_37_3) rfl ?_
    refine G.op (OpSpec.store rfl rfl rfl sz_35 ?c64 ?c65) (by (repeat (first | exact Picks.nil | (apply Picks.cons; (repeat (first | exact Pick.here | apply Pick.there)))))) rfl ?nx66
    case c64 => first | decide | (simp; omega) | simp
    case c65 => exact nfz0 _ _
    rintro v L' rfl
    refine G.q (Quiet.assign rfl) rfl ?_
    refine G.nil ?_
    refine G.ptCast (b := s) (l' := [vptr d, vptr l, vptr x, vptr y]) (by (repeat (first | exact Pick.here | apply Pick.there))) rfl ?_
    refine G.then_n ?_
    refine G.seq ?_
    refine G.draw [] [[0, 1, 2, 3, 4, 5, 6, 7, 8, 9, 10, 11, 12, 13, 14, 15, 16]] mixed (by kernel_rfl) ?_
    refine Phases.go [] (by (repeat (first | exact Picks.nil | (apply Picks.cons; (repeat (first | exact Pick.here | apply Pick.there)))))) ?_
    refine D.qw [2, 3, 4, 5, 6, 7, 8, 9, 10, 11, 12, 13, 14, 15, 16] rfl (by kernel_rfl) (Quiet.move rfl) ?_
    refine D.qw [2, 3, 4, 5, 6, 7, 8, 9, 10, 11, 12, 13, 14, 15, 16] rfl (by kernel_rfl) (Quiet.move rfl) ?_
    refine D.qw [3, 4, 5, 6, 7, 8, 9, 10, 11, 12, 13, 14, 15, 16] rfl (by kernel_rfl) (Quiet.as (v' := .bool true) (by rfl) (Quiet.int rfl rfl rfl)) ?_
    refine D.qw [4, 5, 6, 7, 8, 9, 10, 11, 12, 13, 14, 15, 16] rfl (by kernel_rfl) (Quiet.move rfl) ?_
    refine D.gqw [5, 6, 7, 8, 14, 15, 16] (t := 55) rfl rfl rfl (by kernel_rfl) (Quiet.move rfl) ?_
    refine D.gqw [6, 7, 8, 14, 15, 16] (t := 55) rfl rfl rfl (by kernel_rfl) (Quiet.nilp rfl) ?_
    refine D.gqw [7, 8, 14, 15, 16] (t := 55) rfl rfl rfl (by kernel_rfl) (Quiet.fieldAddr rfl fo_37_1) ?_
    refine D.gqw [8, 14, 15, 16] (t := 55) rfl rfl rfl (by kernel_rfl) (Quiet.load rfl ag_34 (by (repeat (first | exact Pick.here | apply Pick.there))) (rfl)) ?_
    refine D.gqw [14, 15, 16] (t := 55) rfl rfl rfl (by kernel_rfl) (Quiet.ptreq rfl rfl Try.underlying34) ?_
    refine D.gqw [10, 11, 12, 13, 14, 15, 16] (t := 55) rfl rfl rfl (by kernel_rfl) (Quiet.move rfl) ?_
    refine D.gqw [11, 12, 13, 14, 15, 16] (t := 55) rfl rfl rfl (by kernel_rfl) (Quiet.nilp rfl) ?_
    refine D.gqw [12, 13, 14, 15, 16] (t := 55) rfl rfl rfl (by kernel_rfl) (Quiet.fieldAddr rfl fo_37_3) ?_
    refine D.gqw [13, 14, 15, 16] (t := 55) rfl rfl rfl (by kernel_rfl) (Quiet.load rfl ag_35 (by (repeat (first | exact Pick.here | apply Pick.there))) (rfl)) ?_
    refine D.gqw [14, 15, 16] (t := 55) rfl rfl rfl (by kernel_rfl) (Quiet.ptreq rfl rfl Try.underlying35) ?_
    refine D.gqw [15, 16] (t := 55) rfl rfl rfl (by kernel_rfl) (Quiet.as (v' := .bool true) (by rfl) (Quiet.booleq rfl rfl Try.underlying4)) ?_
    refine D.qw [16] rfl (by kernel_rfl) (Quiet.pickT rfl rfl) ?_
    refine D.qw [] rfl (by kernel_rfl) (Quiet.assign rfl) ?_
    refine D.ph ?_
    refine Phases.fin ?_
    refine G.then_n ?_
    refine G.ret ?_
    exact G.done (l := [.tmp 4]) rfl rfl (.inr ⟨ω, hop, l, y, rfl, rfl⟩) (by (repeat (first | exact Picks.nil | (apply Picks.cons; (repeat (first | exact Pick.here | apply Pick.there)))))) (by (repeat (first | exact Suff.here | apply Suff.there)))

def overZ (l : List Value) (o : Value) (i : Nat) : List Value := List.replicate i o ++ l.drop i
theorem overZ_0 (l : List Value) (o : Value) : overZ l o 0 = l := by simp [overZ]
theorem overZ_set {l : List Value} {o : Value} {i : Nat} (hi : i < l.length) : (overZ l o i).set i o = overZ l o (i + 1) := by
  unfold overZ
  rw [List.drop_eq_getElem_cons hi, List.set_append_right _ _ (by simp), List.length_replicate, Nat.sub_self, List.set_cons_zero, List.replicate_succ']
  simp
theorem overZ_len {l : List Value} {o : Value} {i : Nat} (hi : i ≤ l.length) : (overZ l o i).length = l.length := by simp [overZ]; omega
theorem overZ_cell {l : List Value} {o : Value} {i : Nat} (hl : ∀ y ∈ l, isCell y = true) (ho : isCell o = true) : ∀ y ∈ overZ l o i, isCell y = true := by
  intro y hy
  rcases List.mem_append.1 hy with h | h
  · rw [List.eq_of_mem_replicate h]; exact ho
  · exact hl y (List.mem_of_mem_drop h)
set_option maxRecDepth 100000 in
theorem asks6_spec (s d x l y : Nat) (ω : Wl) (hdb : ω.doubt = false) (hl : ω.recs.length ≤ 4294967296) : Fn Try.prog 20 #[vptr s, .agg #[vint 6, vint 0, vint 0, .slice none 0 0, .slice none 0 0]] [ptc s [vptr d, vptr l, vptr x, vptr y] 37, wlR l d ω, rlR y x ω] fun v L => v = .bool true ∧ L = [ptc s [vptr d, vptr l, vptr x, vptr y] 37, wlR l d ω, rlR y x ω] := by
  refine Fn.intro (vs := [vptr s, .agg #[vint 6, vint 0, vint 0, .slice none 0 0, .slice none 0 0]]) Try.func20 rfl rfl ?_
  intro F W
  refine G.seq ?_
  refine G.region ?_
  refine G.op (OpSpec.box rfl) (by (repeat (first | exact Picks.nil | (apply Picks.cons; (repeat (first | exact Pick.here | apply Pick.there)))))) rfl ?nx1
  rintro v L' ⟨bo, rfl, rfl⟩
  refine G.q (Quiet.assign rfl) rfl ?_
  refine G.nil ?_
  refine G.ptCast (b := bo) (l' := [vint 6, vint 0, vint 0, .slice none 0 0, .slice none 0 0]) (by (repeat (first | exact Pick.here | apply Pick.there))) rfl ?_
  refine G.then_n ?_
  refine G.seq ?_
  refine G.seq ?_
  refine G.region ?_
  refine G.q (Quiet.fieldAddr rfl fo_42_0) rfl ?_
  refine G.q (Quiet.load rfl ag_3 (by (repeat (first | exact Pick.here | apply Pick.there))) (rfl)) rfl ?_
  refine G.nil ?_
  refine G.then_n ?_
  refine G.block ?_
  refine G.seq ?_
  refine G.region ?_
  refine G.q (Quiet.as (v' := .bool true) (by rfl) (Quiet.int rfl rfl rfl)) rfl ?_
  refine G.q (Quiet.assign rfl) rfl ?_
  refine G.nil ?_
  refine G.then_n ?_
  refine G.condT rfl ?_
  refine G.seq ?_
  refine G.region ?_
  refine G.q (Quiet.move rfl) rfl ?_
  refine G.q (Quiet.nilp rfl) rfl ?_
  refine G.q (Quiet.fieldAddr rfl fo_37_1) rfl ?_
  refine G.q (Quiet.load rfl ag_34 (by (repeat (first | exact Pick.here | apply Pick.there))) (rfl)) rfl ?_
  refine G.op (OpSpec.call Try.func60 rfl rfl (vs := [_]) rfl (wrecords_spec l d ω hl)) (by (repeat (first | exact Picks.nil | (apply Picks.cons; (repeat (first | exact Pick.here | apply Pick.there)))))) rfl ?nx11
  rintro v L' (⟨h, -, -⟩ | ⟨-, a3, c3, rfl, rfl⟩); · rw [hdb] at h; cases h
  refine G.q (Quiet.move rfl) rfl ?_
  refine G.q (Quiet.extract rfl rfl) rfl ?_
  refine G.q (Quiet.extract rfl rfl) rfl ?_
  refine G.q (Quiet.assign rfl) rfl ?_
  refine G.q (Quiet.assign rfl) rfl ?_
  refine G.nil ?_
  refine G.then_n ?_
  refine G.seq ?_
  refine G.region ?_
  refine G.q (Quiet.move rfl) rfl ?_
  refine G.q (Quiet.nilp rfl) rfl ?_
  refine G.q (Quiet.fieldAddr rfl fo_37_1) rfl ?_
  refine G.q (Quiet.load rfl ag_34 (by (repeat (first | exact Pick.here | apply Pick.there))) (rfl)) rfl ?_
  refine G.op (OpSpec.call Try.func60 rfl rfl (vs := [_]) rfl (wrecords_spec l d ω hl)) (by (repeat (first | exact Picks.nil | (apply Picks.cons; (repeat (first | exact Pick.here | apply Pick.there)))))) rfl ?nx19
  rintro v L' (⟨h, -, -⟩ | ⟨-, a4, c4, rfl, rfl⟩); · rw [hdb] at h; cases h
  refine G.q (Quiet.move rfl) rfl ?_
  refine G.q (Quiet.extract rfl rfl) rfl ?_
  refine G.q (Quiet.extract rfl rfl) rfl ?_
  refine G.q (Quiet.assign rfl) rfl ?_
  refine G.q (Quiet.assign rfl) rfl ?_
  refine G.nil ?_
  refine G.then_n ?_
  refine G.seq ?_
  refine G.region ?_
  refine G.q (Quiet.move rfl) rfl ?_
  refine G.q (Quiet.nilp rfl) rfl ?_
  refine G.q (Quiet.fieldAddr rfl fo_37_3) rfl ?_
  refine G.q (Quiet.load rfl ag_35 (by (repeat (first | exact Pick.here | apply Pick.there))) (rfl)) rfl ?_
  refine G.op (OpSpec.call Try.func68 rfl rfl (vs := [_]) rfl (rrecs_spec y x ω hdb hl)) (by (repeat (first | exact Picks.nil | (apply Picks.cons; (repeat (first | exact Pick.here | apply Pick.there)))))) rfl ?nx27
  rintro v L' ⟨a5, c5, rfl, rfl⟩
  refine G.q (Quiet.move rfl) rfl ?_
  refine G.q (Quiet.extract rfl rfl) rfl ?_
  refine G.q (Quiet.extract rfl rfl) rfl ?_
  refine G.q (Quiet.assign rfl) rfl ?_
  refine G.q (Quiet.assign rfl) rfl ?_
  refine G.nil ?_
  refine G.then_n ?_
  refine G.seq ?_
  refine G.region ?_
  refine G.q (Quiet.move rfl) rfl ?_
  refine G.q (Quiet.move rfl) rfl ?_
  refine G.op (OpSpec.call Try.func61 rfl rfl (vs := [_, _]) rfl (texts_spec (.slice a3 ω.recs.length c3) (.slice a5 ω.recs.length c5) ω.recs ω.recs (strR (.slice a3 ω.recs.length c3) ω.recs) (strR (.slice a5 ω.recs.length c5) ω.recs) (fun h hp => slR_rd hp) (fun h hp => slR_rd hp) (by omega))) (by (repeat (first | exact Picks.nil | (apply Picks.cons; (repeat (first | exact Pick.here | apply Pick.there)))))) rfl ?nx31
  rintro v L' ⟨rfl, rfl⟩; rw [decide_eq_true rfl]
  refine G.q (Quiet.assign rfl) rfl ?_
  refine G.nil ?_
  refine G.then_n ?_
  refine G.seq ?_
  refine G.seq ?_
  refine G.region ?_
  refine G.q (Quiet.assign rfl) rfl ?_
  refine G.nil ?_
  refine G.then_n ?_
  refine G.block ?_
  refine G.slCast (v := .slice a3 ω.recs.length c3) (m' := ω.recs.length) (xs' := overZ (strs ω.recs) (vstr [111, 118, 101, 114]) 0) (by (repeat (first | exact Pick.here | apply Pick.there))) rfl (overZ_0 _ _).symm ?_
  refine G.loopK (ι := Nat) (fun q E => (12, vint q) :: E) (fun q => [slR 9 1 (.slice a3 ω.recs.length c3) ω.recs.length (overZ (strs ω.recs) (vstr [111, 118, 101, 114]) q)]) (fun q => q ≤ ω.recs.length) (fun q => ω.recs.length - q) (0) (ts := [4, 5, 6, 7, 8, 9, 10, 11]) (.cons rfl (.cons rfl (.cons rfl (.cons rfl (.cons rfl (.cons rfl (.cons rfl (.cons rfl (.nil))))))))) (Nat.zero_le _) ⟨rfl, rfl, rfl, rfl, rfl, rfl, rfl, rfl, rfl, trivial⟩ (by (repeat (first | exact Picks.nil | (apply Picks.cons; (repeat (first | exact Pick.here | apply Pick.there)))))) ?_
  rintro i hi
  refine G.seq ?_
  refine G.seq ?_
  refine G.region ?_
  refine G.q (Quiet.move rfl) rfl ?_
  refine G.q (Quiet.move rfl) rfl ?_
  refine G.q (Quiet.slen rfl Try.underlying22 rfl) rfl ?_
  refine G.q (Quiet.int rfl rfl rfl) rfl ?_
  refine G.nil ?_
  refine G.then_n ?_
  refine G.condD rfl (fun h50 => ?_) (fun h50 => ?_)
  · have hi2 : i < ω.recs.length := by omega
    have hol := overZ_len (l := strs ω.recs) (o := (vstr [111, 118, 101, 114])) (i := i) (by simp; omega)
    refine G.slShape (v := .slice a3 _ c3) (by (repeat (first | exact Pick.here | apply Pick.there))) (by omega) fun b3 c3' e m3 _ => ?_
    simp only [Value.slice.injEq, true_and] at e
    obtain ⟨rfl, rfl⟩ := e
    refine G.skip ?_
    refine G.then_n ?_
    refine G.seq ?_
    refine G.block ?_
    refine G.region ?_
    refine G.q (Quiet.move rfl) rfl ?_
    refine G.q (Quiet.move rfl) rfl ?_
    refine G.q (Quiet.indexAddr rfl rfl el_22 (by omega)) rfl ?_
    refine G.op (OpSpec.storeEl (i := i * 1) rfl rfl rfl sz_9 ?hi41) (by (repeat (first | exact Picks.nil | (apply Picks.cons; (repeat (first | exact Pick.here | apply Pick.there)))))) rfl ?nx42
    case hi41 => rw [Nat.mul_one]; exact hi2
    rintro v L' rfl
    refine G.nil ?_
    refine G.blk_n ?_
    refine G.then_n ?_
    refine G.region ?_
    refine G.q (Quiet.move rfl) rfl ?_
    refine G.q (Quiet.add rfl rfl (by omega)) rfl ?_
    refine G.q (Quiet.assign rfl) rfl ?_
    refine G.nil ?_
    refine G.then_n ?_
    rw [show i * 1 = i from Nat.mul_one _, overZ_set (by simpa using hi2)]
    exact G.roundK (i + 1) (by omega) (by omega) ⟨rfl, rfl, rfl, rfl, rfl, rfl, rfl, rfl, rfl, trivial⟩ (by (repeat (first | exact Picks.nil | (apply Picks.cons; (repeat (first | exact Pick.here | apply Pick.there)))))) (by ((repeat (apply Have.cons; (repeat (first | exact Pick.here | apply Pick.there)))); apply Have.base; repeat (first | exact Suff.here | apply Suff.there)))
  · obtain rfl : i = ω.recs.length := by omega
    refine G.exit ?_
    refine G.then_e ?_
    refine G.then_e ?_
    refine G.blk_e ?_
    refine G.then_n ?_
    refine G.seq ?_
    refine G.region ?_
    refine G.q (Quiet.move rfl) rfl ?_
    refine G.op (OpSpec.buildSlice1 (vs := [_]) el_22 ze_9 rfl rfl rfl rfl rfl (by decide)) (by (repeat (first | exact Picks.nil | (apply Picks.cons; (repeat (first | exact Pick.here | apply Pick.there)))))) rfl ?nx46
    rintro v L' ⟨b11_1, rfl, rfl⟩
    refine G.op (OpSpec.append1 rfl rfl rfl el_22 ze_9 rfl rfl ?c48 ?c49 (Nat.le_refl _) ?c50 (by decide)) (by (repeat (first | exact Picks.nil | (apply Picks.cons; (repeat (first | exact Pick.here | apply Pick.there)))))) rfl ?nx51
    case c48 => (first | (simp [isCell]; done) | (simp [isCell, setAll, Value.cells]; done))
    case c49 => rfl
    case c50 => omega
    rintro v L' ⟨⟨a11_2, c11_2, rfl⟩, rfl⟩
    refine G.q (Quiet.assign rfl) rfl ?_
    refine G.nil ?_
    refine G.then_n ?_
    refine G.seq ?_
    refine G.region ?_
    refine G.q (Quiet.move rfl) rfl ?_
    refine G.q (Quiet.move rfl) rfl ?_
    refine G.op (OpSpec.call Try.func61 rfl rfl (vs := [_, _]) rfl (texts_spec (.slice a4 ω.recs.length c4) (.slice a5 ω.recs.length c5) ω.recs ω.recs (strR (.slice a4 ω.recs.length c4) ω.recs) (strR (.slice a5 ω.recs.length c5) ω.recs) (fun h hp => slR_rd hp) (fun h hp => slR_rd hp) (by omega))) (by (repeat (first | exact Picks.nil | (apply Picks.cons; (repeat (first | exact Pick.here | apply Pick.there)))))) rfl ?nx55
    rintro v L' ⟨rfl, rfl⟩; rw [decide_eq_true rfl]
    refine G.q (Quiet.assign rfl) rfl ?_
    refine G.nil ?_
    refine G.then_n ?_
    refine G.seq ?_
    refine G.region ?_
    refine G.q (Quiet.move rfl) rfl ?_
    refine G.q (Quiet.move rfl) rfl ?_
    refine G.grun (t := 63) rfl rfl rfl ?_
    refine G.q (Quiet.move rfl) rfl ?_
    refine G.q (Quiet.pickT rfl rfl) rfl ?_
    refine G.q (Quiet.move rfl) rfl ?_
    refine G.grun (t := 66) rfl rfl rfl ?_
    refine G.q (Quiet.move rfl) rfl ?_
    refine G.grun (t := 66) rfl rfl rfl ?_
    refine G.q (Quiet.move rfl) rfl ?_
    refine G.grun (t := 66) rfl rfl rfl ?_
    refine G.q (Quiet.as (v' := .bool true) (by rfl) (Quiet.int rfl rfl rfl)) rfl ?_
    refine G.q (Quiet.pickT rfl rfl) rfl ?_
    refine G.q (Quiet.move rfl) rfl ?_
    refine G.grun (t := 71) rfl rfl rfl ?_
    refine G.q (Quiet.move rfl) rfl ?_
    refine G.grun (t := 71) rfl rfl rfl ?_
    refine G.q (Quiet.move rfl) rfl ?_
    refine G.grun (t := 71) rfl rfl rfl ?_
    refine G.q (Quiet.as (v' := .bool true) (by rfl) (Quiet.int rfl rfl rfl)) rfl ?_
    refine G.q (Quiet.pickT rfl rfl) rfl ?_
    refine G.q (Quiet.move rfl) rfl ?_
    refine G.grun (t := 76) rfl rfl rfl ?_
    refine G.q (Quiet.move rfl) rfl ?_
    refine G.grun (t := 76) rfl rfl rfl ?_
    refine G.q (Quiet.slen rfl Try.underlying22 rfl) rfl ?_
    refine G.grun (t := 76) rfl rfl rfl ?_
    refine G.q (Quiet.move rfl) rfl ?_
    refine G.grun (t := 76) rfl rfl rfl ?_
    refine G.q (Quiet.slen rfl Try.underlying22 rfl) rfl ?_
    refine G.grun (t := 76) rfl rfl rfl ?_
    refine G.q (Quiet.add rfl rfl (by omega)) rfl ?_
    refine G.grun (t := 76) rfl rfl rfl ?_
    refine G.q (Quiet.as (v' := .bool true) (by simp) (Quiet.int rfl rfl rfl)) rfl ?_
    refine G.q (Quiet.pickT rfl rfl) rfl ?_
    refine G.q (Quiet.assign rfl) rfl ?_
    refine G.nil ?_
    refine G.then_n ?_
    refine G.ret ?_
    refine G.blk_r ?_
    refine G.then_r ?_
    exact G.done (l := [.tmp 4]) rfl rfl ⟨rfl, rfl⟩ (by (repeat (first | exact Picks.nil | (apply Picks.cons; (repeat (first | exact Pick.here | apply Pick.there)))))) (by (repeat (first | exact Suff.here | apply Suff.there)))

end Go.Proofs.Ytepncdidkjjllaa
