/- Own work, by program: Alike and DiskPlays, walked. -/
import Derived.Test.YtepncdidkjjllaaL3F
import Derived.Test.YtepncdidkjjllaaSlAuto
namespace Go.Proofs.Ytepncdidkjjllaa
open Go
set_option maxRecDepth 100000 in
theorem alike_spec (d x : Nat) (δ : Dk) (ρ : Rk) (h : Rel δ ρ) : Fn Try.prog 57 #[vptr d, vptr x] [dkR d δ, rkR x ρ] fun v L => v = .bool true ∧ L = [dkR d δ, rkR x ρ] := by
  refine Fn.intro (vs := [vptr d, vptr x]) Try.func57 rfl rfl ?_
  intro F W
  have hpe := h.pending
  have hL := h.L
  have hbig := h.ok.big
  have hLb : ρ.L.length ≤ 32768 := by rw [hL]; exact hbig
  have hrp : ρ.pending.length ≤ 32768 := by rw [← hpe, Dk.pend_len]; have := h.ok.oldlen; omega
  refine G.seq ?_
  refine G.region ?_
  refine G.q (Quiet.assign rfl) rfl ?_
  refine G.nil ?_
  refine G.then_n ?_
  refine G.seq ?_
  refine G.region ?_
  refine G.q (Quiet.move rfl) rfl ?_
  refine G.op (OpSpec.call Try.func54 rfl rfl (vs := [_]) rfl (pending_spec d δ)) (by (repeat (first | exact Picks.nil | (apply Picks.cons; (repeat (first | exact Pick.here | apply Pick.there)))))) rfl ?nx3
  rintro v L' ⟨⟨al, cl, rfl⟩, rfl⟩; rw [hpe]
  refine G.q (Quiet.move rfl) rfl ?_
  refine G.op (OpSpec.call Try.func107 rfl rfl (vs := [_]) rfl (rpend_spec x ρ)) (by (repeat (first | exact Picks.nil | (apply Picks.cons; (repeat (first | exact Pick.here | apply Pick.there)))))) rfl ?nx6
  rintro v L' ⟨⟨ax, cx, rfl⟩, rfl⟩
  refine G.op (OpSpec.call Try.func106 rfl rfl (vs := [_, _]) rfl (same_spec _ _ ρ.pending ρ.pending (intR (.slice al ρ.pending.length cl) ρ.pending) (intR (.slice ax ρ.pending.length cx) ρ.pending) (fun h hp => slR_rd hp) (fun h hp => slR_rd hp) (by omega))) (by (repeat (first | exact Picks.nil | (apply Picks.cons; (repeat (first | exact Pick.here | apply Pick.there)))))) rfl ?nx8
  rintro v L' ⟨rfl, rfl⟩; rw [decide_eq_true rfl]
  refine G.q (Quiet.assign rfl) rfl ?_
  refine G.nil ?_
  refine G.then_n ?_
  refine G.seq ?_
  refine G.seq ?_
  refine G.rkOpen (x := x) (ρ := ρ) (by (repeat (first | exact Pick.here | apply Pick.there))) fun vL vO vP hok => ?_
  refine G.slAny (v := vL) (by (repeat (first | exact Pick.here | apply Pick.there))) fun aL cL e _ => ?_
  subst e
  refine G.draw [4, 13, 22] [[0, 1, 2, 3, 5, 6, 7, 8, 4, 9, 10, 11, 12, 14, 15, 16, 17, 13, 18, 19, 20, 21, 23, 24, 25, 26, 27, 22, 28, 29]] mixed (by kernel_rfl) ?_
  refine Phases.go [ptc x _ _] (by (repeat (first | exact Picks.nil | (apply Picks.cons; (repeat (first | exact Pick.here | apply Pick.there)))))) ?_
  refine D.qw [1, 2, 3, 5, 6, 7, 8, 4, 9, 10, 11, 12, 14, 15, 16, 17, 13, 18, 19, 20, 21, 23, 24, 25, 26, 27, 22, 28, 29] rfl (by kernel_rfl) (Quiet.move rfl) ?_
  refine D.qw [2, 3, 5, 6, 7, 8, 4, 9, 10, 11, 12, 14, 15, 16, 17, 13, 18, 19, 20, 21, 23, 24, 25, 26, 27, 22, 28, 29] rfl (by kernel_rfl) (Quiet.not rfl) ?_
  refine D.qw [3, 5, 6, 7, 8, 4, 9, 10, 11, 12, 14, 15, 16, 17, 13, 18, 19, 20, 21, 23, 24, 25, 26, 27, 22, 28, 29] rfl (by kernel_rfl) (Quiet.move rfl) ?_
  refine D.gqw [4, 9, 10, 11, 12, 14, 15, 16, 17, 13, 18, 19, 20, 21, 23, 24, 25, 26, 27, 22, 28, 29] (t := 18) rfl rfl rfl (by kernel_rfl) (Quiet.move rfl) ?_
  refine D.gq (t := 18) rfl rfl rfl (by kernel_rfl) (Quiet.move rfl) ?_
  refine D.gq (t := 18) rfl rfl rfl (by kernel_rfl) (Quiet.nilp rfl) ?_
  refine D.gq (t := 18) rfl rfl rfl (by kernel_rfl) (Quiet.fieldAddr rfl fo_102_5) ?_
  refine D.gq (t := 18) rfl rfl rfl (by kernel_rfl) (Quiet.load rfl ag_4 (by (repeat (first | exact Pick.here | apply Pick.there))) (rfl)) ?_
  refine D.gh (t := 18) rfl rfl rfl (by kernel_rfl) (OpSpec.call Try.func52 rfl rfl (vs := [_]) rfl (dead_spec d δ)) (by (repeat (first | exact Picks.nil | (apply Picks.cons; (repeat (first | exact Pick.here | apply Pick.there)))))) ?nx16
  rintro v L' ⟨rfl, rfl⟩
  refine D.gqw [10, 11, 12, 14, 15, 16, 17, 13, 18, 19, 20, 21, 23, 24, 25, 26, 27, 22, 28, 29] (t := 18) rfl rfl rfl (by kernel_rfl) (Quiet.as (v' := .bool false) (by rw [h.dead]; simp) (Quiet.boolne rfl rfl Try.underlying4)) ?_
  refine D.qw [11, 12, 14, 15, 16, 17, 13, 18, 19, 20, 21, 23, 24, 25, 26, 27, 22, 28, 29] rfl (by kernel_rfl) (Quiet.pickF rfl rfl) ?_
  refine D.qw [12, 14, 15, 16, 17, 13, 18, 19, 20, 21, 23, 24, 25, 26, 27, 22, 28, 29] rfl (by kernel_rfl) (Quiet.move rfl) ?_
  refine D.gqw [13, 18, 19, 20, 21, 23, 24, 25, 26, 27, 22, 28, 29] (t := 27) rfl rfl rfl (by kernel_rfl) (Quiet.move rfl) ?_
  refine D.gq (t := 27) rfl rfl rfl (by kernel_rfl) (Quiet.move rfl) ?_
  refine D.gq (t := 27) rfl rfl rfl (by kernel_rfl) (Quiet.nilp rfl) ?_
  refine D.gq (t := 27) rfl rfl rfl (by kernel_rfl) (Quiet.fieldAddr rfl fo_102_3) ?_
  refine D.gq (t := 27) rfl rfl rfl (by kernel_rfl) (Quiet.load rfl ag_3 (by (repeat (first | exact Pick.here | apply Pick.there))) (rfl)) ?_
  refine D.gh (t := 27) rfl rfl rfl (by kernel_rfl) (OpSpec.call Try.func21 rfl rfl (vs := [_]) rfl (acts_spec d δ)) (by (repeat (first | exact Picks.nil | (apply Picks.cons; (repeat (first | exact Pick.here | apply Pick.there)))))) ?nx24
  rintro v L' ⟨rfl, rfl⟩
  refine D.gqw [19, 20, 21, 23, 24, 25, 26, 27, 22, 28, 29] (t := 27) rfl rfl rfl (by kernel_rfl) (Quiet.as (v' := .bool false) (by rw [h.acts]; simp) (Quiet.int rfl rfl rfl)) ?_
  refine D.qw [20, 21, 23, 24, 25, 26, 27, 22, 28, 29] rfl (by kernel_rfl) (Quiet.pickF rfl rfl) ?_
  refine D.qw [21, 23, 24, 25, 26, 27, 22, 28, 29] rfl (by kernel_rfl) (Quiet.move rfl) ?_
  refine D.gqw [22, 28, 29] (t := 36) rfl rfl rfl (by kernel_rfl) (Quiet.move rfl) ?_
  refine D.gq (t := 36) rfl rfl rfl (by kernel_rfl) (Quiet.move rfl) ?_
  refine D.gq (t := 36) rfl rfl rfl (by kernel_rfl) (Quiet.nilp rfl) ?_
  refine D.gq (t := 36) rfl rfl rfl (by kernel_rfl) (Quiet.fieldAddr rfl fo_102_0) ?_
  refine D.gq (t := 36) rfl rfl rfl (by kernel_rfl) (Quiet.load rfl ag_22 (by (repeat (first | exact Pick.here | apply Pick.there))) (rfl)) ?_
  refine D.gq (t := 36) rfl rfl rfl (by kernel_rfl) (Quiet.slen rfl Try.underlying22 rfl) ?_
  refine D.gh (t := 36) rfl rfl rfl (by kernel_rfl) (OpSpec.call Try.func108 rfl rfl (vs := [_]) rfl (size_spec d δ)) (by (repeat (first | exact Picks.nil | (apply Picks.cons; (repeat (first | exact Pick.here | apply Pick.there)))))) ?nx33
  rintro v L' ⟨rfl, rfl⟩
  refine D.gqw [29] (t := 36) rfl rfl rfl (by kernel_rfl) (Quiet.as (v' := .bool false) (by rw [hL]; simp) (Quiet.int rfl rfl rfl)) ?_
  refine D.qw [] rfl (by kernel_rfl) (Quiet.pickF rfl rfl) ?_
  refine D.ph ?_
  refine Phases.fin ?_
  refine G.rkFold (x := x) (ρ := ρ) (by (repeat (first | exact Picks.nil | (apply Picks.cons; (repeat (first | exact Pick.here | apply Pick.there)))))) rfl ⟨rfl, rfl⟩ ⟨rfl, rfl⟩ ⟨rfl, rfl⟩ hok ?_
  refine G.then_n ?_
  refine G.condF rfl ?_
  refine G.skip ?_
  refine G.then_n ?_
  refine G.seq ?_
  refine G.seq ?_
  refine G.region ?_
  refine G.q (Quiet.assign rfl) rfl ?_
  refine G.nil ?_
  refine G.then_n ?_
  refine G.block ?_
  refine G.loopK (ι := Nat) (fun q E => (6, vint q) :: E) (fun q => [dkR d δ, rkR x ρ]) (fun q => q ≤ ρ.L.length) (fun q => ρ.L.length - q) (0) (ts := [0, 1]) (.cons rfl (.cons rfl (.nil))) (Nat.zero_le _) ⟨rfl, rfl, rfl, trivial⟩ (by (repeat (first | exact Picks.nil | (apply Picks.cons; (repeat (first | exact Pick.here | apply Pick.there)))))) ?_
  rintro i hi
  refine G.seq ?_
  refine G.seq ?_
  refine G.rkOpen (x := x) (ρ := ρ) (by (repeat (first | exact Pick.here | apply Pick.there))) fun vL vO vP hok => ?_
  refine G.slAny (v := vL) (by (repeat (first | exact Pick.here | apply Pick.there))) fun aL cL e _ => ?_
  subst e
  refine G.region ?_
  refine G.q (Quiet.move rfl) rfl ?_
  refine G.q (Quiet.move rfl) rfl ?_
  refine G.q (Quiet.nilp rfl) rfl ?_
  refine G.q (Quiet.fieldAddr rfl fo_102_0) rfl ?_
  refine G.q (Quiet.load rfl ag_22 (by (repeat (first | exact Pick.here | apply Pick.there))) (rfl)) rfl ?_
  refine G.q (Quiet.slen rfl Try.underlying22 rfl) rfl ?_
  refine G.q (Quiet.int rfl rfl rfl) rfl ?_
  refine G.nil ?_
  refine G.then_n ?_
  refine G.condD rfl (fun h52 => ?_) (fun h52 => ?_)
  · refine G.rkFold (x := x) (ρ := ρ) (by (repeat (first | exact Picks.nil | (apply Picks.cons; (repeat (first | exact Pick.here | apply Pick.there)))))) rfl ⟨rfl, rfl⟩ ⟨rfl, rfl⟩ ⟨rfl, rfl⟩ hok ?_
    have hrd := h.read i
    refine G.skip ?_
    refine G.then_n ?_
    refine G.seq ?_
    refine G.block ?_
    refine G.seq ?_
    refine G.region ?_
    refine G.q (Quiet.move rfl) rfl ?_
    refine G.q (Quiet.move rfl) rfl ?_
    refine G.op (OpSpec.call Try.func55 rfl rfl (vs := [_, _]) rfl (read_spec d δ i)) (by (repeat (first | exact Picks.nil | (apply Picks.cons; (repeat (first | exact Pick.here | apply Pick.there)))))) rfl ?nx46
    rintro v L' ⟨rfl, rfl⟩; rw [hrd]
    refine G.q (Quiet.move rfl) rfl ?_
    refine G.q (Quiet.extract rfl rfl) rfl ?_
    refine G.q (Quiet.extract rfl rfl) rfl ?_
    refine G.q (Quiet.assign rfl) rfl ?_
    refine G.q (Quiet.assign rfl) rfl ?_
    refine G.nil ?_
    refine G.then_n ?_
    refine G.seq ?_
    refine G.region ?_
    refine G.q (Quiet.move rfl) rfl ?_
    refine G.q (Quiet.move rfl) rfl ?_
    refine G.op (OpSpec.call Try.func104 rfl rfl (vs := [_, _]) rfl (rread_spec x ρ i)) (by (repeat (first | exact Picks.nil | (apply Picks.cons; (repeat (first | exact Pick.here | apply Pick.there)))))) rfl ?nx52
    rintro v L' ⟨rfl, rfl⟩
    refine G.q (Quiet.move rfl) rfl ?_
    refine G.q (Quiet.extract rfl rfl) rfl ?_
    refine G.q (Quiet.extract rfl rfl) rfl ?_
    refine G.q (Quiet.assign rfl) rfl ?_
    refine G.q (Quiet.assign rfl) rfl ?_
    refine G.nil ?_
    refine G.then_n ?_
    refine G.seq ?_
    refine G.region ?_
    refine G.q (Quiet.move rfl) rfl ?_
    refine G.q (Quiet.move rfl) rfl ?_
    refine G.q (Quiet.as (v' := .bool false) (by simp) (Quiet.strne rfl rfl)) rfl ?_
    refine G.q (Quiet.move rfl) rfl ?_
    refine G.grun (t := 70) rfl rfl rfl ?_
    refine G.q (Quiet.move rfl) rfl ?_
    refine G.grun (t := 70) rfl rfl rfl ?_
    refine G.q (Quiet.move rfl) rfl ?_
    refine G.grun (t := 70) rfl rfl rfl ?_
    refine G.q (Quiet.as (v' := .bool false) (by simp) (Quiet.int rfl rfl rfl)) rfl ?_
    refine G.q (Quiet.pickF rfl rfl) rfl ?_
    refine G.nil ?_
    refine G.then_n ?_
    refine G.condF rfl ?_
    refine G.skip ?_
    refine G.blk_n ?_
    refine G.then_n ?_
    refine G.region ?_
    refine G.q (Quiet.move rfl) rfl ?_
    refine G.q (Quiet.add rfl rfl (by omega)) rfl ?_
    refine G.q (Quiet.assign rfl) rfl ?_
    refine G.nil ?_
    refine G.then_n ?_
    exact G.roundK (i + 1) (by omega) (by omega) ⟨rfl, rfl, rfl, trivial⟩ (by (repeat (first | exact Picks.nil | (apply Picks.cons; (repeat (first | exact Pick.here | apply Pick.there)))))) (by ((repeat (apply Have.cons; (repeat (first | exact Pick.here | apply Pick.there)))); apply Have.base; repeat (first | exact Suff.here | apply Suff.there)))
  · refine G.rkFold (x := x) (ρ := ρ) (by (repeat (first | exact Picks.nil | (apply Picks.cons; (repeat (first | exact Pick.here | apply Pick.there)))))) rfl ⟨rfl, rfl⟩ ⟨rfl, rfl⟩ ⟨rfl, rfl⟩ hok ?_
    refine G.exit ?_
    refine G.then_e ?_
    refine G.then_e ?_
    refine G.blk_e ?_
    refine G.then_n ?_
    refine G.seq ?_
    refine G.region ?_
    refine G.q (Quiet.assign rfl) rfl ?_
    refine G.nil ?_
    refine G.then_n ?_
    refine G.ret ?_
    exact G.done (l := [.tmp 4]) rfl rfl ⟨rfl, rfl⟩ (by (repeat (first | exact Picks.nil | (apply Picks.cons; (repeat (first | exact Pick.here | apply Pick.there)))))) (by (repeat (first | exact Suff.here | apply Suff.there)))

theorem Quiet.loadOp4 {P : Program} {E : Env} {L R : List HP} {ty t : TypeId} {x : Operand} {b off : Nat} {hv : Value} {o : OpZ} {p : HP} (hx : ev E x = some (.pointer (some ⟨b, off + 4, none⟩))) (hp : aggOf P t = some none) (hL : Pick p L R)
    (hr : ∀ h : Hp, p h → rdS 6 h (.slice (some ⟨b, off, none⟩) 1 1) 1 (opC hv o)) : Quiet P ⟨none, .load t x, ty, "", #[], none⟩ E L (.bool o.other) := by
  refine Quiet.loadEl (n := 6) (c := 6) (ys := opC hv o) (i := 4) hx hp hL (fun h hh => ?_) rfl
  obtain ⟨T, fr, l, hb, hl, hys, -⟩ := rdS_at (hr h hh) (by decide)
  exact .inr ⟨b, off, 6, l, T, fr, rfl, hb, hys, hl, Nat.le_refl _⟩
set_option maxRecDepth 100000 in
theorem plays_spec (one two : Int) (v2 v3 : Value) (xs : List (Value × OpZ)) (how : List Int) (p : HP) (hops : OpsRd p v2 xs) (hr3 : ∀ h : Hp, p h → rdS 1 h v3 how.length (ints how)) (hb3 : ∀ z ∈ how, -9223372036854775808 ≤ z ∧ z ≤ 9223372036854775807) : Fn Try.prog 11 #[vint one, vint two, v2, v3] [p] fun v L => v = .bool true ∧ L = [p] := by
  refine Fn.intro (vs := [vint one, vint two, v2, v3]) Try.func11 rfl rfl ?_
  intro F W
  have hcells := hops.cells
  have hopl := hops.len
  refine G.rdAny (p := p) hcells (by (repeat (first | exact Pick.here | apply Pick.there))) fun a0 c0 e _ => ?_
  subst e
  refine G.seq ?_
  refine G.region ?_
  refine G.q (Quiet.assign rfl) rfl ?_
  refine G.nil ?_
  refine G.then_n ?_
  refine G.seq ?_
  refine G.region ?_
  refine G.op (OpSpec.call Try.func47 rfl rfl (vs := []) rfl (awake3_spec)) (by (repeat (first | exact Picks.nil | (apply Picks.cons; (repeat (first | exact Pick.here | apply Pick.there)))))) rfl ?nx2
  rintro v L' ⟨rfl, rfl⟩
  refine G.q (Quiet.assign rfl) rfl ?_
  refine G.nil ?_
  refine G.then_n ?_
  refine G.seq ?_
  refine G.region ?_
  rcases Decidable.em (one < 16 ∨ 32768 < one) with ho | ho
  · refine G.q (Quiet.move rfl) rfl ?_
    refine G.op (OpSpec.call Try.func15 rfl rfl (vs := [_]) rfl (new_spec one)) (by (repeat (first | exact Picks.nil | (apply Picks.cons; (repeat (first | exact Pick.here | apply Pick.there)))))) rfl ?nx5
    rintro v L' (⟨-, rfl, rfl⟩ | ⟨h, -⟩); rotate_left; · omega
    refine G.q (Quiet.move rfl) rfl ?_
    refine G.q (Quiet.extract rfl rfl) rfl ?_
    refine G.q (Quiet.extract rfl rfl) rfl ?_
    refine G.q (Quiet.assign rfl) rfl ?_
    refine G.q (Quiet.assign rfl) rfl ?_
    refine G.nil ?_
    refine G.then_n ?_
    refine G.seq ?_
    refine G.region ?_
    rcases Decidable.em (two < 16 ∨ 32768 < two) with ht | ht
    · refine G.q (Quiet.move rfl) rfl ?_
      refine G.op (OpSpec.call Try.func15 rfl rfl (vs := [_]) rfl (new_spec two)) (by (repeat (first | exact Picks.nil | (apply Picks.cons; (repeat (first | exact Pick.here | apply Pick.there)))))) rfl ?nx10
      rintro v L' (⟨-, rfl, rfl⟩ | ⟨h, -⟩); rotate_left; · omega
      refine G.q (Quiet.move rfl) rfl ?_
      refine G.q (Quiet.extract rfl rfl) rfl ?_
      refine G.q (Quiet.extract rfl rfl) rfl ?_
      refine G.q (Quiet.assign rfl) rfl ?_
      refine G.q (Quiet.assign rfl) rfl ?_
      refine G.nil ?_
      refine G.then_n ?_
      refine G.seq ?_
      refine G.region ?_
      refine G.q (Quiet.move rfl) rfl ?_
      refine G.op (OpSpec.call Try.func16 rfl rfl (vs := [_]) rfl (rnew_spec one)) (by (repeat (first | exact Picks.nil | (apply Picks.cons; (repeat (first | exact Pick.here | apply Pick.there)))))) rfl ?nx15
      rintro v L' (⟨-, rfl, rfl⟩ | ⟨h, -⟩); rotate_left; · omega
      refine G.q (Quiet.move rfl) rfl ?_
      refine G.q (Quiet.extract rfl rfl) rfl ?_
      refine G.q (Quiet.extract rfl rfl) rfl ?_
      refine G.q (Quiet.assign rfl) rfl ?_
      refine G.q (Quiet.assign rfl) rfl ?_
      refine G.nil ?_
      refine G.then_n ?_
      refine G.seq ?_
      refine G.region ?_
      refine G.q (Quiet.move rfl) rfl ?_
      refine G.op (OpSpec.call Try.func16 rfl rfl (vs := [_]) rfl (rnew_spec two)) (by (repeat (first | exact Picks.nil | (apply Picks.cons; (repeat (first | exact Pick.here | apply Pick.there)))))) rfl ?nx20
      rintro v L' (⟨-, rfl, rfl⟩ | ⟨h, -⟩); rotate_left; · omega
      refine G.q (Quiet.move rfl) rfl ?_
      refine G.q (Quiet.extract rfl rfl) rfl ?_
      refine G.q (Quiet.extract rfl rfl) rfl ?_
      refine G.q (Quiet.assign rfl) rfl ?_
      refine G.q (Quiet.assign rfl) rfl ?_
      refine G.nil ?_
      refine G.then_n ?_
      refine G.seq ?_
      refine G.seq ?_
      refine G.region ?_
      refine G.q (Quiet.move rfl) rfl ?_
      refine G.q (Quiet.not rfl) rfl ?_
      refine G.q (Quiet.move rfl) rfl ?_
      refine G.grun (t := 47) rfl rfl rfl ?_
      refine G.q (Quiet.move rfl) rfl ?_
      refine G.grun (t := 47) rfl rfl rfl ?_
      refine G.q (Quiet.move rfl) rfl ?_
      refine G.grun (t := 47) rfl rfl rfl ?_
      refine G.q (Quiet.int rfl rfl rfl) rfl ?_
      refine G.q (Quiet.pickF rfl rfl) rfl ?_
      refine G.q (Quiet.move rfl) rfl ?_
      refine G.grun (t := 52) rfl rfl rfl ?_
      refine G.q (Quiet.move rfl) rfl ?_
      refine G.grun (t := 52) rfl rfl rfl ?_
      refine G.q (Quiet.move rfl) rfl ?_
      refine G.grun (t := 52) rfl rfl rfl ?_
      refine G.q (Quiet.int rfl rfl rfl) rfl ?_
      refine G.q (Quiet.pickF rfl rfl) rfl ?_
      refine G.q (Quiet.move rfl) rfl ?_
      refine G.grun (t := 57) rfl rfl rfl ?_
      refine G.q (Quiet.move rfl) rfl ?_
      refine G.grun (t := 57) rfl rfl rfl ?_
      refine G.q (Quiet.ptreq rfl rfl Try.underlying24) rfl ?_
      refine G.grun (t := 57) rfl rfl rfl ?_
      refine G.q (Quiet.move rfl) rfl ?_
      refine G.grun (t := 57) rfl rfl rfl ?_
      refine G.q (Quiet.ptreq rfl rfl Try.underlying28) rfl ?_
      refine G.grun (t := 57) rfl rfl rfl ?_
      refine G.q (Quiet.boolne rfl rfl Try.underlying4) rfl ?_
      refine G.q (Quiet.pickF rfl rfl) rfl ?_
      refine G.q (Quiet.move rfl) rfl ?_
      refine G.grun (t := 64) rfl rfl rfl ?_
      refine G.q (Quiet.move rfl) rfl ?_
      refine G.grun (t := 64) rfl rfl rfl ?_
      refine G.q (Quiet.ptreq rfl rfl Try.underlying24) rfl ?_
      refine G.grun (t := 64) rfl rfl rfl ?_
      refine G.q (Quiet.move rfl) rfl ?_
      refine G.grun (t := 64) rfl rfl rfl ?_
      refine G.q (Quiet.ptreq rfl rfl Try.underlying28) rfl ?_
      refine G.grun (t := 64) rfl rfl rfl ?_
      refine G.q (Quiet.boolne rfl rfl Try.underlying4) rfl ?_
      refine G.q (Quiet.pickF rfl rfl) rfl ?_
      refine G.nil ?_
      refine G.then_n ?_
      refine G.condF rfl ?_
      refine G.skip ?_
      refine G.then_n ?_
      refine G.seq ?_
      refine G.seq ?_
      refine G.region ?_
      refine G.q (Quiet.move rfl) rfl ?_
      refine G.q (Quiet.ptreq rfl rfl Try.underlying28) rfl ?_
      refine G.q (Quiet.move rfl) rfl ?_
      refine G.gskip (t := 73) rfl rfl rfl rfl ?_
      refine G.gskip (t := 73) rfl rfl rfl rfl ?_
      refine G.q (Quiet.pickT rfl rfl) rfl ?_
      refine G.nil ?_
      refine G.then_n ?_
      refine G.condT rfl ?_
      refine G.seq ?_
      refine G.region ?_
      refine G.q (Quiet.assign rfl) rfl ?_
      refine G.nil ?_
      refine G.then_n ?_
      refine G.ret ?_
      refine G.then_r ?_
      exact G.done (l := [.tmp 8]) rfl rfl ⟨rfl, rfl⟩ (by (repeat (first | exact Picks.nil | (apply Picks.cons; (repeat (first | exact Pick.here | apply Pick.there)))))) (by (repeat (first | exact Suff.here | apply Suff.there)))
    · refine G.q (Quiet.move rfl) rfl ?_
      refine G.op (OpSpec.call Try.func15 rfl rfl (vs := [_]) rfl (new_spec two)) (by (repeat (first | exact Picks.nil | (apply Picks.cons; (repeat (first | exact Pick.here | apply Pick.there)))))) rfl ?nx37
      rintro v L' (⟨h, -, -⟩ | ⟨-, d2, rfl, rfl⟩); · omega
      refine G.q (Quiet.move rfl) rfl ?_
      refine G.q (Quiet.extract rfl rfl) rfl ?_
      refine G.q (Quiet.extract rfl rfl) rfl ?_
      refine G.q (Quiet.assign rfl) rfl ?_
      refine G.q (Quiet.assign rfl) rfl ?_
      refine G.nil ?_
      refine G.then_n ?_
      refine G.seq ?_
      refine G.region ?_
      refine G.q (Quiet.move rfl) rfl ?_
      refine G.op (OpSpec.call Try.func16 rfl rfl (vs := [_]) rfl (rnew_spec one)) (by (repeat (first | exact Picks.nil | (apply Picks.cons; (repeat (first | exact Pick.here | apply Pick.there)))))) rfl ?nx42
      rintro v L' (⟨-, rfl, rfl⟩ | ⟨h, -⟩); rotate_left; · omega
      refine G.q (Quiet.move rfl) rfl ?_
      refine G.q (Quiet.extract rfl rfl) rfl ?_
      refine G.q (Quiet.extract rfl rfl) rfl ?_
      refine G.q (Quiet.assign rfl) rfl ?_
      refine G.q (Quiet.assign rfl) rfl ?_
      refine G.nil ?_
      refine G.then_n ?_
      refine G.seq ?_
      refine G.region ?_
      refine G.q (Quiet.move rfl) rfl ?_
      refine G.op (OpSpec.call Try.func16 rfl rfl (vs := [_]) rfl (rnew_spec two)) (by (repeat (first | exact Picks.nil | (apply Picks.cons; (repeat (first | exact Pick.here | apply Pick.there)))))) rfl ?nx47
      rintro v L' (⟨h, -, -⟩ | ⟨-, y, rfl, rfl⟩); · omega
      refine G.q (Quiet.move rfl) rfl ?_
      refine G.q (Quiet.extract rfl rfl) rfl ?_
      refine G.q (Quiet.extract rfl rfl) rfl ?_
      refine G.q (Quiet.assign rfl) rfl ?_
      refine G.q (Quiet.assign rfl) rfl ?_
      refine G.nil ?_
      refine G.then_n ?_
      refine G.seq ?_
      refine G.seq ?_
      refine G.region ?_
      refine G.q (Quiet.move rfl) rfl ?_
      refine G.q (Quiet.not rfl) rfl ?_
      refine G.q (Quiet.move rfl) rfl ?_
      refine G.grun (t := 47) rfl rfl rfl ?_
      refine G.q (Quiet.move rfl) rfl ?_
      refine G.grun (t := 47) rfl rfl rfl ?_
      refine G.q (Quiet.move rfl) rfl ?_
      refine G.grun (t := 47) rfl rfl rfl ?_
      refine G.q (Quiet.int rfl rfl rfl) rfl ?_
      refine G.q (Quiet.pickF rfl rfl) rfl ?_
      refine G.q (Quiet.move rfl) rfl ?_
      refine G.grun (t := 52) rfl rfl rfl ?_
      refine G.q (Quiet.move rfl) rfl ?_
      refine G.grun (t := 52) rfl rfl rfl ?_
      refine G.q (Quiet.move rfl) rfl ?_
      refine G.grun (t := 52) rfl rfl rfl ?_
      refine G.q (Quiet.int rfl rfl rfl) rfl ?_
      refine G.q (Quiet.pickF rfl rfl) rfl ?_
      refine G.q (Quiet.move rfl) rfl ?_
      refine G.grun (t := 57) rfl rfl rfl ?_
      refine G.q (Quiet.move rfl) rfl ?_
      refine G.grun (t := 57) rfl rfl rfl ?_
      refine G.q (Quiet.ptreq rfl rfl Try.underlying24) rfl ?_
      refine G.grun (t := 57) rfl rfl rfl ?_
      refine G.q (Quiet.move rfl) rfl ?_
      refine G.grun (t := 57) rfl rfl rfl ?_
      refine G.q (Quiet.ptreq rfl rfl Try.underlying28) rfl ?_
      refine G.grun (t := 57) rfl rfl rfl ?_
      refine G.q (Quiet.boolne rfl rfl Try.underlying4) rfl ?_
      refine G.q (Quiet.pickF rfl rfl) rfl ?_
      refine G.q (Quiet.move rfl) rfl ?_
      refine G.grun (t := 64) rfl rfl rfl ?_
      refine G.q (Quiet.move rfl) rfl ?_
      refine G.grun (t := 64) rfl rfl rfl ?_
      refine G.q (Quiet.ptreq rfl rfl Try.underlying24) rfl ?_
      refine G.grun (t := 64) rfl rfl rfl ?_
      refine G.q (Quiet.move rfl) rfl ?_
      refine G.grun (t := 64) rfl rfl rfl ?_
      refine G.q (Quiet.ptreq rfl rfl Try.underlying28) rfl ?_
      refine G.grun (t := 64) rfl rfl rfl ?_
      refine G.q (Quiet.boolne rfl rfl Try.underlying4) rfl ?_
      refine G.q (Quiet.pickF rfl rfl) rfl ?_
      refine G.nil ?_
      refine G.then_n ?_
      refine G.condF rfl ?_
      refine G.skip ?_
      refine G.then_n ?_
      refine G.seq ?_
      refine G.seq ?_
      refine G.region ?_
      refine G.q (Quiet.move rfl) rfl ?_
      refine G.q (Quiet.ptreq rfl rfl Try.underlying28) rfl ?_
      refine G.q (Quiet.move rfl) rfl ?_
      refine G.gskip (t := 73) rfl rfl rfl rfl ?_
      refine G.gskip (t := 73) rfl rfl rfl rfl ?_
      refine G.q (Quiet.pickT rfl rfl) rfl ?_
      refine G.nil ?_
      refine G.then_n ?_
      refine G.condT rfl ?_
      refine G.seq ?_
      refine G.region ?_
      refine G.q (Quiet.assign rfl) rfl ?_
      refine G.nil ?_
      refine G.then_n ?_
      refine G.ret ?_
      refine G.then_r ?_
      exact G.done (l := [.tmp 8]) rfl rfl ⟨rfl, rfl⟩ (by (repeat (first | exact Picks.nil | (apply Picks.cons; (repeat (first | exact Pick.here | apply Pick.there)))))) (by (repeat (first | exact Suff.here | apply Suff.there)))
  · refine G.q (Quiet.move rfl) rfl ?_
    refine G.op (OpSpec.call Try.func15 rfl rfl (vs := [_]) rfl (new_spec one)) (by (repeat (first | exact Picks.nil | (apply Picks.cons; (repeat (first | exact Pick.here | apply Pick.there)))))) rfl ?nx64
    rintro v L' (⟨h, -, -⟩ | ⟨-, d, rfl, rfl⟩); · omega
    refine G.q (Quiet.move rfl) rfl ?_
    refine G.q (Quiet.extract rfl rfl) rfl ?_
    refine G.q (Quiet.extract rfl rfl) rfl ?_
    refine G.q (Quiet.assign rfl) rfl ?_
    refine G.q (Quiet.assign rfl) rfl ?_
    refine G.nil ?_
    refine G.then_n ?_
    refine G.seq ?_
    refine G.region ?_
    rcases Decidable.em (two < 16 ∨ 32768 < two) with ht | ht
    · refine G.q (Quiet.move rfl) rfl ?_
      refine G.op (OpSpec.call Try.func15 rfl rfl (vs := [_]) rfl (new_spec two)) (by (repeat (first | exact Picks.nil | (apply Picks.cons; (repeat (first | exact Pick.here | apply Pick.there)))))) rfl ?nx69
      rintro v L' (⟨-, rfl, rfl⟩ | ⟨h, -⟩); rotate_left; · omega
      refine G.q (Quiet.move rfl) rfl ?_
      refine G.q (Quiet.extract rfl rfl) rfl ?_
      refine G.q (Quiet.extract rfl rfl) rfl ?_
      refine G.q (Quiet.assign rfl) rfl ?_
      refine G.q (Quiet.assign rfl) rfl ?_
      refine G.nil ?_
      refine G.then_n ?_
      refine G.seq ?_
      refine G.region ?_
      refine G.q (Quiet.move rfl) rfl ?_
      refine G.op (OpSpec.call Try.func16 rfl rfl (vs := [_]) rfl (rnew_spec one)) (by (repeat (first | exact Picks.nil | (apply Picks.cons; (repeat (first | exact Pick.here | apply Pick.there)))))) rfl ?nx74
      rintro v L' (⟨h, -, -⟩ | ⟨-, x, rfl, rfl⟩); · omega
      refine G.q (Quiet.move rfl) rfl ?_
      refine G.q (Quiet.extract rfl rfl) rfl ?_
      refine G.q (Quiet.extract rfl rfl) rfl ?_
      refine G.q (Quiet.assign rfl) rfl ?_
      refine G.q (Quiet.assign rfl) rfl ?_
      refine G.nil ?_
      refine G.then_n ?_
      refine G.seq ?_
      refine G.region ?_
      refine G.q (Quiet.move rfl) rfl ?_
      refine G.op (OpSpec.call Try.func16 rfl rfl (vs := [_]) rfl (rnew_spec two)) (by (repeat (first | exact Picks.nil | (apply Picks.cons; (repeat (first | exact Pick.here | apply Pick.there)))))) rfl ?nx79
      rintro v L' (⟨-, rfl, rfl⟩ | ⟨h, -⟩); rotate_left; · omega
      refine G.q (Quiet.move rfl) rfl ?_
      refine G.q (Quiet.extract rfl rfl) rfl ?_
      refine G.q (Quiet.extract rfl rfl) rfl ?_
      refine G.q (Quiet.assign rfl) rfl ?_
      refine G.q (Quiet.assign rfl) rfl ?_
      refine G.nil ?_
      refine G.then_n ?_
      refine G.seq ?_
      refine G.seq ?_
      refine G.region ?_
      refine G.q (Quiet.move rfl) rfl ?_
      refine G.q (Quiet.not rfl) rfl ?_
      refine G.q (Quiet.move rfl) rfl ?_
      refine G.grun (t := 47) rfl rfl rfl ?_
      refine G.q (Quiet.move rfl) rfl ?_
      refine G.grun (t := 47) rfl rfl rfl ?_
      refine G.q (Quiet.move rfl) rfl ?_
      refine G.grun (t := 47) rfl rfl rfl ?_
      refine G.q (Quiet.int rfl rfl rfl) rfl ?_
      refine G.q (Quiet.pickF rfl rfl) rfl ?_
      refine G.q (Quiet.move rfl) rfl ?_
      refine G.grun (t := 52) rfl rfl rfl ?_
      refine G.q (Quiet.move rfl) rfl ?_
      refine G.grun (t := 52) rfl rfl rfl ?_
      refine G.q (Quiet.move rfl) rfl ?_
      refine G.grun (t := 52) rfl rfl rfl ?_
      refine G.q (Quiet.int rfl rfl rfl) rfl ?_
      refine G.q (Quiet.pickF rfl rfl) rfl ?_
      refine G.q (Quiet.move rfl) rfl ?_
      refine G.grun (t := 57) rfl rfl rfl ?_
      refine G.q (Quiet.move rfl) rfl ?_
      refine G.grun (t := 57) rfl rfl rfl ?_
      refine G.q (Quiet.ptreq rfl rfl Try.underlying24) rfl ?_
      refine G.grun (t := 57) rfl rfl rfl ?_
      refine G.q (Quiet.move rfl) rfl ?_
      refine G.grun (t := 57) rfl rfl rfl ?_
      refine G.q (Quiet.ptreq rfl rfl Try.underlying28) rfl ?_
      refine G.grun (t := 57) rfl rfl rfl ?_
      refine G.q (Quiet.boolne rfl rfl Try.underlying4) rfl ?_
      refine G.q (Quiet.pickF rfl rfl) rfl ?_
      refine G.q (Quiet.move rfl) rfl ?_
      refine G.grun (t := 64) rfl rfl rfl ?_
      refine G.q (Quiet.move rfl) rfl ?_
      refine G.grun (t := 64) rfl rfl rfl ?_
      refine G.q (Quiet.ptreq rfl rfl Try.underlying24) rfl ?_
      refine G.grun (t := 64) rfl rfl rfl ?_
      refine G.q (Quiet.move rfl) rfl ?_
      refine G.grun (t := 64) rfl rfl rfl ?_
      refine G.q (Quiet.ptreq rfl rfl Try.underlying28) rfl ?_
      refine G.grun (t := 64) rfl rfl rfl ?_
      refine G.q (Quiet.boolne rfl rfl Try.underlying4) rfl ?_
      refine G.q (Quiet.pickF rfl rfl) rfl ?_
      refine G.nil ?_
      refine G.then_n ?_
      refine G.condF rfl ?_
      refine G.skip ?_
      refine G.then_n ?_
      refine G.seq ?_
      refine G.seq ?_
      refine G.region ?_
      refine G.q (Quiet.move rfl) rfl ?_
      refine G.q (Quiet.ptreq rfl rfl Try.underlying28) rfl ?_
      refine G.q (Quiet.move rfl) rfl ?_
      refine G.grun (t := 73) rfl rfl rfl ?_
      refine G.q (Quiet.move rfl) rfl ?_
      refine G.grun (t := 73) rfl rfl rfl ?_
      refine G.q (Quiet.ptreq rfl rfl Try.underlying28) rfl ?_
      refine G.q (Quiet.pickF rfl rfl) rfl ?_
      refine G.nil ?_
      refine G.then_n ?_
      refine G.condT rfl ?_
      refine G.seq ?_
      refine G.region ?_
      refine G.q (Quiet.assign rfl) rfl ?_
      refine G.nil ?_
      refine G.then_n ?_
      refine G.ret ?_
      refine G.then_r ?_
      exact G.done (l := [.tmp 8]) rfl rfl ⟨rfl, rfl⟩ (by (repeat (first | exact Picks.nil | (apply Picks.cons; (repeat (first | exact Pick.here | apply Pick.there)))))) (by (repeat (first | exact Suff.here | apply Suff.there)))
    · refine G.q (Quiet.move rfl) rfl ?_
      refine G.op (OpSpec.call Try.func15 rfl rfl (vs := [_]) rfl (new_spec two)) (by (repeat (first | exact Picks.nil | (apply Picks.cons; (repeat (first | exact Pick.here | apply Pick.there)))))) rfl ?nx96
      rintro v L' (⟨h, -, -⟩ | ⟨-, d2, rfl, rfl⟩); · omega
      refine G.q (Quiet.move rfl) rfl ?_
      refine G.q (Quiet.extract rfl rfl) rfl ?_
      refine G.q (Quiet.extract rfl rfl) rfl ?_
      refine G.q (Quiet.assign rfl) rfl ?_
      refine G.q (Quiet.assign rfl) rfl ?_
      refine G.nil ?_
      refine G.then_n ?_
      refine G.seq ?_
      refine G.region ?_
      refine G.q (Quiet.move rfl) rfl ?_
      refine G.op (OpSpec.call Try.func16 rfl rfl (vs := [_]) rfl (rnew_spec one)) (by (repeat (first | exact Picks.nil | (apply Picks.cons; (repeat (first | exact Pick.here | apply Pick.there)))))) rfl ?nx101
      rintro v L' (⟨h, -, -⟩ | ⟨-, x, rfl, rfl⟩); · omega
      refine G.q (Quiet.move rfl) rfl ?_
      refine G.q (Quiet.extract rfl rfl) rfl ?_
      refine G.q (Quiet.extract rfl rfl) rfl ?_
      refine G.q (Quiet.assign rfl) rfl ?_
      refine G.q (Quiet.assign rfl) rfl ?_
      refine G.nil ?_
      refine G.then_n ?_
      refine G.seq ?_
      refine G.region ?_
      refine G.q (Quiet.move rfl) rfl ?_
      refine G.op (OpSpec.call Try.func16 rfl rfl (vs := [_]) rfl (rnew_spec two)) (by (repeat (first | exact Picks.nil | (apply Picks.cons; (repeat (first | exact Pick.here | apply Pick.there)))))) rfl ?nx106
      rintro v L' (⟨h, -, -⟩ | ⟨-, y, rfl, rfl⟩); · omega
      refine G.q (Quiet.move rfl) rfl ?_
      refine G.q (Quiet.extract rfl rfl) rfl ?_
      refine G.q (Quiet.extract rfl rfl) rfl ?_
      refine G.q (Quiet.assign rfl) rfl ?_
      refine G.q (Quiet.assign rfl) rfl ?_
      refine G.nil ?_
      refine G.then_n ?_
      refine G.seq ?_
      refine G.seq ?_
      refine G.region ?_
      refine G.q (Quiet.move rfl) rfl ?_
      refine G.q (Quiet.not rfl) rfl ?_
      refine G.q (Quiet.move rfl) rfl ?_
      refine G.grun (t := 47) rfl rfl rfl ?_
      refine G.q (Quiet.move rfl) rfl ?_
      refine G.grun (t := 47) rfl rfl rfl ?_
      refine G.q (Quiet.move rfl) rfl ?_
      refine G.grun (t := 47) rfl rfl rfl ?_
      refine G.q (Quiet.int rfl rfl rfl) rfl ?_
      refine G.q (Quiet.pickF rfl rfl) rfl ?_
      refine G.q (Quiet.move rfl) rfl ?_
      refine G.grun (t := 52) rfl rfl rfl ?_
      refine G.q (Quiet.move rfl) rfl ?_
      refine G.grun (t := 52) rfl rfl rfl ?_
      refine G.q (Quiet.move rfl) rfl ?_
      refine G.grun (t := 52) rfl rfl rfl ?_
      refine G.q (Quiet.int rfl rfl rfl) rfl ?_
      refine G.q (Quiet.pickF rfl rfl) rfl ?_
      refine G.q (Quiet.move rfl) rfl ?_
      refine G.grun (t := 57) rfl rfl rfl ?_
      refine G.q (Quiet.move rfl) rfl ?_
      refine G.grun (t := 57) rfl rfl rfl ?_
      refine G.q (Quiet.ptreq rfl rfl Try.underlying24) rfl ?_
      refine G.grun (t := 57) rfl rfl rfl ?_
      refine G.q (Quiet.move rfl) rfl ?_
      refine G.grun (t := 57) rfl rfl rfl ?_
      refine G.q (Quiet.ptreq rfl rfl Try.underlying28) rfl ?_
      refine G.grun (t := 57) rfl rfl rfl ?_
      refine G.q (Quiet.boolne rfl rfl Try.underlying4) rfl ?_
      refine G.q (Quiet.pickF rfl rfl) rfl ?_
      refine G.q (Quiet.move rfl) rfl ?_
      refine G.grun (t := 64) rfl rfl rfl ?_
      refine G.q (Quiet.move rfl) rfl ?_
      refine G.grun (t := 64) rfl rfl rfl ?_
      refine G.q (Quiet.ptreq rfl rfl Try.underlying24) rfl ?_
      refine G.grun (t := 64) rfl rfl rfl ?_
      refine G.q (Quiet.move rfl) rfl ?_
      refine G.grun (t := 64) rfl rfl rfl ?_
      refine G.q (Quiet.ptreq rfl rfl Try.underlying28) rfl ?_
      refine G.grun (t := 64) rfl rfl rfl ?_
      refine G.q (Quiet.boolne rfl rfl Try.underlying4) rfl ?_
      refine G.q (Quiet.pickF rfl rfl) rfl ?_
      refine G.nil ?_
      refine G.then_n ?_
      refine G.condF rfl ?_
      refine G.skip ?_
      refine G.then_n ?_
      refine G.seq ?_
      refine G.seq ?_
      refine G.region ?_
      refine G.q (Quiet.move rfl) rfl ?_
      refine G.q (Quiet.ptreq rfl rfl Try.underlying28) rfl ?_
      refine G.q (Quiet.move rfl) rfl ?_
      refine G.grun (t := 73) rfl rfl rfl ?_
      refine G.q (Quiet.move rfl) rfl ?_
      refine G.grun (t := 73) rfl rfl rfl ?_
      refine G.q (Quiet.ptreq rfl rfl Try.underlying28) rfl ?_
      refine G.q (Quiet.pickF rfl rfl) rfl ?_
      refine G.nil ?_
      refine G.then_n ?_
      refine G.condF rfl ?_
      refine G.skip ?_
      refine G.then_n ?_
      refine G.seq ?_
      refine G.seq ?_
      refine G.region ?_
      refine G.q (Quiet.assign rfl) rfl ?_
      refine G.nil ?_
      refine G.then_n ?_
      refine G.block ?_
      refine G.loopK (ι := Nat × Dk × Rk × Dk × Rk) (fun q E => (18, vint q.1) :: E) (fun q => [dkR d q.2.1, dkR d2 q.2.2.2.1, rkR x q.2.2.1, rkR y q.2.2.2.2, p]) (fun q => q.1 ≤ xs.length ∧ RunB q.2.1 q.2.2.1 q.1 ∧ RunB q.2.2.2.1 q.2.2.2.2 q.1) (fun q => xs.length - q.1) (0, Dk.new one, Rk.new one.toNat, Dk.new two, Rk.new two.toNat) (ts := [2, 3, 10, 12, 14, 16]) (.cons rfl (.cons rfl (.cons rfl (.cons rfl (.cons rfl (.cons rfl (.nil))))))) (⟨Nat.zero_le _, RunB.start (by omega), RunB.start (by omega)⟩) ⟨rfl, rfl, rfl, rfl, rfl, rfl, rfl, trivial⟩ (by (repeat (first | exact Picks.nil | (apply Picks.cons; (repeat (first | exact Pick.here | apply Pick.there)))))) ?_
      rintro ⟨i, δ1, ρ1, δ2, ρ2⟩ ⟨hi, h1, h2⟩
      dsimp only
      dsimp only at hi h1 h2
      refine G.seq ?_
      refine G.seq ?_
      refine G.region ?_
      refine G.q (Quiet.move rfl) rfl ?_
      refine G.q (Quiet.move rfl) rfl ?_
      refine G.q (Quiet.slen rfl Try.underlying85 rfl) rfl ?_
      refine G.q (Quiet.int rfl rfl rfl) rfl ?_
      refine G.nil ?_
      refine G.then_n ?_
      refine G.condD rfl (fun h80 => ?_) (fun h80 => ?_)
      · have hi2 : i < xs.length := by omega
        refine G.rdShape (p := p) hcells (by (repeat (first | exact Pick.here | apply Pick.there))) (by omega) fun bh oh e => ?_
        subst e
        have hac1 := h1.acts
        have hN1 := h1.N
        have hac2 := h2.acts
        have hN2 := h2.N
        have hst1 := h1.rel.step (by omega) xs[i].2 (hops.fit _ (List.getElem_mem hi2)).1
        have hst2 := h2.rel.step (by omega) xs[i].2 (hops.fit _ (List.getElem_mem hi2)).1
        refine G.skip ?_
        refine G.then_n ?_
        refine G.seq ?_
        refine G.block ?_
        refine G.seq ?_
        refine G.region ?_
        refine G.q (Quiet.assign rfl) rfl ?_
        refine G.nil ?_
        refine G.then_n ?_
        refine G.seq ?_
        refine G.seq ?_
        refine G.region ?_
        refine G.q (Quiet.move rfl) rfl ?_
        refine G.q (Quiet.move rfl) rfl ?_
        refine G.q (Quiet.indexAddr rfl rfl el_85 (by omega)) rfl ?_
        refine G.q (Quiet.fieldAddr rfl fo_87_4) rfl ?_
        refine G.q (Quiet.loadOp4 rfl rfl (by (repeat (first | exact Pick.here | apply Pick.there))) (hops.at hi2)) rfl ?_
        refine G.nil ?_
        refine G.then_n ?_
        refine G.condB rfl (fun h87 => ?_) (fun h87 => ?_)
        · refine G.region ?_
          refine G.q (Quiet.move rfl) rfl ?_
          refine G.q (Quiet.move rfl) rfl ?_
          refine G.q (Quiet.move rfl) rfl ?_
          refine G.q (Quiet.move rfl) rfl ?_
          refine G.q (Quiet.indexAddr rfl rfl el_85 (by omega)) rfl ?_
          refine G.q (Quiet.loadAr (p := p) (vs := opC xs[i].1 xs[i].2) (m := 1) (c := 1) rfl ag_87 (by (repeat (first | exact Pick.here | apply Pick.there))) (hops.at hi2) (by decide) rfl) rfl ?_
          refine G.op (OpSpec.call Try.func56 rfl rfl (vs := [_, _, _]) rfl (step_spec d2 y δ2 ρ2 xs[i].1 xs[i].2 p (hops.hows _ (List.getElem_mem hi2)) (hops.bnd _ (List.getElem_mem hi2)) ⟨?hq1138, ⟨?hq2139, ?hq3140⟩, (hops.fit _ (List.getElem_mem hi2)).1, (hops.fit _ (List.getElem_mem hi2)).2⟩)) (by (repeat (first | exact Picks.nil | (apply Picks.cons; (repeat (first | exact Pick.here | apply Pick.there)))))) rfl ?nx141
          case hq1138 => omega
          case hq2139 => omega
          case hq3140 => omega
          rintro v L' ⟨rfl, rfl⟩; rw [hst2.1]
          refine G.q (Quiet.assign rfl) rfl ?_
          refine G.nil ?_
          refine G.then_n ?_
          refine G.seq ?_
          refine G.region ?_
          refine G.q (Quiet.move rfl) rfl ?_
          refine G.q (Quiet.not rfl) rfl ?_
          refine G.nil ?_
          refine G.then_n ?_
          refine G.condF rfl ?_
          refine G.skip ?_
          refine G.blk_n ?_
          refine G.then_n ?_
          refine G.region ?_
          refine G.q (Quiet.move rfl) rfl ?_
          refine G.q (Quiet.add rfl rfl (by omega)) rfl ?_
          refine G.q (Quiet.assign rfl) rfl ?_
          refine G.nil ?_
          refine G.then_n ?_
          exact G.roundK ((i + 1, δ1, ρ1, δ2.step xs[i].2, ρ2.step xs[i].2)) (⟨by dsimp only; omega, h1.next, h2.step _ hst2.2⟩) (by dsimp only; omega) ⟨rfl, rfl, rfl, rfl, rfl, rfl, rfl, trivial⟩ (by (repeat (first | exact Picks.nil | (apply Picks.cons; (repeat (first | exact Pick.here | apply Pick.there)))))) (by ((repeat (apply Have.cons; (repeat (first | exact Pick.here | apply Pick.there)))); apply Have.base; repeat (first | exact Suff.here | apply Suff.there)))
        · refine G.region ?_
          refine G.q (Quiet.move rfl) rfl ?_
          refine G.q (Quiet.move rfl) rfl ?_
          refine G.q (Quiet.move rfl) rfl ?_
          refine G.q (Quiet.move rfl) rfl ?_
          refine G.q (Quiet.indexAddr rfl rfl el_85 (by omega)) rfl ?_
          refine G.q (Quiet.loadAr (p := p) (vs := opC xs[i].1 xs[i].2) (m := 1) (c := 1) rfl ag_87 (by (repeat (first | exact Pick.here | apply Pick.there))) (hops.at hi2) (by decide) rfl) rfl ?_
          refine G.op (OpSpec.call Try.func56 rfl rfl (vs := [_, _, _]) rfl (step_spec d x δ1 ρ1 xs[i].1 xs[i].2 p (hops.hows _ (List.getElem_mem hi2)) (hops.bnd _ (List.getElem_mem hi2)) ⟨?hq1152, ⟨?hq2153, ?hq3154⟩, (hops.fit _ (List.getElem_mem hi2)).1, (hops.fit _ (List.getElem_mem hi2)).2⟩)) (by (repeat (first | exact Picks.nil | (apply Picks.cons; (repeat (first | exact Pick.here | apply Pick.there)))))) rfl ?nx155
          case hq1152 => omega
          case hq2153 => omega
          case hq3154 => omega
          rintro v L' ⟨rfl, rfl⟩; rw [hst1.1]
          refine G.q (Quiet.assign rfl) rfl ?_
          refine G.nil ?_
          refine G.then_n ?_
          refine G.seq ?_
          refine G.region ?_
          refine G.q (Quiet.move rfl) rfl ?_
          refine G.q (Quiet.not rfl) rfl ?_
          refine G.nil ?_
          refine G.then_n ?_
          refine G.condF rfl ?_
          refine G.skip ?_
          refine G.blk_n ?_
          refine G.then_n ?_
          refine G.region ?_
          refine G.q (Quiet.move rfl) rfl ?_
          refine G.q (Quiet.add rfl rfl (by omega)) rfl ?_
          refine G.q (Quiet.assign rfl) rfl ?_
          refine G.nil ?_
          refine G.then_n ?_
          exact G.roundK ((i + 1, δ1.step xs[i].2, ρ1.step xs[i].2, δ2, ρ2)) (⟨by dsimp only; omega, h1.step _ hst1.2, h2.next⟩) (by dsimp only; omega) ⟨rfl, rfl, rfl, rfl, rfl, rfl, rfl, trivial⟩ (by (repeat (first | exact Picks.nil | (apply Picks.cons; (repeat (first | exact Pick.here | apply Pick.there)))))) (by ((repeat (apply Have.cons; (repeat (first | exact Pick.here | apply Pick.there)))); apply Have.base; repeat (first | exact Suff.here | apply Suff.there)))
      · have hr1 := h1.rel
        have hr2 := h2.rel
        have hc1 := hr1.crash how
        refine G.exit ?_
        refine G.then_e ?_
        refine G.then_e ?_
        refine G.blk_e ?_
        refine G.then_n ?_
        refine G.seq ?_
        refine G.region ?_
        refine G.q (Quiet.move rfl) rfl ?_
        refine G.q (Quiet.move rfl) rfl ?_
        refine G.op (OpSpec.call Try.func57 rfl rfl (vs := [_, _]) rfl (alike_spec _ _ _ _ ?hrel162)) (by (repeat (first | exact Picks.nil | (apply Picks.cons; (repeat (first | exact Pick.here | apply Pick.there)))))) rfl ?nx163
        case hrel162 => assumption
        rintro v L' ⟨rfl, rfl⟩
        refine G.q (Quiet.assign rfl) rfl ?_
        refine G.nil ?_
        refine G.then_n ?_
        refine G.seq ?_
        refine G.region ?_
        refine G.q (Quiet.move rfl) rfl ?_
        refine G.q (Quiet.move rfl) rfl ?_
        refine G.op (OpSpec.call Try.func57 rfl rfl (vs := [_, _]) rfl (alike_spec _ _ _ _ ?hrel167)) (by (repeat (first | exact Picks.nil | (apply Picks.cons; (repeat (first | exact Pick.here | apply Pick.there)))))) rfl ?nx168
        case hrel167 => assumption
        rintro v L' ⟨rfl, rfl⟩
        refine G.q (Quiet.assign rfl) rfl ?_
        refine G.nil ?_
        refine G.then_n ?_
        refine G.seq ?_
        refine G.region ?_
        refine G.q (Quiet.move rfl) rfl ?_
        refine G.q (Quiet.move rfl) rfl ?_
        refine G.op (OpSpec.call Try.func53 rfl rfl (vs := [_, _]) rfl (crash_spec d δ1 v3 how p hr3 hb3)) (by (repeat (first | exact Picks.nil | (apply Picks.cons; (repeat (first | exact Pick.here | apply Pick.there)))))) rfl ?nx172
        rintro v L' ⟨rfl, rfl⟩
        refine G.nil ?_
        refine G.then_n ?_
        refine G.seq ?_
        refine G.region ?_
        refine G.q (Quiet.move rfl) rfl ?_
        refine G.q (Quiet.move rfl) rfl ?_
        refine G.op (OpSpec.call Try.func58 rfl rfl (vs := [_, _]) rfl (rcrash_spec x ρ1 v3 how p hr3 hb3)) (by (repeat (first | exact Picks.nil | (apply Picks.cons; (repeat (first | exact Pick.here | apply Pick.there)))))) rfl ?nx176
        rintro v L' ⟨rfl, rfl⟩
        refine G.nil ?_
        refine G.then_n ?_
        refine G.seq ?_
        refine G.region ?_
        refine G.q (Quiet.move rfl) rfl ?_
        refine G.q (Quiet.move rfl) rfl ?_
        refine G.op (OpSpec.call Try.func57 rfl rfl (vs := [_, _]) rfl (alike_spec _ _ _ _ ?hrel180)) (by (repeat (first | exact Picks.nil | (apply Picks.cons; (repeat (first | exact Pick.here | apply Pick.there)))))) rfl ?nx181
        case hrel180 => assumption
        rintro v L' ⟨rfl, rfl⟩
        refine G.q (Quiet.assign rfl) rfl ?_
        refine G.nil ?_
        refine G.then_n ?_
        refine G.seq ?_
        refine G.region ?_
        refine G.q (Quiet.move rfl) rfl ?_
        refine G.q (Quiet.move rfl) rfl ?_
        refine G.op (OpSpec.call Try.func57 rfl rfl (vs := [_, _]) rfl (alike_spec _ _ _ _ ?hrel185)) (by (repeat (first | exact Picks.nil | (apply Picks.cons; (repeat (first | exact Pick.here | apply Pick.there)))))) rfl ?nx186
        case hrel185 => assumption
        rintro v L' ⟨rfl, rfl⟩
        refine G.q (Quiet.assign rfl) rfl ?_
        refine G.nil ?_
        refine G.then_n ?_
        refine G.seq ?_
        refine G.region ?_
        refine G.q (Quiet.move rfl) rfl ?_
        refine G.q (Quiet.move rfl) rfl ?_
        refine G.grun (t := 123) rfl rfl rfl ?_
        refine G.q (Quiet.move rfl) rfl ?_
        refine G.q (Quiet.pickT rfl rfl) rfl ?_
        refine G.q (Quiet.move rfl) rfl ?_
        refine G.grun (t := 126) rfl rfl rfl ?_
        refine G.q (Quiet.move rfl) rfl ?_
        refine G.q (Quiet.pickT rfl rfl) rfl ?_
        refine G.q (Quiet.move rfl) rfl ?_
        refine G.grun (t := 129) rfl rfl rfl ?_
        refine G.q (Quiet.move rfl) rfl ?_
        refine G.q (Quiet.pickT rfl rfl) rfl ?_
        refine G.q (Quiet.assign rfl) rfl ?_
        refine G.nil ?_
        refine G.then_n ?_
        refine G.ret ?_
        exact G.done (l := [.tmp 8]) rfl rfl ⟨rfl, rfl⟩ (by (repeat (first | exact Picks.nil | (apply Picks.cons; (repeat (first | exact Pick.here | apply Pick.there)))))) (by (repeat (first | exact Suff.here | apply Suff.there)))

end Go.Proofs.Ytepncdidkjjllaa
