/- Own work, by program: the document's disk, function by function. -/
import Derived.Test.YtepncdidkjjllaaRk
namespace Go.Proofs.Ytepncdidkjjllaa
open Go
set_option maxRecDepth 100000 in
theorem zeros_spec : Fn Try.prog 62 #[] [] fun v L => v = vstr zs ∧ L = [] := by
  refine Fn.intro (vs := []) Try.func62 rfl rfl ?_
  intro F W
  refine G.seq ?_
  refine G.region ?_
  refine G.q (Quiet.assign rfl) rfl ?_
  refine G.nil ?_
  refine G.then_n ?_
  refine G.seq ?_
  refine G.region ?_
  refine G.op (OpSpec.make rfl rfl el_31 ze_5 rfl ⟨by simp, by simp; rfl⟩ ?c2) (by (repeat (first | exact Picks.nil | (apply Picks.cons; (repeat (first | exact Pick.here | apply Pick.there)))))) rfl ?nx3
  case c2 => omega
  rintro v L' ⟨b1_0, rfl, rfl⟩
  refine G.q (Quiet.bytesPt (cs := zs) rfl Try.underlying31 Try.underlying5 Try.underlying9 (by (repeat (first | exact Pick.here | apply Pick.there))) (by show (List.drop 0 (List.replicate (64 * 1) _)).take 64 = _; rw [List.drop_zero]; rfl) (by simp) (by decide)) rfl ?_
  refine G.q (Quiet.assign rfl) rfl ?_
  refine G.nil ?_
  refine G.then_n ?_
  refine G.ret ?_
  exact G.done (l := [.tmp 0]) rfl rfl ⟨rfl, rfl⟩ (by (repeat (first | exact Picks.nil | (apply Picks.cons; (repeat (first | exact Pick.here | apply Pick.there)))))) (by (repeat (first | exact Suff.here | apply Suff.there)))

set_option maxRecDepth 100000 in
theorem ract_spec (x : Nat) (vL vO vP : Value) (N At : Int) (Gone : Bool) (hN : 0 ≤ N ∧ N < 4611686018427387904) : Fn Try.prog 65 #[vptr x] [rkC x vL vO vP N At Gone] fun v L => v = .bool (if At > 0 ∧ N + 1 = At then true else Gone) ∧ L = [rkC x vL vO vP (N + 1) At (if At > 0 ∧ N + 1 = At then true else Gone)] := by
  refine Fn.intro (vs := [vptr x]) Try.func65 rfl rfl ?_
  intro F W
  refine G.seq ?_
  refine G.region ?_
  refine G.q (Quiet.assign rfl) rfl ?_
  refine G.nil ?_
  refine G.then_n ?_
  refine G.seq ?_
  refine G.region ?_
  refine G.q (Quiet.move rfl) rfl ?_
  refine G.q (Quiet.nilp rfl) rfl ?_
  refine G.q (Quiet.fieldAddr rfl fo_102_3) rfl ?_
  refine G.q (Quiet.load rfl ag_3 (by (repeat (first | exact Pick.here | apply Pick.there))) (rfl)) rfl ?_
  refine G.q (Quiet.add rfl rfl (by omega)) rfl ?_
  refine G.q (Quiet.nilp rfl) rfl ?_
  refine G.q (Quiet.fieldAddr rfl fo_102_3) rfl ?_
  refine G.op (OpSpec.store rfl rfl rfl sz_3 ?c9 ?c10) (by (repeat (first | exact Picks.nil | (apply Picks.cons; (repeat (first | exact Pick.here | apply Pick.there)))))) rfl ?nx11
  case c9 => first | decide | (simp; omega) | simp
  case c10 => exact nfz0 _ _
  rintro v L' rfl
  refine G.nil ?_
  refine G.then_n ?_
  refine G.seq ?_
  refine G.seq ?_
  refine G.draw [] [[0, 1, 2, 3, 4, 5, 6, 7, 8, 9, 10, 11, 12, 13, 14, 15]] mixed (by kernel_rfl) ?_
  refine Phases.go [] (by (repeat (first | exact Picks.nil | (apply Picks.cons; (repeat (first | exact Pick.here | apply Pick.there)))))) ?_
  refine D.qw [1, 2, 3, 4, 5, 6, 7, 8, 9, 10, 11, 12, 13, 14, 15] rfl (by kernel_rfl) (Quiet.move rfl) ?_
  refine D.qw [2, 3, 4, 5, 6, 7, 8, 9, 10, 11, 12, 13, 14, 15] rfl (by kernel_rfl) (Quiet.nilp rfl) ?_
  refine D.qw [3, 4, 5, 6, 7, 8, 9, 10, 11, 12, 13, 14, 15] rfl (by kernel_rfl) (Quiet.fieldAddr rfl fo_102_4) ?_
  refine D.qw [4, 5, 6, 7, 8, 9, 10, 11, 12, 13, 14, 15] rfl (by kernel_rfl) (Quiet.load rfl ag_3 (by (repeat (first | exact Pick.here | apply Pick.there))) (rfl)) ?_
  refine D.qw [5, 6, 7, 8, 9, 10, 11, 12, 13, 14, 15] rfl (by kernel_rfl) (Quiet.int rfl rfl rfl) ?_
  refine D.qw [6, 7, 8, 9, 10, 11, 12, 13, 14, 15] rfl (by kernel_rfl) (Quiet.move rfl) ?_
  refine D.dec (t := 15) rfl (fun h2_15 => ?_) (fun h2_15 => ?_)
  · refine D.kDT (t := 14) rfl h2_15 ?_
    refine D.gqw [7, 8, 9, 14, 15] (t := 15) rfl rfl rfl (by kernel_rfl) (Quiet.move rfl) ?_
    refine D.gqw [8, 9, 14, 15] (t := 15) rfl rfl rfl (by kernel_rfl) (Quiet.nilp rfl) ?_
    refine D.gqw [9, 14, 15] (t := 15) rfl rfl rfl (by kernel_rfl) (Quiet.fieldAddr rfl fo_102_3) ?_
    refine D.gqw [14, 15] (t := 15) rfl rfl rfl (by kernel_rfl) (Quiet.load rfl ag_3 (by (repeat (first | exact Pick.here | apply Pick.there))) (rfl)) ?_
    refine D.gqw [11, 12, 13, 14, 15] (t := 15) rfl rfl rfl (by kernel_rfl) (Quiet.move rfl) ?_
    refine D.gqw [12, 13, 14, 15] (t := 15) rfl rfl rfl (by kernel_rfl) (Quiet.nilp rfl) ?_
    refine D.gqw [13, 14, 15] (t := 15) rfl rfl rfl (by kernel_rfl) (Quiet.fieldAddr rfl fo_102_4) ?_
    refine D.gqw [14, 15] (t := 15) rfl rfl rfl (by kernel_rfl) (Quiet.load rfl ag_3 (by (repeat (first | exact Pick.here | apply Pick.there))) (rfl)) ?_
    refine D.gqw [15] (t := 15) rfl rfl rfl (by kernel_rfl) (Quiet.int rfl rfl rfl) ?_
    refine D.qw [] rfl (by kernel_rfl) (Quiet.pickT rfl rfl) ?_
    refine D.ph ?_
    refine Phases.fin ?_
    refine G.then_n ?_
    refine G.condD rfl (fun h25 => ?_) (fun h25 => ?_)
    · refine G.region ?_
      refine G.q (Quiet.move rfl) rfl ?_
      refine G.q (Quiet.nilp rfl) rfl ?_
      refine G.q (Quiet.fieldAddr rfl fo_102_5) rfl ?_
      refine G.op (OpSpec.store rfl rfl rfl sz_4 ?c29 ?c30) (by (repeat (first | exact Picks.nil | (apply Picks.cons; (repeat (first | exact Pick.here | apply Pick.there)))))) rfl ?nx31
      case c29 => first | decide | (simp; omega) | simp
      case c30 => exact nfz0 _ _
      rintro v L' rfl
      refine G.nil ?_
      refine G.then_n ?_
      refine G.seq ?_
      refine G.region ?_
      refine G.q (Quiet.move rfl) rfl ?_
      refine G.q (Quiet.nilp rfl) rfl ?_
      refine G.q (Quiet.fieldAddr rfl fo_102_5) rfl ?_
      refine G.q (Quiet.load rfl ag_4 (by (repeat (first | exact Pick.here | apply Pick.there))) (rfl)) rfl ?_
      refine G.q (Quiet.assign rfl) rfl ?_
      refine G.nil ?_
      refine G.then_n ?_
      refine G.ret ?_
      rw [if_pos ⟨by omega, by omega⟩]
      exact G.done (l := [.tmp 2]) rfl rfl ⟨rfl, rfl⟩ (by (repeat (first | exact Picks.nil | (apply Picks.cons; (repeat (first | exact Pick.here | apply Pick.there)))))) (by (repeat (first | exact Suff.here | apply Suff.there)))
    · refine G.skip ?_
      refine G.then_n ?_
      refine G.seq ?_
      refine G.region ?_
      refine G.q (Quiet.move rfl) rfl ?_
      refine G.q (Quiet.nilp rfl) rfl ?_
      refine G.q (Quiet.fieldAddr rfl fo_102_5) rfl ?_
      refine G.q (Quiet.load rfl ag_4 (by (repeat (first | exact Pick.here | apply Pick.there))) (rfl)) rfl ?_
      refine G.q (Quiet.assign rfl) rfl ?_
      refine G.nil ?_
      refine G.then_n ?_
      refine G.ret ?_
      rw [if_neg (by omega)]
      exact G.done (l := [.tmp 2]) rfl rfl ⟨rfl, rfl⟩ (by (repeat (first | exact Picks.nil | (apply Picks.cons; (repeat (first | exact Pick.here | apply Pick.there)))))) (by (repeat (first | exact Suff.here | apply Suff.there)))
  · refine D.kDF (t := 14) rfl h2_15 ?_
    refine D.gs (t := 15) rfl rfl rfl rfl (by kernel_rfl) ?_
    refine D.gs (t := 15) rfl rfl rfl rfl (by kernel_rfl) ?_
    refine D.gs (t := 15) rfl rfl rfl rfl (by kernel_rfl) ?_
    refine D.gs (t := 15) rfl rfl rfl rfl (by kernel_rfl) ?_
    refine D.gs (t := 15) rfl rfl rfl rfl (by kernel_rfl) ?_
    refine D.gs (t := 15) rfl rfl rfl rfl (by kernel_rfl) ?_
    refine D.gs (t := 15) rfl rfl rfl rfl (by kernel_rfl) ?_
    refine D.gs (t := 15) rfl rfl rfl rfl (by kernel_rfl) ?_
    refine D.gs (t := 15) rfl rfl rfl rfl (by kernel_rfl) ?_
    refine D.qw [] rfl (by kernel_rfl) (Quiet.pickF rfl rfl) ?_
    refine D.ph ?_
    refine Phases.fin ?_
    refine G.then_n ?_
    refine G.condF rfl ?_
    refine G.skip ?_
    refine G.then_n ?_
    refine G.seq ?_
    refine G.region ?_
    refine G.q (Quiet.move rfl) rfl ?_
    refine G.q (Quiet.nilp rfl) rfl ?_
    refine G.q (Quiet.fieldAddr rfl fo_102_5) rfl ?_
    refine G.q (Quiet.load rfl ag_4 (by (repeat (first | exact Pick.here | apply Pick.there))) (rfl)) rfl ?_
    refine G.q (Quiet.assign rfl) rfl ?_
    refine G.nil ?_
    refine G.then_n ?_
    refine G.ret ?_
    rw [if_neg (by omega)]
    exact G.done (l := [.tmp 2]) rfl rfl ⟨rfl, rfl⟩ (by (repeat (first | exact Picks.nil | (apply Picks.cons; (repeat (first | exact Pick.here | apply Pick.there)))))) (by (repeat (first | exact Suff.here | apply Suff.there)))

set_option maxRecDepth 100000 in
theorem rwrite_spec (x : Nat) (ρ : Rk) (n : Int) (s : List UInt8) (hN : 0 ≤ ρ.N ∧ ρ.N < 4611686018427387904) : Fn Try.prog 18 #[vptr x, vint n, vstr s] [rkR x ρ] fun v L => v = vint (ρ.write n s).2 ∧ L = [rkR x (ρ.write n s).1] := by
  refine Fn.intro (vs := [vptr x, vint n, vstr s]) Try.func18 rfl rfl ?_
  intro F W
  refine G.rkOpen .here fun vL vO vP hok => ?_
  refine G.slAny (v := vL) (by (repeat (first | exact Pick.here | apply Pick.there))) fun aL cL e lL => ?_
  subst e
  refine G.slAny (v := vP) (by (repeat (first | exact Pick.here | apply Pick.there))) fun aP cP e lP => ?_
  subst e
  refine G.seq ?_
  refine G.region ?_
  refine G.q (Quiet.assign rfl) rfl ?_
  refine G.nil ?_
  refine G.then_n ?_
  refine G.seq ?_
  refine G.seq ?_
  refine G.region ?_
  refine G.q (Quiet.move rfl) rfl ?_
  refine G.q (Quiet.nilp rfl) rfl ?_
  refine G.q (Quiet.fieldAddr rfl fo_102_5) rfl ?_
  refine G.q (Quiet.load rfl ag_4 (by (repeat (first | exact Pick.here | apply Pick.there))) (rfl)) rfl ?_
  refine G.nil ?_
  refine G.then_n ?_
  refine G.condB rfl (fun h11 => ?_) (fun h11 => ?_)
  · refine G.seq ?_
    refine G.region ?_
    refine G.q (Quiet.assign rfl) rfl ?_
    refine G.nil ?_
    refine G.then_n ?_
    refine G.ret ?_
    refine G.then_r ?_
    have e : ρ.write n s = (ρ, 2) := by unfold Rk.write; simp only [h11, if_true]
    rw [e]
    refine G.rkFold (ρ := ρ) (by (repeat (first | exact Picks.nil | (apply Picks.cons; (repeat (first | exact Pick.here | apply Pick.there)))))) rfl ⟨rfl, rfl⟩ ⟨rfl, rfl⟩ ⟨rfl, rfl⟩ hok ?_
    exact G.done (l := [.tmp 6]) rfl rfl ⟨rfl, rfl⟩ (by (repeat (first | exact Picks.nil | (apply Picks.cons; (repeat (first | exact Pick.here | apply Pick.there)))))) (by (repeat (first | exact Suff.here | apply Suff.there)))
  · refine G.skip ?_
    refine G.then_n ?_
    refine G.seq ?_
    refine G.seq ?_
    refine G.region ?_
    refine G.q (Quiet.move rfl) rfl ?_
    refine G.q (Quiet.int rfl rfl rfl) rfl ?_
    refine G.q (Quiet.move rfl) rfl ?_
    refine G.dec (t := 14) rfl (fun h3_14 => ?_) (fun h3_14 => ?_)
    · refine G.kDT (t := 13) rfl h3_14 ?_
      refine G.gskip (t := 14) rfl rfl rfl rfl ?_
      refine G.gskip (t := 14) rfl rfl rfl rfl ?_
      refine G.gskip (t := 14) rfl rfl rfl rfl ?_
      refine G.gskip (t := 14) rfl rfl rfl rfl ?_
      refine G.gskip (t := 14) rfl rfl rfl rfl ?_
      refine G.gskip (t := 14) rfl rfl rfl rfl ?_
      refine G.gskip (t := 14) rfl rfl rfl rfl ?_
      refine G.q (Quiet.pickT rfl rfl) rfl ?_
      refine G.q (Quiet.move rfl) rfl ?_
      refine G.gskip (t := 23) rfl rfl rfl rfl ?_
      refine G.gskip (t := 23) rfl rfl rfl rfl ?_
      refine G.gskip (t := 23) rfl rfl rfl rfl ?_
      refine G.q (Quiet.pickT rfl rfl) rfl ?_
      refine G.nil ?_
      refine G.then_n ?_
      refine G.condT rfl ?_
      refine G.seq ?_
      refine G.region ?_
      refine G.q (Quiet.assign rfl) rfl ?_
      refine G.nil ?_
      refine G.then_n ?_
      refine G.ret ?_
      refine G.then_r ?_
      have e : ρ.write n s = (ρ, 20) := by unfold Rk.write; have hh : ρ.has n = false := (by simp [Rk.has]; omega); simp [h11, hh]
      rw [e]
      refine G.rkFold (ρ := ρ) (by (repeat (first | exact Picks.nil | (apply Picks.cons; (repeat (first | exact Pick.here | apply Pick.there)))))) rfl ⟨rfl, rfl⟩ ⟨rfl, rfl⟩ ⟨rfl, rfl⟩ hok ?_
      exact G.done (l := [.tmp 6]) rfl rfl ⟨rfl, rfl⟩ (by (repeat (first | exact Picks.nil | (apply Picks.cons; (repeat (first | exact Pick.here | apply Pick.there)))))) (by (repeat (first | exact Suff.here | apply Suff.there)))
    · refine G.kDF (t := 13) rfl h3_14 ?_
      refine G.grun (t := 14) rfl rfl rfl ?_
      refine G.q (Quiet.move rfl) rfl ?_
      refine G.grun (t := 14) rfl rfl rfl ?_
      refine G.q (Quiet.move rfl) rfl ?_
      refine G.grun (t := 14) rfl rfl rfl ?_
      refine G.q (Quiet.nilp rfl) rfl ?_
      refine G.grun (t := 14) rfl rfl rfl ?_
      refine G.q (Quiet.fieldAddr rfl fo_102_0) rfl ?_
      refine G.grun (t := 14) rfl rfl rfl ?_
      refine G.q (Quiet.load rfl ag_22 (by (repeat (first | exact Pick.here | apply Pick.there))) (rfl)) rfl ?_
      refine G.grun (t := 14) rfl rfl rfl ?_
      refine G.q (Quiet.slen rfl Try.underlying22 rfl) rfl ?_
      refine G.grun (t := 14) rfl rfl rfl ?_
      refine G.q (Quiet.int rfl rfl rfl) rfl ?_
      refine G.q (Quiet.pickF rfl rfl) rfl ?_
      refine G.q (Quiet.move rfl) rfl ?_
      refine G.dec (t := 23) rfl (fun h3_23 => ?_) (fun h3_23 => ?_)
      · refine G.kDT (t := 21) rfl h3_23 ?_
        refine G.kDT (t := 22) rfl h3_23 ?_
        refine G.gskip (t := 23) rfl rfl rfl rfl ?_
        refine G.gskip (t := 23) rfl rfl rfl rfl ?_
        refine G.gskip (t := 23) rfl rfl rfl rfl ?_
        refine G.q (Quiet.pickT rfl rfl) rfl ?_
        refine G.nil ?_
        refine G.then_n ?_
        refine G.condT rfl ?_
        refine G.seq ?_
        refine G.region ?_
        refine G.q (Quiet.assign rfl) rfl ?_
        refine G.nil ?_
        refine G.then_n ?_
        refine G.ret ?_
        refine G.then_r ?_
        have e : ρ.write n s = (ρ, 20) := by unfold Rk.write; have hh : ρ.has n = false := (by simp [Rk.has]; omega); simp [h11, hh]
        rw [e]
        refine G.rkFold (ρ := ρ) (by (repeat (first | exact Picks.nil | (apply Picks.cons; (repeat (first | exact Pick.here | apply Pick.there)))))) rfl ⟨rfl, rfl⟩ ⟨rfl, rfl⟩ ⟨rfl, rfl⟩ hok ?_
        exact G.done (l := [.tmp 6]) rfl rfl ⟨rfl, rfl⟩ (by (repeat (first | exact Picks.nil | (apply Picks.cons; (repeat (first | exact Pick.here | apply Pick.there)))))) (by (repeat (first | exact Suff.here | apply Suff.there)))
      · refine G.kDF (t := 21) rfl h3_23 ?_
        refine G.kDF (t := 22) rfl h3_23 ?_
        refine G.grun (t := 23) rfl rfl rfl ?_
        refine G.q (Quiet.move rfl) rfl ?_
        refine G.grun (t := 23) rfl rfl rfl ?_
        refine G.q (Quiet.strlen rfl Try.underlying9 rfl) rfl ?_
        refine G.grun (t := 23) rfl rfl rfl ?_
        refine G.q (Quiet.int rfl rfl rfl) rfl ?_
        refine G.q (Quiet.pickF rfl rfl) rfl ?_
        refine G.nil ?_
        refine G.then_n ?_
        refine G.condN rfl (fun h27 => ?_) (fun h27 => ?_)
        · refine G.seq ?_
          refine G.region ?_
          refine G.q (Quiet.assign rfl) rfl ?_
          refine G.nil ?_
          refine G.then_n ?_
          refine G.ret ?_
          refine G.then_r ?_
          have e : ρ.write n s = (ρ, 20) := by unfold Rk.write; have hs : s.length ≠ 64 := (by omega); simp [h11, hs]
          rw [e]
          refine G.rkFold (ρ := ρ) (by (repeat (first | exact Picks.nil | (apply Picks.cons; (repeat (first | exact Pick.here | apply Pick.there)))))) rfl ⟨rfl, rfl⟩ ⟨rfl, rfl⟩ ⟨rfl, rfl⟩ hok ?_
          exact G.done (l := [.tmp 6]) rfl rfl ⟨rfl, rfl⟩ (by (repeat (first | exact Picks.nil | (apply Picks.cons; (repeat (first | exact Pick.here | apply Pick.there)))))) (by (repeat (first | exact Suff.here | apply Suff.there)))
        · obtain ⟨q0, q1, q2⟩ : 0 ≤ n ∧ n < ρ.L.length ∧ n.toNat < ρ.L.length := by omega
          have hh : ρ.has n = true := by simp [Rk.has]; omega
          refine G.skip ?_
          refine G.then_n ?_
          refine G.seq ?_
          refine G.region ?_
          refine G.q (Quiet.move rfl) rfl ?_
          refine G.op (OpSpec.call Try.func65 rfl rfl (vs := [_]) rfl (ract_spec _ _ _ _ _ _ _ ?hN26)) (by (repeat (first | exact Picks.nil | (apply Picks.cons; (repeat (first | exact Pick.here | apply Pick.there)))))) rfl ?nx27
          case hN26 => omega
          rintro v L' ⟨rfl, rfl⟩
          refine G.q (Quiet.assign rfl) rfl ?_
          refine G.nil ?_
          refine G.then_n ?_
          refine G.seq ?_
          refine G.slShape (v := .slice aL _ cL) (by (repeat (first | exact Pick.here | apply Pick.there))) (by omega) fun bL cL' e mL _ => ?_
          simp only [Value.slice.injEq, true_and] at e
          obtain ⟨rfl, rfl⟩ := e
          refine G.region ?_
          refine G.q (Quiet.move rfl) rfl ?_
          refine G.q (Quiet.nilp rfl) rfl ?_
          refine G.q (Quiet.fieldAddr rfl fo_102_0) rfl ?_
          refine G.q (Quiet.load rfl ag_22 (by (repeat (first | exact Pick.here | apply Pick.there))) (rfl)) rfl ?_
          refine G.q (Quiet.move rfl) rfl ?_
          refine G.q (Quiet.move rfl) rfl ?_
          refine G.q (Quiet.indexAddr rfl rfl el_22 (by omega)) rfl ?_
          refine G.op (OpSpec.storeEl (i := n.toNat * 1) rfl rfl rfl sz_9 ?hi36) (by (repeat (first | exact Picks.nil | (apply Picks.cons; (repeat (first | exact Pick.here | apply Pick.there)))))) rfl ?nx37
          case hi36 => omega
          rintro v L' rfl
          refine G.nil ?_
          refine G.then_n ?_
          refine G.seq ?_
          have hp := hok.pend
          refine G.slShape (v := .slice aP _ cP) (by (repeat (first | exact Pick.here | apply Pick.there))) (by omega) fun bP cP' e mP _ => ?_
          simp only [Value.slice.injEq, true_and] at e
          obtain ⟨rfl, rfl⟩ := e
          refine G.region ?_
          refine G.q (Quiet.move rfl) rfl ?_
          refine G.q (Quiet.nilp rfl) rfl ?_
          refine G.q (Quiet.fieldAddr rfl fo_102_2) rfl ?_
          refine G.q (Quiet.load rfl ag_83 (by (repeat (first | exact Pick.here | apply Pick.there))) (rfl)) rfl ?_
          refine G.q (Quiet.move rfl) rfl ?_
          refine G.q (Quiet.indexAddr rfl rfl el_83 (by omega)) rfl ?_
          refine G.op (OpSpec.storeEl (i := n.toNat * 1) rfl rfl rfl sz_4 ?hi44) (by (repeat (first | exact Picks.nil | (apply Picks.cons; (repeat (first | exact Pick.here | apply Pick.there)))))) rfl ?nx45
          case hi44 => omega
          rintro v L' rfl
          refine G.nil ?_
          refine G.then_n ?_
          refine G.seq ?_
          refine G.seq ?_
          refine G.region ?_
          refine G.q (Quiet.move rfl) rfl ?_
          refine G.nil ?_
          refine G.then_n ?_
          refine G.condB rfl (fun h43 => ?_) (fun h43 => ?_)
          · refine G.seq ?_
            refine G.region ?_
            refine G.q (Quiet.assign rfl) rfl ?_
            refine G.nil ?_
            refine G.then_n ?_
            refine G.ret ?_
            refine G.then_r ?_
            have e : ρ.write n s = ({ ρ.act with L := ρ.L.set n.toNat s, Pend := ρ.Pend.set n.toNat true }, if ρ.act.Gone then 2 else 0) := by unfold Rk.write; have hs : s.length = 64 := (by omega); simp [h11, hh, hs]
            rw [e]
            have hg : ρ.act.Gone = true := by simpa [Rk.act] using h43
            rw [hg]
            refine G.rkFold (ρ := { ρ.act with L := ρ.L.set n.toNat s, Pend := ρ.Pend.set n.toNat true }) (by (repeat (first | exact Picks.nil | (apply Picks.cons; (repeat (first | exact Pick.here | apply Pick.there)))))) rfl ⟨by simp, by simp [List.map_set]⟩ ⟨rfl, rfl⟩ ⟨by simp, by simp [List.map_set]⟩ ⟨by simpa [Rk.act] using hok.old, by simpa using hok.pend, by simpa using hok.big, fun t ht => (List.mem_or_eq_of_mem_set ht).elim (hok.sec t) (fun h => by rw [h]; omega), hok.olds⟩ ?_
            exact G.done (l := [.tmp 6]) rfl rfl ⟨rfl, rfl⟩ (by (repeat (first | exact Picks.nil | (apply Picks.cons; (repeat (first | exact Pick.here | apply Pick.there)))))) (by (repeat (first | exact Suff.here | apply Suff.there)))
          · refine G.skip ?_
            refine G.then_n ?_
            refine G.seq ?_
            refine G.region ?_
            refine G.q (Quiet.assign rfl) rfl ?_
            refine G.nil ?_
            refine G.then_n ?_
            refine G.ret ?_
            have e : ρ.write n s = ({ ρ.act with L := ρ.L.set n.toNat s, Pend := ρ.Pend.set n.toNat true }, if ρ.act.Gone then 2 else 0) := by unfold Rk.write; have hs : s.length = 64 := (by omega); simp [h11, hh, hs]
            rw [e]
            have hg : ρ.act.Gone = false := by simpa [Rk.act] using h43
            rw [hg]
            refine G.rkFold (ρ := { ρ.act with L := ρ.L.set n.toNat s, Pend := ρ.Pend.set n.toNat true }) (by (repeat (first | exact Picks.nil | (apply Picks.cons; (repeat (first | exact Pick.here | apply Pick.there)))))) rfl ⟨by simp, by simp [List.map_set]⟩ ⟨rfl, rfl⟩ ⟨by simp, by simp [List.map_set]⟩ ⟨by simpa [Rk.act] using hok.old, by simpa using hok.pend, by simpa using hok.big, fun t ht => (List.mem_or_eq_of_mem_set ht).elim (hok.sec t) (fun h => by rw [h]; omega), hok.olds⟩ ?_
            exact G.done (l := [.tmp 6]) rfl rfl ⟨rfl, rfl⟩ (by (repeat (first | exact Picks.nil | (apply Picks.cons; (repeat (first | exact Pick.here | apply Pick.there)))))) (by (repeat (first | exact Suff.here | apply Suff.there)))

set_option maxRecDepth 100000 in
theorem rread_spec (x : Nat) (ρ : Rk) (n : Int) : Fn Try.prog 104 #[vptr x, vint n] [rkR x ρ] fun v L => v = .tuple #[vstr (ρ.read n).1, vint (ρ.read n).2] ∧ L = [rkR x ρ] := by
  refine Fn.intro (vs := [vptr x, vint n]) Try.func104 rfl rfl ?_
  intro F W
  refine G.rkOpen .here fun vL vO vP hok => ?_
  refine G.slAny (v := vL) (by (repeat (first | exact Pick.here | apply Pick.there))) fun aL cL e lL => ?_
  subst e
  refine G.seq ?_
  refine G.region ?_
  refine G.q (Quiet.assign rfl) rfl ?_
  refine G.q (Quiet.assign rfl) rfl ?_
  refine G.nil ?_
  refine G.then_n ?_
  refine G.seq ?_
  refine G.seq ?_
  refine G.region ?_
  refine G.q (Quiet.move rfl) rfl ?_
  refine G.q (Quiet.nilp rfl) rfl ?_
  refine G.q (Quiet.fieldAddr rfl fo_102_5) rfl ?_
  refine G.q (Quiet.load rfl ag_4 (by (repeat (first | exact Pick.here | apply Pick.there))) (rfl)) rfl ?_
  refine G.nil ?_
  refine G.then_n ?_
  refine G.condB rfl (fun h9 => ?_) (fun h9 => ?_)
  · refine G.seq ?_
    refine G.region ?_
    refine G.q (Quiet.assign rfl) rfl ?_
    refine G.q (Quiet.assign rfl) rfl ?_
    refine G.nil ?_
    refine G.then_n ?_
    refine G.ret ?_
    refine G.then_r ?_
    have e : ρ.read n = ([], 2) := by unfold Rk.read; simp only [h9, if_true]
    rw [e]
    refine G.rkFold (ρ := ρ) (by (repeat (first | exact Picks.nil | (apply Picks.cons; (repeat (first | exact Pick.here | apply Pick.there)))))) rfl ⟨rfl, rfl⟩ ⟨rfl, rfl⟩ ⟨rfl, rfl⟩ hok ?_
    exact G.done (l := [.tmp 4, .tmp 5]) rfl rfl ⟨rfl, rfl⟩ (by (repeat (first | exact Picks.nil | (apply Picks.cons; (repeat (first | exact Pick.here | apply Pick.there)))))) (by (repeat (first | exact Suff.here | apply Suff.there)))
  · refine G.skip ?_
    refine G.then_n ?_
    refine G.seq ?_
    refine G.seq ?_
    refine G.region ?_
    refine G.q (Quiet.move rfl) rfl ?_
    refine G.q (Quiet.int rfl rfl rfl) rfl ?_
    refine G.q (Quiet.move rfl) rfl ?_
    refine G.dec (t := 12) rfl (fun h3_12 => ?_) (fun h3_12 => ?_)
    · refine G.kDT (t := 11) rfl h3_12 ?_
      refine G.gskip (t := 12) rfl rfl rfl rfl ?_
      refine G.gskip (t := 12) rfl rfl rfl rfl ?_
      refine G.gskip (t := 12) rfl rfl rfl rfl ?_
      refine G.gskip (t := 12) rfl rfl rfl rfl ?_
      refine G.gskip (t := 12) rfl rfl rfl rfl ?_
      refine G.gskip (t := 12) rfl rfl rfl rfl ?_
      refine G.gskip (t := 12) rfl rfl rfl rfl ?_
      refine G.q (Quiet.pickT rfl rfl) rfl ?_
      refine G.nil ?_
      refine G.then_n ?_
      refine G.condT rfl ?_
      refine G.seq ?_
      refine G.region ?_
      refine G.q (Quiet.assign rfl) rfl ?_
      refine G.q (Quiet.assign rfl) rfl ?_
      refine G.nil ?_
      refine G.then_n ?_
      refine G.ret ?_
      refine G.then_r ?_
      have e : ρ.read n = ([], 20) := by unfold Rk.read; have hh : ρ.has n = false := (by simp [Rk.has]; omega); simp [h9, hh]
      rw [e]
      refine G.rkFold (ρ := ρ) (by (repeat (first | exact Picks.nil | (apply Picks.cons; (repeat (first | exact Pick.here | apply Pick.there)))))) rfl ⟨rfl, rfl⟩ ⟨rfl, rfl⟩ ⟨rfl, rfl⟩ hok ?_
      exact G.done (l := [.tmp 4, .tmp 5]) rfl rfl ⟨rfl, rfl⟩ (by (repeat (first | exact Picks.nil | (apply Picks.cons; (repeat (first | exact Pick.here | apply Pick.there)))))) (by (repeat (first | exact Suff.here | apply Suff.there)))
    · refine G.kDF (t := 11) rfl h3_12 ?_
      refine G.grun (t := 12) rfl rfl rfl ?_
      refine G.q (Quiet.move rfl) rfl ?_
      refine G.grun (t := 12) rfl rfl rfl ?_
      refine G.q (Quiet.move rfl) rfl ?_
      refine G.grun (t := 12) rfl rfl rfl ?_
      refine G.q (Quiet.nilp rfl) rfl ?_
      refine G.grun (t := 12) rfl rfl rfl ?_
      refine G.q (Quiet.fieldAddr rfl fo_102_0) rfl ?_
      refine G.grun (t := 12) rfl rfl rfl ?_
      refine G.q (Quiet.load rfl ag_22 (by (repeat (first | exact Pick.here | apply Pick.there))) (rfl)) rfl ?_
      refine G.grun (t := 12) rfl rfl rfl ?_
      refine G.q (Quiet.slen rfl Try.underlying22 rfl) rfl ?_
      refine G.grun (t := 12) rfl rfl rfl ?_
      refine G.q (Quiet.int rfl rfl rfl) rfl ?_
      refine G.q (Quiet.pickF rfl rfl) rfl ?_
      refine G.nil ?_
      refine G.then_n ?_
      refine G.condD rfl (fun h20 => ?_) (fun h20 => ?_)
      · refine G.seq ?_
        refine G.region ?_
        refine G.q (Quiet.assign rfl) rfl ?_
        refine G.q (Quiet.assign rfl) rfl ?_
        refine G.nil ?_
        refine G.then_n ?_
        refine G.ret ?_
        refine G.then_r ?_
        have e : ρ.read n = ([], 20) := by unfold Rk.read; have hh : ρ.has n = false := (by simp [Rk.has]; omega); simp [h9, hh]
        rw [e]
        refine G.rkFold (ρ := ρ) (by (repeat (first | exact Picks.nil | (apply Picks.cons; (repeat (first | exact Pick.here | apply Pick.there)))))) rfl ⟨rfl, rfl⟩ ⟨rfl, rfl⟩ ⟨rfl, rfl⟩ hok ?_
        exact G.done (l := [.tmp 4, .tmp 5]) rfl rfl ⟨rfl, rfl⟩ (by (repeat (first | exact Picks.nil | (apply Picks.cons; (repeat (first | exact Pick.here | apply Pick.there)))))) (by (repeat (first | exact Suff.here | apply Suff.there)))
      · obtain ⟨q0, q1, q2⟩ : 0 ≤ n ∧ n < ρ.L.length ∧ n.toNat < ρ.L.length := by omega
        have hh : ρ.has n = true := by simp [Rk.has]; omega
        refine G.skip ?_
        refine G.then_n ?_
        refine G.seq ?_
        refine G.slShape (v := .slice aL _ cL) (by (repeat (first | exact Pick.here | apply Pick.there))) (by omega) fun bL cL' e mL _ => ?_
        simp only [Value.slice.injEq, true_and] at e
        obtain ⟨rfl, rfl⟩ := e
        refine G.region ?_
        refine G.q (Quiet.move rfl) rfl ?_
        refine G.q (Quiet.nilp rfl) rfl ?_
        refine G.q (Quiet.fieldAddr rfl fo_102_0) rfl ?_
        refine G.q (Quiet.load rfl ag_22 (by (repeat (first | exact Pick.here | apply Pick.there))) (rfl)) rfl ?_
        refine G.q (Quiet.move rfl) rfl ?_
        refine G.q (Quiet.indexAddr rfl rfl el_22 (by omega)) rfl ?_
        refine G.q (Quiet.loadSl (v := vstr ρ.L[n.toNat]) (i := n.toNat * 1) rfl ag_9 (by (repeat (first | exact Pick.here | apply Pick.there))) (by simp [q2])) rfl ?_
        refine G.q (Quiet.assign rfl) rfl ?_
        refine G.q (Quiet.assign rfl) rfl ?_
        refine G.nil ?_
        refine G.then_n ?_
        refine G.ret ?_
        have e : ρ.read n = (ρ.L[n.toNat], 0) := by unfold Rk.read; simp [h9, hh, q2]
        rw [e]
        refine G.rkFold (ρ := ρ) (by (repeat (first | exact Picks.nil | (apply Picks.cons; (repeat (first | exact Pick.here | apply Pick.there)))))) rfl ⟨rfl, rfl⟩ ⟨rfl, rfl⟩ ⟨rfl, rfl⟩ hok ?_
        exact G.done (l := [.tmp 4, .tmp 5]) rfl rfl ⟨rfl, rfl⟩ (by (repeat (first | exact Picks.nil | (apply Picks.cons; (repeat (first | exact Pick.here | apply Pick.there)))))) (by (repeat (first | exact Suff.here | apply Suff.there)))

set_option maxRecDepth 100000 in
theorem rarm_spec (x : Nat) (ρ : Rk) (n : Int) (hN : 0 ≤ ρ.N ∧ ρ.N < 4611686018427387904) (hn : n ≤ 9223372036854775807) : Fn Try.prog 105 #[vptr x, vint n] [rkR x ρ] fun v L => v = vint (ρ.arm n).2 ∧ L = [rkR x (ρ.arm n).1] := by
  refine Fn.intro (vs := [vptr x, vint n]) Try.func105 rfl rfl ?_
  intro F W
  refine G.rkOpen .here fun vL vO vP hok => ?_
  refine G.seq ?_
  refine G.region ?_
  refine G.q (Quiet.assign rfl) rfl ?_
  refine G.nil ?_
  refine G.then_n ?_
  refine G.seq ?_
  refine G.seq ?_
  refine G.region ?_
  refine G.q (Quiet.move rfl) rfl ?_
  refine G.q (Quiet.nilp rfl) rfl ?_
  refine G.q (Quiet.fieldAddr rfl fo_102_5) rfl ?_
  refine G.q (Quiet.load rfl ag_4 (by (repeat (first | exact Pick.here | apply Pick.there))) (rfl)) rfl ?_
  refine G.nil ?_
  refine G.then_n ?_
  refine G.condB rfl (fun h8 => ?_) (fun h8 => ?_)
  · refine G.seq ?_
    refine G.region ?_
    refine G.q (Quiet.assign rfl) rfl ?_
    refine G.nil ?_
    refine G.then_n ?_
    refine G.ret ?_
    refine G.then_r ?_
    have e : ρ.arm n = (ρ, 2) := by unfold Rk.arm; simp only [h8, if_true]
    rw [e]
    refine G.rkFold (ρ := ρ) (by (repeat (first | exact Picks.nil | (apply Picks.cons; (repeat (first | exact Pick.here | apply Pick.there)))))) rfl ⟨rfl, rfl⟩ ⟨rfl, rfl⟩ ⟨rfl, rfl⟩ ⟨hok.old, hok.pend, hok.big, hok.sec, hok.olds⟩ ?_
    exact G.done (l := [.tmp 4]) rfl rfl ⟨rfl, rfl⟩ (by (repeat (first | exact Picks.nil | (apply Picks.cons; (repeat (first | exact Pick.here | apply Pick.there)))))) (by (repeat (first | exact Suff.here | apply Suff.there)))
  · refine G.skip ?_
    refine G.then_n ?_
    refine G.seq ?_
    refine G.seq ?_
    refine G.region ?_
    refine G.q (Quiet.move rfl) rfl ?_
    refine G.q (Quiet.int rfl rfl rfl) rfl ?_
    refine G.nil ?_
    refine G.then_n ?_
    refine G.condD rfl (fun h10 => ?_) (fun h10 => ?_)
    · refine G.seq ?_
      refine G.region ?_
      refine G.q (Quiet.assign rfl) rfl ?_
      refine G.nil ?_
      refine G.then_n ?_
      refine G.ret ?_
      refine G.then_r ?_
      have e : ρ.arm n = (ρ, 1) := by unfold Rk.arm; simp [h8, h10]
      rw [e]
      refine G.rkFold (ρ := ρ) (by (repeat (first | exact Picks.nil | (apply Picks.cons; (repeat (first | exact Pick.here | apply Pick.there)))))) rfl ⟨rfl, rfl⟩ ⟨rfl, rfl⟩ ⟨rfl, rfl⟩ ⟨hok.old, hok.pend, hok.big, hok.sec, hok.olds⟩ ?_
      exact G.done (l := [.tmp 4]) rfl rfl ⟨rfl, rfl⟩ (by (repeat (first | exact Picks.nil | (apply Picks.cons; (repeat (first | exact Pick.here | apply Pick.there)))))) (by (repeat (first | exact Suff.here | apply Suff.there)))
    · refine G.skip ?_
      refine G.then_n ?_
      refine G.seq ?_
      refine G.region ?_
      refine G.q (Quiet.move rfl) rfl ?_
      refine G.q (Quiet.nilp rfl) rfl ?_
      refine G.q (Quiet.fieldAddr rfl fo_102_4) rfl ?_
      refine G.op (OpSpec.store rfl rfl rfl sz_3 ?c13 ?c14) (by (repeat (first | exact Picks.nil | (apply Picks.cons; (repeat (first | exact Pick.here | apply Pick.there)))))) rfl ?nx15
      case c13 => first | decide | (simp; omega) | simp
      case c14 => exact nfz0 _ _
      rintro v L' rfl
      refine G.nil ?_
      refine G.then_n ?_
      refine G.seq ?_
      refine G.seq ?_
      refine G.region ?_
      refine G.q (Quiet.move rfl) rfl ?_
      refine G.q (Quiet.int rfl rfl rfl) rfl ?_
      refine G.q (Quiet.move rfl) rfl ?_
      refine G.dec (t := 16) rfl (fun h6_16 => ?_) (fun h6_16 => ?_)
      · refine G.kDT (t := 15) rfl h6_16 ?_
        refine G.grun (t := 16) rfl rfl rfl ?_
        refine G.q (Quiet.move rfl) rfl ?_
        refine G.grun (t := 16) rfl rfl rfl ?_
        refine G.q (Quiet.int rfl rfl rfl) rfl ?_
        refine G.q (Quiet.pickT rfl rfl) rfl ?_
        refine G.nil ?_
        refine G.then_n ?_
        refine G.condD rfl (fun h19 => ?_) (fun h19 => ?_)
        · refine G.region ?_
          refine G.q (Quiet.move rfl) rfl ?_
          refine G.q (Quiet.move rfl) rfl ?_
          refine G.q (Quiet.nilp rfl) rfl ?_
          refine G.q (Quiet.fieldAddr rfl fo_102_3) rfl ?_
          refine G.q (Quiet.load rfl ag_3 (by (repeat (first | exact Pick.here | apply Pick.there))) (rfl)) rfl ?_
          refine G.q (Quiet.move rfl) rfl ?_
          refine G.q (Quiet.add rfl rfl (by omega)) rfl ?_
          refine G.q (Quiet.nilp rfl) rfl ?_
          refine G.q (Quiet.fieldAddr rfl fo_102_4) rfl ?_
          refine G.op (OpSpec.store rfl rfl rfl sz_3 ?c29 ?c30) (by (repeat (first | exact Picks.nil | (apply Picks.cons; (repeat (first | exact Pick.here | apply Pick.there)))))) rfl ?nx31
          case c29 => first | decide | (simp; omega) | simp
          case c30 => exact nfz0 _ _
          rintro v L' rfl
          refine G.nil ?_
          refine G.then_n ?_
          refine G.seq ?_
          refine G.region ?_
          refine G.q (Quiet.assign rfl) rfl ?_
          refine G.nil ?_
          refine G.then_n ?_
          refine G.ret ?_
          have e : ρ.arm n = ({ ρ with At := ρ.N + n }, 0) := by unfold Rk.arm; have hq : n > 0 ∧ n ≤ 4611686018427387904 := (by omega); simp [h8, h10, hq]
          rw [e]
          refine G.rkFold (ρ := { ρ with At := ρ.N + n }) (by (repeat (first | exact Picks.nil | (apply Picks.cons; (repeat (first | exact Pick.here | apply Pick.there)))))) rfl ⟨rfl, rfl⟩ ⟨rfl, rfl⟩ ⟨rfl, rfl⟩ ⟨hok.old, hok.pend, hok.big, hok.sec, hok.olds⟩ ?_
          exact G.done (l := [.tmp 4]) rfl rfl ⟨rfl, rfl⟩ (by (repeat (first | exact Picks.nil | (apply Picks.cons; (repeat (first | exact Pick.here | apply Pick.there)))))) (by (repeat (first | exact Suff.here | apply Suff.there)))
        · refine G.skip ?_
          refine G.then_n ?_
          refine G.seq ?_
          refine G.region ?_
          refine G.q (Quiet.assign rfl) rfl ?_
          refine G.nil ?_
          refine G.then_n ?_
          refine G.ret ?_
          have e : ρ.arm n = ({ ρ with At := 0 }, 0) := by unfold Rk.arm; have hq : ¬ (n > 0 ∧ n ≤ 4611686018427387904) := (by omega); rw [if_neg (by rw [h8]; simp), if_neg h10, if_neg hq]
          rw [e]
          refine G.rkFold (ρ := { ρ with At := 0 }) (by (repeat (first | exact Picks.nil | (apply Picks.cons; (repeat (first | exact Pick.here | apply Pick.there)))))) rfl ⟨rfl, rfl⟩ ⟨rfl, rfl⟩ ⟨rfl, rfl⟩ ⟨hok.old, hok.pend, hok.big, hok.sec, hok.olds⟩ ?_
          exact G.done (l := [.tmp 4]) rfl rfl ⟨rfl, rfl⟩ (by (repeat (first | exact Picks.nil | (apply Picks.cons; (repeat (first | exact Pick.here | apply Pick.there)))))) (by (repeat (first | exact Suff.here | apply Suff.there)))
      · refine G.kDF (t := 15) rfl h6_16 ?_
        refine G.gskip (t := 16) rfl rfl rfl rfl ?_
        refine G.gskip (t := 16) rfl rfl rfl rfl ?_
        refine G.q (Quiet.pickF rfl rfl) rfl ?_
        refine G.nil ?_
        refine G.then_n ?_
        refine G.condF rfl ?_
        refine G.skip ?_
        refine G.then_n ?_
        refine G.seq ?_
        refine G.region ?_
        refine G.q (Quiet.assign rfl) rfl ?_
        refine G.nil ?_
        refine G.then_n ?_
        refine G.ret ?_
        have e : ρ.arm n = ({ ρ with At := 0 }, 0) := by unfold Rk.arm; have hq : ¬ (n > 0 ∧ n ≤ 4611686018427387904) := (by omega); rw [if_neg (by rw [h8]; simp), if_neg h10, if_neg hq]
        rw [e]
        refine G.rkFold (ρ := { ρ with At := 0 }) (by (repeat (first | exact Picks.nil | (apply Picks.cons; (repeat (first | exact Pick.here | apply Pick.there)))))) rfl ⟨rfl, rfl⟩ ⟨rfl, rfl⟩ ⟨rfl, rfl⟩ ⟨hok.old, hok.pend, hok.big, hok.sec, hok.olds⟩ ?_
        exact G.done (l := [.tmp 4]) rfl rfl ⟨rfl, rfl⟩ (by (repeat (first | exact Picks.nil | (apply Picks.cons; (repeat (first | exact Pick.here | apply Pick.there)))))) (by (repeat (first | exact Suff.here | apply Suff.there)))

set_option maxRecDepth 100000 in
theorem rsync_spec (x : Nat) (ρ : Rk) (hN : 0 ≤ ρ.N ∧ ρ.N < 4611686018427387904) : Fn Try.prog 103 #[vptr x] [rkR x ρ] fun v L => v = vint ρ.sync.2 ∧ L = [rkR x ρ.sync.1] := by
  refine Fn.intro (vs := [vptr x]) Try.func103 rfl rfl ?_
  intro F W
  refine G.rkOpen .here fun vL vO vP hok => ?_
  have ho := hok.old
  have hp := hok.pend
  have hbg := hok.big
  refine G.slAny (v := vL) (by (repeat (first | exact Pick.here | apply Pick.there))) fun aL cL e lL => ?_
  subst e
  refine G.slAny (v := vO) (by (repeat (first | exact Pick.here | apply Pick.there))) fun aO cO e lO => ?_
  subst e
  refine G.slAny (v := vP) (by (repeat (first | exact Pick.here | apply Pick.there))) fun aP cP e lP => ?_
  subst e
  refine G.seq ?_
  refine G.region ?_
  refine G.q (Quiet.assign rfl) rfl ?_
  refine G.nil ?_
  refine G.then_n ?_
  refine G.seq ?_
  refine G.seq ?_
  refine G.region ?_
  refine G.q (Quiet.move rfl) rfl ?_
  refine G.q (Quiet.nilp rfl) rfl ?_
  refine G.q (Quiet.fieldAddr rfl fo_102_5) rfl ?_
  refine G.q (Quiet.load rfl ag_4 (by (repeat (first | exact Pick.here | apply Pick.there))) (rfl)) rfl ?_
  refine G.nil ?_
  refine G.then_n ?_
  refine G.condB rfl (fun h8 => ?_) (fun h8 => ?_)
  · refine G.seq ?_
    refine G.region ?_
    refine G.q (Quiet.assign rfl) rfl ?_
    refine G.nil ?_
    refine G.then_n ?_
    refine G.ret ?_
    refine G.then_r ?_
    have e : ρ.sync = (ρ, 2) := by unfold Rk.sync; simp only [h8, if_true]
    rw [e]
    refine G.rkFold (ρ := ρ) (by (repeat (first | exact Picks.nil | (apply Picks.cons; (repeat (first | exact Pick.here | apply Pick.there)))))) rfl ⟨rfl, rfl⟩ ⟨rfl, rfl⟩ ⟨rfl, rfl⟩ hok ?_
    exact G.done (l := [.tmp 2]) rfl rfl ⟨rfl, rfl⟩ (by (repeat (first | exact Picks.nil | (apply Picks.cons; (repeat (first | exact Pick.here | apply Pick.there)))))) (by (repeat (first | exact Suff.here | apply Suff.there)))
  · refine G.skip ?_
    refine G.then_n ?_
    refine G.seq ?_
    refine G.region ?_
    refine G.q (Quiet.move rfl) rfl ?_
    refine G.op (OpSpec.call Try.func65 rfl rfl (vs := [_]) rfl (ract_spec _ _ _ _ _ _ _ ?hN8)) (by (repeat (first | exact Picks.nil | (apply Picks.cons; (repeat (first | exact Pick.here | apply Pick.there)))))) rfl ?nx9
    case hN8 => omega
    rintro v L' ⟨rfl, rfl⟩
    refine G.q (Quiet.assign rfl) rfl ?_
    refine G.nil ?_
    refine G.then_n ?_
    refine G.seq ?_
    refine G.seq ?_
    refine G.region ?_
    refine G.q (Quiet.move rfl) rfl ?_
    refine G.nil ?_
    refine G.then_n ?_
    refine G.condB rfl (fun h11 => ?_) (fun h11 => ?_)
    · refine G.seq ?_
      refine G.region ?_
      refine G.q (Quiet.assign rfl) rfl ?_
      refine G.nil ?_
      refine G.then_n ?_
      refine G.ret ?_
      refine G.then_r ?_
      have e : ρ.sync = (ρ.act, 2) := by unfold Rk.sync; have hg : ρ.act.Gone = true := (by simpa [Rk.act] using h11); simp [h8, hg]
      rw [e]
      refine G.rkFold (ρ := ρ.act) (by (repeat (first | exact Picks.nil | (apply Picks.cons; (repeat (first | exact Pick.here | apply Pick.there)))))) rfl ⟨rfl, rfl⟩ ⟨rfl, rfl⟩ ⟨rfl, rfl⟩ ⟨hok.old, hok.pend, hok.big, hok.sec, hok.olds⟩ ?_
      exact G.done (l := [.tmp 2]) rfl rfl ⟨rfl, rfl⟩ (by (repeat (first | exact Picks.nil | (apply Picks.cons; (repeat (first | exact Pick.here | apply Pick.there)))))) (by (repeat (first | exact Suff.here | apply Suff.there)))
    · refine G.skip ?_
      refine G.then_n ?_
      refine G.seq ?_
      refine G.seq ?_
      refine G.region ?_
      refine G.q (Quiet.assign rfl) rfl ?_
      refine G.nil ?_
      refine G.then_n ?_
      refine G.block ?_
      have hg : ρ.act.Gone = false := by simpa [Rk.act] using h11
      refine G.loop (F := F) (ι := Nat) (fun i => [(0, vptr x), (4, vint i)]) (fun i => [rkC x (.slice aL ρ.L.length cL) (.slice aO ρ.Old.length cO) (.slice aP ρ.Pend.length cP) (ρ.N + 1) ρ.At ρ.act.Gone, strR (.slice aL ρ.L.length cL) ρ.L, slR 9 1 (.slice aO ρ.Old.length cO) ρ.Old.length ((strs ρ.L).take i ++ (strs ρ.Old).drop i), slR 4 1 (.slice aP ρ.Pend.length cP) ρ.Pend.length ((bools (ρ.L.map fun _ => false)).take i ++ (bools ρ.Pend).drop i)]) (fun i => i ≤ ρ.L.length) (fun i => ρ.L.length - i) 0 (Nat.zero_le _) ⟨rfl, rfl, trivial⟩ (by (repeat (first | exact Picks.nil | (apply Picks.cons; (repeat (first | exact Pick.here | apply Pick.there)))))) (by (repeat (first | exact Suff.here | apply Suff.there))) ?_
      intro i hi
      refine G.seq ?_
      refine G.seq ?_
      refine G.region ?_
      refine G.q (Quiet.move rfl) rfl ?_
      refine G.q (Quiet.move rfl) rfl ?_
      refine G.q (Quiet.nilp rfl) rfl ?_
      refine G.q (Quiet.fieldAddr rfl fo_102_0) rfl ?_
      refine G.q (Quiet.load rfl ag_22 (by (repeat (first | exact Pick.here | apply Pick.there))) (rfl)) rfl ?_
      refine G.q (Quiet.slen rfl Try.underlying22 rfl) rfl ?_
      refine G.q (Quiet.int rfl rfl rfl) rfl ?_
      refine G.nil ?_
      refine G.then_n ?_
      refine G.condD rfl (fun h18 => ?_) (fun h18 => ?_)
      · have hi2 : i < ρ.L.length := by omega
        refine G.skip ?_
        refine G.then_n ?_
        refine G.seq ?_
        refine G.block ?_
        refine G.seq ?_
        refine G.slShape (v := .slice aL _ cL) (by (repeat (first | exact Pick.here | apply Pick.there))) (by omega) fun bL cL' e mL _ => ?_
        simp only [Value.slice.injEq, true_and] at e
        obtain ⟨rfl, rfl⟩ := e
        refine G.slShape (v := .slice aO _ cO) (by (repeat (first | exact Pick.here | apply Pick.there))) (by omega) fun bO cO' e mO _ => ?_
        simp only [Value.slice.injEq, true_and] at e
        obtain ⟨rfl, rfl⟩ := e
        refine G.draw [13] [[0, 1, 2, 3, 4, 5, 6, 7, 8, 9, 10, 11, 12, 13]] mixed (by kernel_rfl) ?_
        refine Phases.go [] (by (repeat (first | exact Picks.nil | (apply Picks.cons; (repeat (first | exact Pick.here | apply Pick.there)))))) ?_
        refine D.qw [1, 2, 3, 12, 13] rfl (by kernel_rfl) (Quiet.move rfl) ?_
        refine D.qw [2, 3, 12, 13] rfl (by kernel_rfl) (Quiet.nilp rfl) ?_
        refine D.qw [3, 12, 13] rfl (by kernel_rfl) (Quiet.fieldAddr rfl fo_102_1) ?_
        refine D.qw [12, 13] rfl (by kernel_rfl) (Quiet.load rfl ag_22 (by (repeat (first | exact Pick.here | apply Pick.there))) (rfl)) ?_
        refine D.qw [12, 13] rfl (by kernel_rfl) (Quiet.move rfl) ?_
        refine D.qw [6, 7, 8, 10, 11, 12, 13] rfl (by kernel_rfl) (Quiet.move rfl) ?_
        refine D.qw [7, 8, 10, 11, 12, 13] rfl (by kernel_rfl) (Quiet.nilp rfl) ?_
        refine D.qw [8, 10, 11, 12, 13] rfl (by kernel_rfl) (Quiet.fieldAddr rfl fo_102_0) ?_
        refine D.qw [10, 11, 12, 13] rfl (by kernel_rfl) (Quiet.load rfl ag_22 (by (repeat (first | exact Pick.here | apply Pick.there))) (rfl)) ?_
        refine D.qw [10, 11, 12, 13] rfl (by kernel_rfl) (Quiet.move rfl) ?_
        refine D.qw [11, 12, 13] rfl (by kernel_rfl) (Quiet.indexAddr rfl rfl el_22 (by omega)) ?_
        refine D.qw [12, 13] rfl (by kernel_rfl) (Quiet.loadSl (v := vstr ρ.L[i]) (i := i * 1) rfl ag_9 (by (repeat (first | exact Pick.here | apply Pick.there))) (by simp [hi2])) ?_
        refine D.qw [13] rfl (by kernel_rfl) (Quiet.indexAddr rfl rfl el_22 (by omega)) ?_
        refine D.h rfl (by kernel_rfl) (OpSpec.storeEl (i := i * 1) rfl rfl rfl sz_9 ?hi33) (by (repeat (first | exact Picks.nil | (apply Picks.cons; (repeat (first | exact Pick.here | apply Pick.there)))))) ?nx34
        case hi33 => omega
        rintro v L' rfl
        refine D.ph ?_
        refine Phases.fin ?_
        refine G.then_n ?_
        refine G.slShape (v := .slice aP _ cP) (by (repeat (first | exact Pick.here | apply Pick.there))) (by omega) fun bP cP' e mP _ => ?_
        simp only [Value.slice.injEq, true_and] at e
        obtain ⟨rfl, rfl⟩ := e
        refine G.region ?_
        refine G.q (Quiet.move rfl) rfl ?_
        refine G.q (Quiet.nilp rfl) rfl ?_
        refine G.q (Quiet.fieldAddr rfl fo_102_2) rfl ?_
        refine G.q (Quiet.load rfl ag_83 (by (repeat (first | exact Pick.here | apply Pick.there))) (rfl)) rfl ?_
        refine G.q (Quiet.move rfl) rfl ?_
        refine G.q (Quiet.indexAddr rfl rfl el_83 (by omega)) rfl ?_
        refine G.op (OpSpec.storeEl (i := i * 1) rfl rfl rfl sz_4 ?hi41) (by (repeat (first | exact Picks.nil | (apply Picks.cons; (repeat (first | exact Pick.here | apply Pick.there)))))) rfl ?nx42
        case hi41 => omega
        rintro v L' rfl
        refine G.nil ?_
        refine G.blk_n ?_
        refine G.then_n ?_
        have e1 : ((strs ρ.L).take i ++ (strs ρ.Old).drop i).set (i * 1) (vstr ρ.L[i]) = (strs ρ.L).take (i + 1) ++ (strs ρ.Old).drop (i + 1) := by have := set_take_drop (l := strs ρ.L) (m := strs ρ.Old) (i := i) (by simpa using hi2) (by simpa using ho); rw [Nat.mul_one, ← this]; simp
        have e2 : ((bools (ρ.L.map fun _ => false)).take i ++ (bools ρ.Pend).drop i).set (i * 1) (.bool false) = (bools (ρ.L.map fun _ => false)).take (i + 1) ++ (bools ρ.Pend).drop (i + 1) := by have := set_take_drop (l := bools (ρ.L.map fun _ => false)) (m := bools ρ.Pend) (i := i) (by simpa using hi2) (by simpa using hp); rw [Nat.mul_one, ← this]; simp
        rw [e1, e2]
        refine G.region ?_
        refine G.q (Quiet.move rfl) rfl ?_
        refine G.q (Quiet.add rfl rfl (by omega)) rfl ?_
        refine G.q (Quiet.assign rfl) rfl ?_
        refine G.nil ?_
        refine G.then_n ?_
        refine G.round (i + 1) (by omega) (by omega) ⟨rfl, rfl, trivial⟩ (by (repeat (first | exact Picks.nil | (apply Picks.cons; (repeat (first | exact Pick.here | apply Pick.there)))))) (by (repeat (first | exact Suff.here | apply Suff.there)))
      · have hi2 : i = ρ.L.length := by omega
        subst hi2
        rw [List.take_of_length_le (by simp), List.take_of_length_le (by simp), List.drop_eq_nil_of_le (by simp; omega), List.drop_eq_nil_of_le (by simp; omega), List.append_nil, List.append_nil]
        refine G.exit ?_
        refine G.then_e ?_
        refine G.then_e ?_
        refine G.blk_e ?_
        refine G.then_n ?_
        refine G.seq ?_
        refine G.region ?_
        refine G.q (Quiet.assign rfl) rfl ?_
        refine G.nil ?_
        refine G.then_n ?_
        refine G.ret ?_
        have e : ρ.sync = ({ ρ.act with Old := ρ.L, Pend := ρ.L.map fun _ => false }, 0) := by unfold Rk.sync; simp [h8, hg]
        rw [e]
        refine G.rkFold (ρ := { ρ.act with Old := ρ.L, Pend := ρ.L.map fun _ => false }) (by (repeat (first | exact Picks.nil | (apply Picks.cons; (repeat (first | exact Pick.here | apply Pick.there)))))) rfl ⟨rfl, rfl⟩ ⟨ho, rfl⟩ ⟨by simpa using hp, rfl⟩ ⟨rfl, by simp [Rk.act], hok.big, hok.sec, hok.sec⟩ ?_
        exact G.done (l := [.tmp 2]) rfl rfl ⟨rfl, rfl⟩ (by (repeat (first | exact Picks.nil | (apply Picks.cons; (repeat (first | exact Pick.here | apply Pick.there)))))) (by (repeat (first | exact Suff.here | apply Suff.there)))

set_option maxRecDepth 100000 in
theorem rnew_spec (n : Int) : Fn Try.prog 16 #[vint n] [] fun v L => ((n < 16 ∨ 32768 < n) ∧ v = .tuple #[.pointer none, vint 1] ∧ L = []) ∨ ((16 ≤ n ∧ n ≤ 32768) ∧ ∃ x, v = .tuple #[vptr x, vint 0] ∧ L = [rkR x (Rk.new n.toNat)]) := by
  refine Fn.intro (vs := [vint n]) Try.func16 rfl rfl ?_
  intro F W
  refine G.seq ?_
  refine G.region ?_
  refine G.q (Quiet.assign rfl) rfl ?_
  refine G.q (Quiet.assign rfl) rfl ?_
  refine G.nil ?_
  refine G.then_n ?_
  refine G.seq ?_
  refine G.seq ?_
  refine G.region ?_
  refine G.q (Quiet.move rfl) rfl ?_
  refine G.q (Quiet.int rfl rfl rfl) rfl ?_
  refine G.q (Quiet.move rfl) rfl ?_
  refine G.dec (t := 8) rfl (fun h1_8 => ?_) (fun h1_8 => ?_)
  · refine G.kDT (t := 7) rfl h1_8 ?_
    refine G.gskip (t := 8) rfl rfl rfl rfl ?_
    refine G.gskip (t := 8) rfl rfl rfl rfl ?_
    refine G.q (Quiet.pickT rfl rfl) rfl ?_
    refine G.nil ?_
    refine G.then_n ?_
    refine G.condT rfl ?_
    refine G.seq ?_
    refine G.region ?_
    refine G.q (Quiet.assign rfl) rfl ?_
    refine G.q (Quiet.assign rfl) rfl ?_
    refine G.nil ?_
    refine G.then_n ?_
    refine G.ret ?_
    refine G.then_r ?_
    exact G.done (l := [.tmp 2, .tmp 3]) rfl rfl (.inl ⟨by omega, rfl, rfl⟩) (by (repeat (first | exact Picks.nil | (apply Picks.cons; (repeat (first | exact Pick.here | apply Pick.there)))))) (by (repeat (first | exact Suff.here | apply Suff.there)))
  · refine G.kDF (t := 7) rfl h1_8 ?_
    refine G.grun (t := 8) rfl rfl rfl ?_
    refine G.q (Quiet.move rfl) rfl ?_
    refine G.grun (t := 8) rfl rfl rfl ?_
    refine G.q (Quiet.int rfl rfl rfl) rfl ?_
    refine G.q (Quiet.pickF rfl rfl) rfl ?_
    refine G.nil ?_
    refine G.then_n ?_
    refine G.condD rfl (fun h11 => ?_) (fun h11 => ?_)
    · refine G.seq ?_
      refine G.region ?_
      refine G.q (Quiet.assign rfl) rfl ?_
      refine G.q (Quiet.assign rfl) rfl ?_
      refine G.nil ?_
      refine G.then_n ?_
      refine G.ret ?_
      refine G.then_r ?_
      exact G.done (l := [.tmp 2, .tmp 3]) rfl rfl (.inl ⟨by omega, rfl, rfl⟩) (by (repeat (first | exact Picks.nil | (apply Picks.cons; (repeat (first | exact Pick.here | apply Pick.there)))))) (by (repeat (first | exact Suff.here | apply Suff.there)))
    · obtain ⟨hn1, hn2⟩ : 16 ≤ n ∧ n ≤ 32768 := by omega
      refine G.skip ?_
      refine G.then_n ?_
      refine G.seq ?_
      refine G.region ?_
      refine G.q (Quiet.move rfl) rfl ?_
      refine G.op (OpSpec.make rfl rfl el_83 ze_4 rfl ⟨by simp, by simp; rfl⟩ ?c13) (by (repeat (first | exact Picks.nil | (apply Picks.cons; (repeat (first | exact Pick.here | apply Pick.there)))))) rfl ?nx14
      case c13 => omega
      rintro v L' ⟨bP, rfl, rfl⟩
      refine G.q (Quiet.build (us := [(2, _)]) fl_102 ze_102 rfl rfl (by simp [isCell])) rfl ?_
      refine G.op (OpSpec.box rfl) (by (repeat (first | exact Picks.nil | (apply Picks.cons; (repeat (first | exact Pick.here | apply Pick.there)))))) rfl ?nx17
      rintro v L' ⟨x, rfl, rfl⟩
      refine G.q (Quiet.assign rfl) rfl ?_
      refine G.nil ?_
      refine G.then_n ?_
      refine G.seq ?_
      refine G.seq ?_
      refine G.region ?_
      refine G.q (Quiet.assign rfl) rfl ?_
      refine G.nil ?_
      refine G.then_n ?_
      refine G.block ?_
      refine G.add (slR_nil 9 1) (G.add (slR_nil 9 1) ?_)
      refine G.fold (p := boolR (.slice (some ⟨bP, 0, none⟩) n.toNat n.toNat) (List.replicate n.toNat false)) (.cons (p := ptc bP _ _) (by (repeat (first | exact Pick.here | apply Pick.there))) .nil) (fun h hp => by have := sep_pt hp; simpa [boolR, bools] using slR_pt (n := n.toNat) (sz := 1) this (by simp)) ?_
      refine G.loop (F := F) (ι := Nat × Value × Value) (fun i => [(0, vint n), (4, vptr x), (5, vint i.1)]) (fun i => [rkC x i.2.1 i.2.2 (.slice (some ⟨bP, 0, none⟩) n.toNat n.toNat) 0 0 false, slR 9 1 i.2.1 i.1 (List.replicate i.1 (vstr zs)), slR 9 1 i.2.2 i.1 (List.replicate i.1 (vstr zs)), boolR (.slice (some ⟨bP, 0, none⟩) n.toNat n.toNat) (List.replicate n.toNat false)]) (fun i => i.1 ≤ n.toNat) (fun i => n.toNat - i.1) (0, .slice none 0 0, .slice none 0 0) (Nat.zero_le _) ⟨rfl, rfl, rfl, trivial⟩ (by (repeat (first | exact Picks.nil | (apply Picks.cons; (repeat (first | exact Pick.here | apply Pick.there)))))) (by (repeat (first | exact Suff.here | apply Suff.there))) ?_
      rintro ⟨i, vL, vO⟩ hi
      dsimp only at hi ⊢
      refine G.seq ?_
      refine G.seq ?_
      refine G.region ?_
      refine G.q (Quiet.move rfl) rfl ?_
      refine G.q (Quiet.move rfl) rfl ?_
      refine G.q (Quiet.int rfl rfl rfl) rfl ?_
      refine G.nil ?_
      refine G.then_n ?_
      refine G.condD rfl (fun h18 => ?_) (fun h18 => ?_)
      · refine G.skip ?_
        refine G.then_n ?_
        refine G.seq ?_
        refine G.block ?_
        refine G.seq ?_
        refine G.draw [5, 6, 7, 10] [[0, 1, 2, 3, 4, 5, 6, 7], [8, 9, 10]] mixed (by kernel_rfl) ?_
        refine Phases.go [ptc x _ _] (by (repeat (first | exact Picks.nil | (apply Picks.cons; (repeat (first | exact Pick.here | apply Pick.there)))))) ?_
        refine D.q rfl (by kernel_rfl) (Quiet.move rfl) ?_
        refine D.q rfl (by kernel_rfl) (Quiet.move rfl) ?_
        refine D.q rfl (by kernel_rfl) (Quiet.nilp rfl) ?_
        refine D.q rfl (by kernel_rfl) (Quiet.fieldAddr rfl fo_102_0) ?_
        refine D.q rfl (by kernel_rfl) (Quiet.load rfl ag_22 (by (repeat (first | exact Pick.here | apply Pick.there))) (rfl)) ?_
        refine D.h rfl (by kernel_rfl) (OpSpec.call Try.func62 rfl rfl (vs := []) rfl (zeros_spec)) (by (repeat (first | exact Picks.nil | (apply Picks.cons; (repeat (first | exact Pick.here | apply Pick.there)))))) ?nx28
        rintro v L' ⟨rfl, rfl⟩
        refine D.h rfl (by kernel_rfl) (OpSpec.buildSlice1 (vs := [_]) el_22 ze_9 rfl rfl rfl rfl rfl (by decide)) (by (repeat (first | exact Picks.nil | (apply Picks.cons; (repeat (first | exact Pick.here | apply Pick.there)))))) ?nx30
        rintro v L' ⟨b7_6, rfl, rfl⟩
        refine D.h rfl (by kernel_rfl) (OpSpec.append1 rfl rfl rfl el_22 ze_9 rfl rfl ?c32 ?c33 (Nat.le_refl _) ?c34 (by decide)) (by (repeat (first | exact Picks.nil | (apply Picks.cons; (repeat (first | exact Pick.here | apply Pick.there)))))) ?nx35
        case c32 => (first | (simp [isCell]; done) | (simp [isCell, setAll, Value.cells]; done))
        case c33 => rfl
        case c34 => omega
        rintro v L' ⟨⟨a7_7, c7_7, rfl⟩, rfl⟩
        refine D.ph ?_
        refine Phases.go [] (by (repeat (first | exact Picks.nil | (apply Picks.cons; (repeat (first | exact Pick.here | apply Pick.there)))))) ?_
        refine D.qw [9, 10] rfl (by kernel_rfl) (Quiet.nilp rfl) ?_
        refine D.qw [10] rfl (by kernel_rfl) (Quiet.fieldAddr rfl fo_102_0) ?_
        refine D.h rfl (by kernel_rfl) (OpSpec.store rfl rfl rfl sz_22 ?c39 ?c40) (by (repeat (first | exact Picks.nil | (apply Picks.cons; (repeat (first | exact Pick.here | apply Pick.there)))))) ?nx41
        case c39 => first | decide | (simp; omega) | simp
        case c40 => exact nfz0 _ _
        rintro v L' rfl
        refine D.ph ?_
        refine Phases.fin ?_
        refine G.then_n ?_
        refine G.draw [5, 6, 7, 10] [[0, 1, 2, 3, 4, 5, 6, 7], [8, 9, 10]] mixed (by kernel_rfl) ?_
        refine Phases.go [ptc x _ _] (by (repeat (first | exact Picks.nil | (apply Picks.cons; (repeat (first | exact Pick.here | apply Pick.there)))))) ?_
        refine D.q rfl (by kernel_rfl) (Quiet.move rfl) ?_
        refine D.q rfl (by kernel_rfl) (Quiet.move rfl) ?_
        refine D.q rfl (by kernel_rfl) (Quiet.nilp rfl) ?_
        refine D.q rfl (by kernel_rfl) (Quiet.fieldAddr rfl fo_102_1) ?_
        refine D.q rfl (by kernel_rfl) (Quiet.load rfl ag_22 (by (repeat (first | exact Pick.here | apply Pick.there))) (rfl)) ?_
        refine D.h rfl (by kernel_rfl) (OpSpec.call Try.func62 rfl rfl (vs := []) rfl (zeros_spec)) (by (repeat (first | exact Picks.nil | (apply Picks.cons; (repeat (first | exact Pick.here | apply Pick.there)))))) ?nx47
        rintro v L' ⟨rfl, rfl⟩
        refine D.h rfl (by kernel_rfl) (OpSpec.buildSlice1 (vs := [_]) el_22 ze_9 rfl rfl rfl rfl rfl (by decide)) (by (repeat (first | exact Picks.nil | (apply Picks.cons; (repeat (first | exact Pick.here | apply Pick.there)))))) ?nx49
        rintro v L' ⟨b8_6, rfl, rfl⟩
        refine D.h rfl (by kernel_rfl) (OpSpec.append1 rfl rfl rfl el_22 ze_9 rfl rfl ?c51 ?c52 (Nat.le_refl _) ?c53 (by decide)) (by (repeat (first | exact Picks.nil | (apply Picks.cons; (repeat (first | exact Pick.here | apply Pick.there)))))) ?nx54
        case c51 => (first | (simp [isCell]; done) | (simp [isCell, setAll, Value.cells]; done))
        case c52 => rfl
        case c53 => omega
        rintro v L' ⟨⟨a8_7, c8_7, rfl⟩, rfl⟩
        refine D.ph ?_
        refine Phases.go [] (by (repeat (first | exact Picks.nil | (apply Picks.cons; (repeat (first | exact Pick.here | apply Pick.there)))))) ?_
        refine D.qw [9, 10] rfl (by kernel_rfl) (Quiet.nilp rfl) ?_
        refine D.qw [10] rfl (by kernel_rfl) (Quiet.fieldAddr rfl fo_102_1) ?_
        refine D.h rfl (by kernel_rfl) (OpSpec.store rfl rfl rfl sz_22 ?c58 ?c59) (by (repeat (first | exact Picks.nil | (apply Picks.cons; (repeat (first | exact Pick.here | apply Pick.there)))))) ?nx60
        case c58 => first | decide | (simp; omega) | simp
        case c59 => exact nfz0 _ _
        rintro v L' rfl
        refine D.ph ?_
        refine Phases.fin ?_
        refine G.blk_n ?_
        refine G.then_n ?_
        rw [← List.replicate_succ']
        refine G.region ?_
        refine G.q (Quiet.move rfl) rfl ?_
        refine G.q (Quiet.add rfl rfl (by omega)) rfl ?_
        refine G.q (Quiet.assign rfl) rfl ?_
        refine G.nil ?_
        refine G.then_n ?_
        refine G.round (i + 1, Value.slice a7_7 (i + 1) c7_7, Value.slice a8_7 (i + 1) c8_7) (by dsimp only; omega) (by dsimp only; omega) ⟨rfl, rfl, rfl, trivial⟩ (by (repeat (first | exact Picks.nil | (apply Picks.cons; (repeat (first | exact Pick.here | apply Pick.there)))))) (by (repeat (first | exact Suff.here | apply Suff.there)))
      · have hi2 : i = n.toNat := by omega
        subst hi2
        refine G.rkFold (ρ := Rk.new n.toNat) (by (repeat (first | exact Picks.nil | (apply Picks.cons; (repeat (first | exact Pick.here | apply Pick.there)))))) rfl ⟨by simp [Rk.new], by simp [Rk.new]⟩ ⟨by simp [Rk.new], by simp [Rk.new]⟩ ⟨by simp [Rk.new], by simp [Rk.new]⟩ ⟨by simp [Rk.new], by simp [Rk.new], by simp [Rk.new]; omega, by simp [Rk.new, zs_len], by simp [Rk.new, zs_len]⟩ ?_
        refine G.exit ?_
        refine G.then_e ?_
        refine G.then_e ?_
        refine G.blk_e ?_
        refine G.then_n ?_
        refine G.seq ?_
        refine G.region ?_
        refine G.q (Quiet.move rfl) rfl ?_
        refine G.q (Quiet.assign rfl) rfl ?_
        refine G.q (Quiet.assign rfl) rfl ?_
        refine G.nil ?_
        refine G.then_n ?_
        refine G.ret ?_
        exact G.done (l := [.tmp 2, .tmp 3]) rfl rfl (.inr ⟨⟨hn1, hn2⟩, x, rfl, rfl⟩) (by (repeat (first | exact Picks.nil | (apply Picks.cons; (repeat (first | exact Pick.here | apply Pick.there)))))) (by (repeat (first | exact Suff.here | apply Suff.there)))

set_option maxRecDepth 100000 in
set_option maxRecDepth 100000 in
theorem rpend_spec (x : Nat) (ρ : Rk) : Fn Try.prog 107 #[vptr x] [rkR x ρ] fun v L => (∃ a c, v = .slice a ρ.pending.length c) ∧ L = [rkR x ρ, intR v ρ.pending] := by
  refine Fn.intro (vs := [vptr x]) Try.func107 rfl rfl ?_
  intro F W
  refine G.rkOpen .here fun vL vO vP hok => ?_
  have hp := hok.pend
  have hbg := hok.big
  refine G.slAny (v := vP) (by (repeat (first | exact Pick.here | apply Pick.there))) fun aP cP e lP => ?_
  subst e
  refine G.seq ?_
  refine G.region ?_
  refine G.q (Quiet.assign rfl) rfl ?_
  refine G.nil ?_
  refine G.then_n ?_
  refine G.seq ?_
  refine G.region ?_
  refine G.q (Quiet.assign rfl) rfl ?_
  refine G.nil ?_
  refine G.then_n ?_
  refine G.seq ?_
  refine G.seq ?_
  refine G.region ?_
  refine G.q (Quiet.assign rfl) rfl ?_
  refine G.nil ?_
  refine G.then_n ?_
  refine G.block ?_
  refine G.add (slR_nil 3 1) ?_
  refine G.loop (F := F) (ι := Nat × Option Addr × Nat) (fun i => [(0, vptr x), (3, .slice i.2.1 (pendTo ρ.Pend i.1).length i.2.2), (4, vint i.1)]) (fun i => [rkC x vL vO (.slice aP ρ.Pend.length cP) ρ.N ρ.At ρ.Gone, strR vL ρ.L, strR vO ρ.Old, boolR (.slice aP ρ.Pend.length cP) ρ.Pend, intR (.slice i.2.1 (pendTo ρ.Pend i.1).length i.2.2) (pendTo ρ.Pend i.1)]) (fun i => i.1 ≤ ρ.Pend.length) (fun i => ρ.Pend.length - i.1) (0, none, 0) (Nat.zero_le _) ⟨rfl, rfl, rfl, trivial⟩ (by (repeat (first | exact Picks.nil | (apply Picks.cons; (repeat (first | exact Pick.here | apply Pick.there)))))) (by (repeat (first | exact Suff.here | apply Suff.there))) ?_
  rintro ⟨i, a, c⟩ hi
  dsimp only at hi ⊢
  have hpl := pendTo_len ρ.Pend i
  refine G.seq ?_
  refine G.seq ?_
  refine G.region ?_
  refine G.q (Quiet.move rfl) rfl ?_
  refine G.q (Quiet.move rfl) rfl ?_
  refine G.q (Quiet.nilp rfl) rfl ?_
  refine G.q (Quiet.fieldAddr rfl fo_102_2) rfl ?_
  refine G.q (Quiet.load rfl ag_83 (by (repeat (first | exact Pick.here | apply Pick.there))) (rfl)) rfl ?_
  refine G.q (Quiet.slen rfl Try.underlying83 rfl) rfl ?_
  refine G.q (Quiet.int rfl rfl rfl) rfl ?_
  refine G.nil ?_
  refine G.then_n ?_
  refine G.condD rfl (fun h11 => ?_) (fun h11 => ?_)
  · have hi2 : i < ρ.Pend.length := by omega
    refine G.skip ?_
    refine G.then_n ?_
    refine G.seq ?_
    refine G.block ?_
    refine G.seq ?_
    refine G.slShape (v := .slice aP _ cP) (by (repeat (first | exact Pick.here | apply Pick.there))) (by omega) fun bP cP' e mP _ => ?_
    simp only [Value.slice.injEq, true_and] at e
    obtain ⟨rfl, rfl⟩ := e
    refine G.region ?_
    refine G.q (Quiet.move rfl) rfl ?_
    refine G.q (Quiet.nilp rfl) rfl ?_
    refine G.q (Quiet.fieldAddr rfl fo_102_2) rfl ?_
    refine G.q (Quiet.load rfl ag_83 (by (repeat (first | exact Pick.here | apply Pick.there))) (rfl)) rfl ?_
    refine G.q (Quiet.move rfl) rfl ?_
    refine G.q (Quiet.indexAddr rfl rfl el_83 (by omega)) rfl ?_
    refine G.q (Quiet.loadSl (v := .bool ρ.Pend[i]) (i := i * 1) rfl ag_4 (by (repeat (first | exact Pick.here | apply Pick.there))) (by simp [hi2])) rfl ?_
    refine G.nil ?_
    refine G.then_n ?_
    refine G.condB rfl (fun h20 => ?_) (fun h20 => ?_)
    · refine G.region ?_
      refine G.q (Quiet.move rfl) rfl ?_
      refine G.q (Quiet.move rfl) rfl ?_
      refine G.op (OpSpec.buildSlice1 (vs := [_]) el_40 ze_3 rfl rfl rfl rfl rfl (by decide)) (by (repeat (first | exact Picks.nil | (apply Picks.cons; (repeat (first | exact Pick.here | apply Pick.there)))))) rfl ?nx20
      rintro v L' ⟨b6_2, rfl, rfl⟩
      refine G.op (OpSpec.append1 rfl rfl rfl el_40 ze_3 rfl rfl ?c22 ?c23 (Nat.le_refl _) ?c24 (by decide)) (by (repeat (first | exact Picks.nil | (apply Picks.cons; (repeat (first | exact Pick.here | apply Pick.there)))))) rfl ?nx25
      case c22 => (first | (simp [isCell]; done) | (simp [isCell, setAll, Value.cells]; done))
      case c23 => rfl
      case c24 => omega
      rintro v L' ⟨⟨a6_3, c6_3, rfl⟩, rfl⟩
      refine G.q (Quiet.assign rfl) rfl ?_
      refine G.nil ?_
      refine G.blk_n ?_
      refine G.then_n ?_
      refine G.region ?_
      refine G.q (Quiet.move rfl) rfl ?_
      refine G.q (Quiet.add rfl rfl (by omega)) rfl ?_
      refine G.q (Quiet.assign rfl) rfl ?_
      refine G.nil ?_
      refine G.then_n ?_
      have e1 : pendTo ρ.Pend (i + 1) = pendTo ρ.Pend i ++ [(i : Int)] := by rw [pendTo, if_pos (by simp [h20, hi2])]
      have e2 : (pendTo ρ.Pend i).length + 1 = (pendTo ρ.Pend (i + 1)).length := by rw [e1]; simp
      have e3 : ints (pendTo ρ.Pend i) ++ [vint i] = ints (pendTo ρ.Pend (i + 1)) := by rw [e1]; simp
      rw [e2, e3]
      refine G.round (i + 1, a6_3, c6_3) (by dsimp only; omega) (by dsimp only; omega) ⟨rfl, rfl, rfl, trivial⟩ (by (repeat (first | exact Picks.nil | (apply Picks.cons; (repeat (first | exact Pick.here | apply Pick.there)))))) (by (repeat (first | exact Suff.here | apply Suff.there)))
    · refine G.skip ?_
      refine G.blk_n ?_
      refine G.then_n ?_
      refine G.region ?_
      refine G.q (Quiet.move rfl) rfl ?_
      refine G.q (Quiet.add rfl rfl (by omega)) rfl ?_
      refine G.q (Quiet.assign rfl) rfl ?_
      refine G.nil ?_
      refine G.then_n ?_
      have e1 : pendTo ρ.Pend i = pendTo ρ.Pend (i + 1) := by rw [pendTo, if_neg (by simp [h20, hi2])]
      rw [e1]
      refine G.round (i + 1, a, c) (by dsimp only; omega) (by dsimp only; omega) ⟨rfl, rfl, rfl, trivial⟩ (by (repeat (first | exact Picks.nil | (apply Picks.cons; (repeat (first | exact Pick.here | apply Pick.there)))))) (by (repeat (first | exact Suff.here | apply Suff.there)))
  · have hi2 : i = ρ.Pend.length := by omega
    subst hi2
    refine G.exit ?_
    refine G.then_e ?_
    refine G.then_e ?_
    refine G.blk_e ?_
    refine G.then_n ?_
    refine G.seq ?_
    refine G.region ?_
    refine G.q (Quiet.move rfl) rfl ?_
    refine G.q (Quiet.assign rfl) rfl ?_
    refine G.nil ?_
    refine G.then_n ?_
    refine G.ret ?_
    refine G.rkFold (ρ := ρ) (by (repeat (first | exact Picks.nil | (apply Picks.cons; (repeat (first | exact Pick.here | apply Pick.there)))))) rfl ⟨rfl, rfl⟩ ⟨rfl, rfl⟩ ⟨rfl, rfl⟩ hok ?_
    exact G.done (l := [.tmp 2]) rfl rfl ⟨⟨_, _, rfl⟩, rfl⟩ (by (repeat (first | exact Picks.nil | (apply Picks.cons; (repeat (first | exact Pick.here | apply Pick.there)))))) (by (repeat (first | exact Suff.here | apply Suff.there)))

set_option maxRecDepth 100000 in
theorem rcrash_spec (x : Nat) (ρ : Rk) (hv : Value) (how : List Int) (p : HP) (hr : ∀ h : Hp, p h → rdS 1 h hv how.length (ints how)) (hb : ∀ z ∈ how, -9223372036854775808 ≤ z ∧ z ≤ 9223372036854775807) : Fn Try.prog 58 #[vptr x, hv] [rkR x ρ, p] fun v L => v = .tuple #[] ∧ L = [rkR x (ρ.crash how), p] := by
  refine Fn.intro (vs := [vptr x, hv]) Try.func58 rfl rfl ?_
  intro F W
  refine G.rdAny (p := p) hr (by (repeat (first | exact Pick.here | apply Pick.there))) fun ah ch e _ => ?_
  subst e
  refine G.seq ?_
  refine G.region ?_
  refine G.q (Quiet.move rfl) rfl ?_
  refine G.op (OpSpec.call Try.func107 rfl rfl (vs := [_]) rfl (rpend_spec x ρ)) (by (repeat (first | exact Picks.nil | (apply Picks.cons; (repeat (first | exact Pick.here | apply Pick.there)))))) rfl ?nx2
  rintro v L' ⟨⟨al, cl, rfl⟩, rfl⟩
  refine G.q (Quiet.assign rfl) rfl ?_
  refine G.nil ?_
  refine G.then_n ?_
  refine G.seq ?_
  refine G.seq ?_
  refine G.rkOpen (x := x) (ρ := ρ) (by (repeat (first | exact Pick.here | apply Pick.there))) fun vL0 vO0 vP0 hok0 => ?_
  refine G.rkFold (ρ := ρ) (by (repeat (first | exact Picks.nil | (apply Picks.cons; (repeat (first | exact Pick.here | apply Pick.there)))))) rfl ⟨rfl, rfl⟩ ⟨rfl, rfl⟩ ⟨rfl, rfl⟩ hok0 ?_
  have hle := pendTo_len ρ.Pend ρ.Pend.length
  have hbg := hok0.big
  have hpd := hok0.pend
  have hle2 : ρ.pending.length ≤ 32768 := by rw [Rk.pending]; omega
  refine G.region ?_
  refine G.q (Quiet.assign rfl) rfl ?_
  refine G.nil ?_
  refine G.then_n ?_
  refine G.block ?_
  refine G.loop (F := F) (ι := Nat) (fun k => [(0, vptr x), (1, .slice ah how.length ch), (4, .slice al ρ.pending.length cl), (5, vint k)]) (fun k => [rkR x (ρ.crashTo how k), p, intR (.slice al ρ.pending.length cl) ρ.pending]) (fun k => k ≤ ρ.pending.length) (fun k => ρ.pending.length - k) 0 (Nat.zero_le _) ⟨rfl, rfl, rfl, rfl, trivial⟩ (by (repeat (first | exact Picks.nil | (apply Picks.cons; (repeat (first | exact Pick.here | apply Pick.there)))))) (by (repeat (first | exact Suff.here | apply Suff.there))) ?_
  intro k hk
  refine G.seq ?_
  refine G.seq ?_
  refine G.region ?_
  refine G.q (Quiet.move rfl) rfl ?_
  refine G.q (Quiet.move rfl) rfl ?_
  refine G.q (Quiet.slen rfl Try.underlying40 rfl) rfl ?_
  refine G.q (Quiet.int rfl rfl rfl) rfl ?_
  refine G.nil ?_
  refine G.then_n ?_
  refine G.condD rfl (fun h14 => ?_) (fun h14 => ?_)
  · have hk2 : k < ρ.pending.length := by omega
    have hfb := fate0 how hb k
    refine G.skip ?_
    refine G.then_n ?_
    refine G.seq ?_
    refine G.block ?_
    refine G.seq ?_
    refine G.region ?_
    refine G.q (Quiet.assign rfl) rfl ?_
    refine G.nil ?_
    refine G.then_n ?_
    refine G.seq ?_
    refine G.join (F := F) (ι := Unit) (fun _ => [(0, vptr x), (1, .slice ah how.length ch), (4, .slice al ρ.pending.length cl), (5, vint k), (6, vint (if k < how.length then how.getD k 0 else 0))]) (fun _ => [rkR x (ρ.crashTo how k), p, intR (.slice al ρ.pending.length cl) ρ.pending]) (fun _ => True) ?_ (fun _ _ => ?_)
    · refine G.seq ?_
      refine G.region ?_
      refine G.q (Quiet.move rfl) rfl ?_
      refine G.q (Quiet.move rfl) rfl ?_
      refine G.q (Quiet.slen rfl Try.underlying40 rfl) rfl ?_
      refine G.q (Quiet.int rfl rfl rfl) rfl ?_
      refine G.nil ?_
      refine G.then_n ?_
      refine G.condD rfl (fun h20 => ?_) (fun h20 => ?_)
      · have hk3 : k < how.length := by omega
        refine G.rdShape (p := p) hr (by (repeat (first | exact Pick.here | apply Pick.there))) (by omega) fun bh oh e => ?_
        subst e
        refine G.region ?_
        refine G.q (Quiet.move rfl) rfl ?_
        refine G.q (Quiet.move rfl) rfl ?_
        refine G.q (Quiet.indexAddr rfl rfl el_40 (by omega)) rfl ?_
        refine G.q (Quiet.loadEl (p := p) (i := k * 1) (v := vint (how.getD k 0)) rfl ag_3 (by (repeat (first | exact Pick.here | apply Pick.there))) hr (by simp [hk3])) rfl ?_
        refine G.q (Quiet.assign rfl) rfl ?_
        refine G.nil ?_
        refine G.then_n ?_
        exact G.meet () trivial ⟨rfl, rfl, rfl, rfl, (by show some (vint _) = some (vint _); rw [if_pos (by omega)]), trivial⟩ (by (repeat (first | exact Picks.nil | (apply Picks.cons; (repeat (first | exact Pick.here | apply Pick.there)))))) (by (repeat (first | exact Suff.here | apply Suff.there)))
      · refine G.skip ?_
        refine G.then_n ?_
        exact G.meet () trivial ⟨rfl, rfl, rfl, rfl, (by show some (vint _) = some (vint _); rw [if_neg (by omega)]), trivial⟩ (by (repeat (first | exact Picks.nil | (apply Picks.cons; (repeat (first | exact Pick.here | apply Pick.there)))))) (by (repeat (first | exact Suff.here | apply Suff.there)))
    have hraw : -9223372036854775808 ≤ (if k < how.length then how.getD k 0 else 0) ∧ (if k < how.length then how.getD k 0 else 0) ≤ 9223372036854775807 := by (split; (rename_i hk3; have e : how.getD k 0 = how[k] := (by simp [hk3]); rw [e]; exact hb _ (List.getElem_mem _)); omega)
    refine G.seq ?_
    refine G.join (F := F) (ι := Unit) (fun _ => [(0, vptr x), (1, .slice ah how.length ch), (4, .slice al ρ.pending.length cl), (5, vint k), (6, vint (fateOf how k))]) (fun _ => [rkR x (ρ.crashTo how k), p, intR (.slice al ρ.pending.length cl) ρ.pending]) (fun _ => True) ?_ (fun _ _ => ?_)
    · refine G.seq ?_
      refine G.region ?_
      refine G.q (Quiet.move rfl) rfl ?_
      refine G.q (Quiet.int rfl rfl rfl) rfl ?_
      refine G.nil ?_
      refine G.then_n ?_
      refine G.condD rfl (fun h26 => ?_) (fun h26 => ?_)
      · refine G.region ?_
        refine G.q (Quiet.move rfl) rfl ?_
        refine G.q (Quiet.add rfl rfl (by omega)) rfl ?_
        refine G.q (Quiet.neg rfl (by omega)) rfl ?_
        refine G.q (Quiet.assign rfl) rfl ?_
        refine G.nil ?_
        refine G.then_n ?_
        exact G.meet () trivial ⟨rfl, rfl, rfl, rfl, (by show some (vint _) = some (vint _); unfold fateOf; dsimp only; rw [if_pos h26]), trivial⟩ (by (repeat (first | exact Picks.nil | (apply Picks.cons; (repeat (first | exact Pick.here | apply Pick.there)))))) (by (repeat (first | exact Suff.here | apply Suff.there)))
      · refine G.skip ?_
        refine G.then_n ?_
        exact G.meet () trivial ⟨rfl, rfl, rfl, rfl, (by show some (vint _) = some (vint _); unfold fateOf; dsimp only; rw [if_neg h26]), trivial⟩ (by (repeat (first | exact Picks.nil | (apply Picks.cons; (repeat (first | exact Pick.here | apply Pick.there)))))) (by (repeat (first | exact Suff.here | apply Suff.there)))
    generalize hf : fateOf how k = f at hfb ⊢
    refine G.seq ?_
    refine G.slShape (v := .slice al _ cl) (by (repeat (first | exact Pick.here | apply Pick.there))) (by omega) fun bl cl' e ml _ => ?_
    simp only [Value.slice.injEq, true_and] at e
    obtain ⟨rfl, rfl⟩ := e
    obtain ⟨w0, w1, w2⟩ := Rk.pending_lt hok0 hk2
    obtain ⟨hok, hlen⟩ := Rk.crashTo_ok hok0 how k (by omega)
    generalize hi : ρ.pending.getD k 0 = i at w0 w1 w2
    generalize hσ : ρ.crashTo how k = σ at hok hlen ⊢
    refine G.region ?_
    refine G.q (Quiet.move rfl) rfl ?_
    refine G.q (Quiet.move rfl) rfl ?_
    refine G.q (Quiet.indexAddr rfl rfl el_40 (by omega)) rfl ?_
    refine G.q (Quiet.loadSl (v := vint i) (i := k * 1) rfl ag_3 (by (repeat (first | exact Pick.here | apply Pick.there))) (by simp [hk2, ← hi])) rfl ?_
    refine G.q (Quiet.assign rfl) rfl ?_
    refine G.nil ?_
    refine G.then_n ?_
    refine G.seq ?_
    refine G.region ?_
    refine G.q (Quiet.move rfl) rfl ?_
    refine G.q (Quiet.quoE rfl rfl (by omega) (by omega)) rfl ?_
    refine G.q (Quiet.remE rfl rfl (by omega) (by omega)) rfl ?_
    refine G.q (Quiet.assign rfl) rfl ?_
    refine G.nil ?_
    refine G.then_n ?_
    refine G.seq ?_
    refine G.seq ?_
    refine G.rkOpen (x := x) (ρ := σ) (by (repeat (first | exact Pick.here | apply Pick.there))) fun vL vO vP _ => ?_
    have ho := hok.old
    have hp := hok.pend
    refine G.slAny (v := vL) (by (repeat (first | exact Pick.here | apply Pick.there))) fun aL cL e lL => ?_
    subst e
    refine G.slAny (v := vO) (by (repeat (first | exact Pick.here | apply Pick.there))) fun aO cO e lO => ?_
    subst e
    refine G.slAny (v := vP) (by (repeat (first | exact Pick.here | apply Pick.there))) fun aP cP e lP => ?_
    subst e
    refine G.slShape (v := .slice aL _ cL) (by (repeat (first | exact Pick.here | apply Pick.there))) (by omega) fun bL cL' e mL _ => ?_
    simp only [Value.slice.injEq, true_and] at e
    obtain ⟨rfl, rfl⟩ := e
    refine G.slShape (v := .slice aO _ cO) (by (repeat (first | exact Pick.here | apply Pick.there))) (by omega) fun bO cO' e mO _ => ?_
    simp only [Value.slice.injEq, true_and] at e
    obtain ⟨rfl, rfl⟩ := e
    refine G.slShape (v := .slice aP _ cP) (by (repeat (first | exact Pick.here | apply Pick.there))) (by omega) fun bP cP' e mP _ => ?_
    simp only [Value.slice.injEq, true_and] at e
    obtain ⟨rfl, rfl⟩ := e
    have g1 := getD_mem64 hok.sec (i := i.toNat) (by omega)
    have g2 := getD_mem64 hok.olds (i := i.toNat) (by omega)
    refine G.region ?_
    refine G.q (Quiet.move rfl) rfl ?_
    refine G.q (Quiet.remE rfl rfl (by omega) (by omega)) rfl ?_
    refine G.nil ?_
    refine G.then_n ?_
    refine G.block ?_
    refine G.seq ?_
    refine G.region ?_
    refine G.q (Quiet.int rfl rfl rfl) rfl ?_
    refine G.q (Quiet.assign rfl) rfl ?_
    refine G.nil ?_
    refine G.then_n ?_
    refine G.condD rfl (fun h39 => ?_) (fun h39 => ?_)
    · refine G.draw [13] [[0, 1, 2, 3, 4, 5, 6, 7, 8, 9, 10, 11, 12, 13]] mixed (by kernel_rfl) ?_
      refine Phases.go [] (by (repeat (first | exact Picks.nil | (apply Picks.cons; (repeat (first | exact Pick.here | apply Pick.there)))))) ?_
      refine D.qw [1, 2, 3, 12, 13] rfl (by kernel_rfl) (Quiet.move rfl) ?_
      refine D.qw [2, 3, 12, 13] rfl (by kernel_rfl) (Quiet.nilp rfl) ?_
      refine D.qw [3, 12, 13] rfl (by kernel_rfl) (Quiet.fieldAddr rfl fo_102_0) ?_
      refine D.qw [12, 13] rfl (by kernel_rfl) (Quiet.load rfl ag_22 (by (repeat (first | exact Pick.here | apply Pick.there))) (rfl)) ?_
      refine D.qw [12, 13] rfl (by kernel_rfl) (Quiet.move rfl) ?_
      refine D.qw [6, 7, 8, 10, 11, 12, 13] rfl (by kernel_rfl) (Quiet.move rfl) ?_
      refine D.qw [7, 8, 10, 11, 12, 13] rfl (by kernel_rfl) (Quiet.nilp rfl) ?_
      refine D.qw [8, 10, 11, 12, 13] rfl (by kernel_rfl) (Quiet.fieldAddr rfl fo_102_1) ?_
      refine D.qw [10, 11, 12, 13] rfl (by kernel_rfl) (Quiet.load rfl ag_22 (by (repeat (first | exact Pick.here | apply Pick.there))) (rfl)) ?_
      refine D.qw [10, 11, 12, 13] rfl (by kernel_rfl) (Quiet.move rfl) ?_
      refine D.qw [11, 12, 13] rfl (by kernel_rfl) (Quiet.indexAddr rfl rfl el_22 (by omega)) ?_
      refine D.qw [12, 13] rfl (by kernel_rfl) (Quiet.loadSl (v := vstr (σ.Old.getD i.toNat [])) (i := i.toNat * 1) rfl ag_9 (by (repeat (first | exact Pick.here | apply Pick.there))) (by simp [ho, hlen, w1])) ?_
      refine D.qw [13] rfl (by kernel_rfl) (Quiet.indexAddr rfl rfl el_22 (by omega)) ?_
      refine D.h rfl (by kernel_rfl) (OpSpec.storeEl (i := i.toNat * 1) rfl rfl rfl sz_9 ?hi44) (by (repeat (first | exact Picks.nil | (apply Picks.cons; (repeat (first | exact Pick.here | apply Pick.there)))))) ?nx45
      case hi44 => omega
      rintro v L' rfl
      refine D.ph ?_
      refine Phases.fin ?_
      refine G.blk_n ?_
      refine G.then_n ?_
      refine G.seq ?_
      have c0 := σ.crash1_len f i.toNat
      have eL : (strs σ.L).set (i.toNat * 1) (vstr (σ.Old.getD i.toNat [])) = strs (σ.crash1 f i.toNat).L := by simp [Rk.crash1, h39, List.map_set]
      rw [eL]
      have cl1 : i.toNat < (σ.crash1 f i.toNat).L.length := by rw [c0.1]; omega
      refine G.draw [13] [[0, 1, 2, 3, 4, 5, 6, 7, 8, 9, 10, 11, 12, 13]] mixed (by kernel_rfl) ?_
      refine Phases.go [] (by (repeat (first | exact Picks.nil | (apply Picks.cons; (repeat (first | exact Pick.here | apply Pick.there)))))) ?_
      refine D.qw [1, 2, 3, 12, 13] rfl (by kernel_rfl) (Quiet.move rfl) ?_
      refine D.qw [2, 3, 12, 13] rfl (by kernel_rfl) (Quiet.nilp rfl) ?_
      refine D.qw [3, 12, 13] rfl (by kernel_rfl) (Quiet.fieldAddr rfl fo_102_1) ?_
      refine D.qw [12, 13] rfl (by kernel_rfl) (Quiet.load rfl ag_22 (by (repeat (first | exact Pick.here | apply Pick.there))) (rfl)) ?_
      refine D.qw [12, 13] rfl (by kernel_rfl) (Quiet.move rfl) ?_
      refine D.qw [6, 7, 8, 10, 11, 12, 13] rfl (by kernel_rfl) (Quiet.move rfl) ?_
      refine D.qw [7, 8, 10, 11, 12, 13] rfl (by kernel_rfl) (Quiet.nilp rfl) ?_
      refine D.qw [8, 10, 11, 12, 13] rfl (by kernel_rfl) (Quiet.fieldAddr rfl fo_102_0) ?_
      refine D.qw [10, 11, 12, 13] rfl (by kernel_rfl) (Quiet.load rfl ag_22 (by (repeat (first | exact Pick.here | apply Pick.there))) (rfl)) ?_
      refine D.qw [10, 11, 12, 13] rfl (by kernel_rfl) (Quiet.move rfl) ?_
      refine D.qw [11, 12, 13] rfl (by kernel_rfl) (Quiet.indexAddr rfl rfl el_22 (by omega)) ?_
      refine D.qw [12, 13] rfl (by kernel_rfl) (Quiet.loadSl (v := vstr ((σ.crash1 f i.toNat).L.getD i.toNat [])) (i := i.toNat * 1) rfl ag_9 (by (repeat (first | exact Pick.here | apply Pick.there))) (by simp [cl1])) ?_
      refine D.qw [13] rfl (by kernel_rfl) (Quiet.indexAddr rfl rfl el_22 (by omega)) ?_
      refine D.h rfl (by kernel_rfl) (OpSpec.storeEl (i := i.toNat * 1) rfl rfl rfl sz_9 ?hi57) (by (repeat (first | exact Picks.nil | (apply Picks.cons; (repeat (first | exact Pick.here | apply Pick.there)))))) ?nx58
      case hi57 => omega
      rintro v L' rfl
      refine D.ph ?_
      refine Phases.fin ?_
      refine G.then_n ?_
      refine G.region ?_
      refine G.q (Quiet.move rfl) rfl ?_
      refine G.q (Quiet.nilp rfl) rfl ?_
      refine G.q (Quiet.fieldAddr rfl fo_102_2) rfl ?_
      refine G.q (Quiet.load rfl ag_83 (by (repeat (first | exact Pick.here | apply Pick.there))) (rfl)) rfl ?_
      refine G.q (Quiet.move rfl) rfl ?_
      refine G.q (Quiet.indexAddr rfl rfl el_83 (by omega)) rfl ?_
      refine G.op (OpSpec.storeEl (i := i.toNat * 1) rfl rfl rfl sz_4 ?hi64) (by (repeat (first | exact Picks.nil | (apply Picks.cons; (repeat (first | exact Pick.here | apply Pick.there)))))) rfl ?nx65
      case hi64 => omega
      rintro v L' rfl
      refine G.nil ?_
      refine G.blk_n ?_
      refine G.then_n ?_
      have hE : σ.crash1 f i.toNat = ρ.crashTo how (k + 1) := by rw [Rk.crashTo, hσ, hf, hi]
      refine G.rkFold (ρ := σ.crash1 f i.toNat) (by (repeat (first | exact Picks.nil | (apply Picks.cons; (repeat (first | exact Pick.here | apply Pick.there)))))) rfl ⟨c0.1.symm, rfl⟩ ⟨c0.2.1.symm, by simp [Rk.crash1, List.map_set]⟩ ⟨c0.2.2.symm, by simp [Rk.crash1, List.map_set]⟩ (hok.crash1 f (by omega)) ?_
      rw [hE]
      refine G.region ?_
      refine G.q (Quiet.move rfl) rfl ?_
      refine G.q (Quiet.add rfl rfl (by omega)) rfl ?_
      refine G.q (Quiet.assign rfl) rfl ?_
      refine G.nil ?_
      refine G.then_n ?_
      refine G.round (k + 1) (by omega) (by omega) ⟨rfl, rfl, rfl, rfl, trivial⟩ (by (repeat (first | exact Picks.nil | (apply Picks.cons; (repeat (first | exact Pick.here | apply Pick.there)))))) (by (repeat (first | exact Suff.here | apply Suff.there)))
    · refine G.seq ?_
      refine G.region ?_
      refine G.q (Quiet.int rfl rfl rfl) rfl ?_
      refine G.q (Quiet.assign rfl) rfl ?_
      refine G.nil ?_
      refine G.then_n ?_
      refine G.condD rfl (fun h54 => ?_) (fun h54 => ?_)
      · refine G.draw [25] [[0, 1, 2, 3, 4, 5, 6, 7, 8, 9, 10, 11, 12, 13, 14, 15, 16, 17, 18, 19, 20, 21, 22, 23, 24, 25]] mixed (by kernel_rfl) ?_
        refine Phases.go [] (by (repeat (first | exact Picks.nil | (apply Picks.cons; (repeat (first | exact Pick.here | apply Pick.there)))))) ?_
        refine D.qw [1, 2, 3, 24, 25] rfl (by kernel_rfl) (Quiet.move rfl) ?_
        refine D.qw [2, 3, 24, 25] rfl (by kernel_rfl) (Quiet.nilp rfl) ?_
        refine D.qw [3, 24, 25] rfl (by kernel_rfl) (Quiet.fieldAddr rfl fo_102_0) ?_
        refine D.qw [24, 25] rfl (by kernel_rfl) (Quiet.load rfl ag_22 (by (repeat (first | exact Pick.here | apply Pick.there))) (rfl)) ?_
        refine D.qw [24, 25] rfl (by kernel_rfl) (Quiet.move rfl) ?_
        refine D.qw [6, 7, 8, 10, 11, 13, 23, 24, 25] rfl (by kernel_rfl) (Quiet.move rfl) ?_
        refine D.qw [7, 8, 10, 11, 13, 23, 24, 25] rfl (by kernel_rfl) (Quiet.nilp rfl) ?_
        refine D.qw [8, 10, 11, 13, 23, 24, 25] rfl (by kernel_rfl) (Quiet.fieldAddr rfl fo_102_0) ?_
        refine D.qw [10, 11, 13, 23, 24, 25] rfl (by kernel_rfl) (Quiet.load rfl ag_22 (by (repeat (first | exact Pick.here | apply Pick.there))) (rfl)) ?_
        refine D.qw [10, 11, 13, 23, 24, 25] rfl (by kernel_rfl) (Quiet.move rfl) ?_
        refine D.qw [11, 13, 23, 24, 25] rfl (by kernel_rfl) (Quiet.indexAddr rfl rfl el_22 (by omega)) ?_
        refine D.qw [13, 23, 24, 25] rfl (by kernel_rfl) (Quiet.loadSl (v := vstr (σ.L.getD i.toNat [])) (i := i.toNat * 1) rfl ag_9 (by (repeat (first | exact Pick.here | apply Pick.there))) (by simp [hlen, w1])) ?_
        refine D.qw [13, 23, 24, 25] rfl (by kernel_rfl) (Quiet.move rfl) ?_
        refine D.qw [23, 24, 25] rfl (by kernel_rfl) (Quiet.strTo rfl rfl Try.underlying9 (by rw [g1]; omega)) ?_
        refine D.qw [15, 16, 17, 19, 20, 22, 23, 24, 25] rfl (by kernel_rfl) (Quiet.move rfl) ?_
        refine D.qw [16, 17, 19, 20, 22, 23, 24, 25] rfl (by kernel_rfl) (Quiet.nilp rfl) ?_
        refine D.qw [17, 19, 20, 22, 23, 24, 25] rfl (by kernel_rfl) (Quiet.fieldAddr rfl fo_102_1) ?_
        refine D.qw [19, 20, 22, 23, 24, 25] rfl (by kernel_rfl) (Quiet.load rfl ag_22 (by (repeat (first | exact Pick.here | apply Pick.there))) (rfl)) ?_
        refine D.qw [19, 20, 22, 23, 24, 25] rfl (by kernel_rfl) (Quiet.move rfl) ?_
        refine D.qw [20, 22, 23, 24, 25] rfl (by kernel_rfl) (Quiet.indexAddr rfl rfl el_22 (by omega)) ?_
        refine D.qw [22, 23, 24, 25] rfl (by kernel_rfl) (Quiet.loadSl (v := vstr (σ.Old.getD i.toNat [])) (i := i.toNat * 1) rfl ag_9 (by (repeat (first | exact Pick.here | apply Pick.there))) (by simp [ho, hlen, w1])) ?_
        refine D.qw [22, 23, 24, 25] rfl (by kernel_rfl) (Quiet.move rfl) ?_
        refine D.qw [23, 24, 25] rfl (by kernel_rfl) (Quiet.strFrom rfl rfl Try.underlying9 (by rw [g2]; omega)) ?_
        refine D.qw [24, 25] rfl (by kernel_rfl) (Quiet.concat rfl rfl (by simp only [List.length_take, List.length_drop, g1, g2]; omega)) ?_
        refine D.qw [25] rfl (by kernel_rfl) (Quiet.indexAddr rfl rfl el_22 (by omega)) ?_
        refine D.h rfl (by kernel_rfl) (OpSpec.storeEl (i := i.toNat * 1) rfl rfl rfl sz_9 ?hi89) (by (repeat (first | exact Picks.nil | (apply Picks.cons; (repeat (first | exact Pick.here | apply Pick.there)))))) ?nx90
        case hi89 => omega
        rintro v L' rfl
        refine D.ph ?_
        refine Phases.fin ?_
        refine G.blk_n ?_
        refine G.then_n ?_
        refine G.seq ?_
        have c0 := σ.crash1_len f i.toNat
        have eL : (strs σ.L).set (i.toNat * 1) (vstr ((σ.L.getD i.toNat []).take (f / 3 % 65).toNat ++ (σ.Old.getD i.toNat []).drop (f / 3 % 65).toNat)) = strs (σ.crash1 f i.toNat).L := by simp [Rk.crash1, h54, List.map_set]
        rw [eL]
        have cl1 : i.toNat < (σ.crash1 f i.toNat).L.length := by rw [c0.1]; omega
        refine G.draw [13] [[0, 1, 2, 3, 4, 5, 6, 7, 8, 9, 10, 11, 12, 13]] mixed (by kernel_rfl) ?_
        refine Phases.go [] (by (repeat (first | exact Picks.nil | (apply Picks.cons; (repeat (first | exact Pick.here | apply Pick.there)))))) ?_
        refine D.qw [1, 2, 3, 12, 13] rfl (by kernel_rfl) (Quiet.move rfl) ?_
        refine D.qw [2, 3, 12, 13] rfl (by kernel_rfl) (Quiet.nilp rfl) ?_
        refine D.qw [3, 12, 13] rfl (by kernel_rfl) (Quiet.fieldAddr rfl fo_102_1) ?_
        refine D.qw [12, 13] rfl (by kernel_rfl) (Quiet.load rfl ag_22 (by (repeat (first | exact Pick.here | apply Pick.there))) (rfl)) ?_
        refine D.qw [12, 13] rfl (by kernel_rfl) (Quiet.move rfl) ?_
        refine D.qw [6, 7, 8, 10, 11, 12, 13] rfl (by kernel_rfl) (Quiet.move rfl) ?_
        refine D.qw [7, 8, 10, 11, 12, 13] rfl (by kernel_rfl) (Quiet.nilp rfl) ?_
        refine D.qw [8, 10, 11, 12, 13] rfl (by kernel_rfl) (Quiet.fieldAddr rfl fo_102_0) ?_
        refine D.qw [10, 11, 12, 13] rfl (by kernel_rfl) (Quiet.load rfl ag_22 (by (repeat (first | exact Pick.here | apply Pick.there))) (rfl)) ?_
        refine D.qw [10, 11, 12, 13] rfl (by kernel_rfl) (Quiet.move rfl) ?_
        refine D.qw [11, 12, 13] rfl (by kernel_rfl) (Quiet.indexAddr rfl rfl el_22 (by omega)) ?_
        refine D.qw [12, 13] rfl (by kernel_rfl) (Quiet.loadSl (v := vstr ((σ.crash1 f i.toNat).L.getD i.toNat [])) (i := i.toNat * 1) rfl ag_9 (by (repeat (first | exact Pick.here | apply Pick.there))) (by simp [cl1])) ?_
        refine D.qw [13] rfl (by kernel_rfl) (Quiet.indexAddr rfl rfl el_22 (by omega)) ?_
        refine D.h rfl (by kernel_rfl) (OpSpec.storeEl (i := i.toNat * 1) rfl rfl rfl sz_9 ?hi102) (by (repeat (first | exact Picks.nil | (apply Picks.cons; (repeat (first | exact Pick.here | apply Pick.there)))))) ?nx103
        case hi102 => omega
        rintro v L' rfl
        refine D.ph ?_
        refine Phases.fin ?_
        refine G.then_n ?_
        refine G.region ?_
        refine G.q (Quiet.move rfl) rfl ?_
        refine G.q (Quiet.nilp rfl) rfl ?_
        refine G.q (Quiet.fieldAddr rfl fo_102_2) rfl ?_
        refine G.q (Quiet.load rfl ag_83 (by (repeat (first | exact Pick.here | apply Pick.there))) (rfl)) rfl ?_
        refine G.q (Quiet.move rfl) rfl ?_
        refine G.q (Quiet.indexAddr rfl rfl el_83 (by omega)) rfl ?_
        refine G.op (OpSpec.storeEl (i := i.toNat * 1) rfl rfl rfl sz_4 ?hi109) (by (repeat (first | exact Picks.nil | (apply Picks.cons; (repeat (first | exact Pick.here | apply Pick.there)))))) rfl ?nx110
        case hi109 => omega
        rintro v L' rfl
        refine G.nil ?_
        refine G.blk_n ?_
        refine G.then_n ?_
        have hE : σ.crash1 f i.toNat = ρ.crashTo how (k + 1) := by rw [Rk.crashTo, hσ, hf, hi]
        refine G.rkFold (ρ := σ.crash1 f i.toNat) (by (repeat (first | exact Picks.nil | (apply Picks.cons; (repeat (first | exact Pick.here | apply Pick.there)))))) rfl ⟨c0.1.symm, rfl⟩ ⟨c0.2.1.symm, by simp [Rk.crash1, List.map_set]⟩ ⟨c0.2.2.symm, by simp [Rk.crash1, List.map_set]⟩ (hok.crash1 f (by omega)) ?_
        rw [hE]
        refine G.region ?_
        refine G.q (Quiet.move rfl) rfl ?_
        refine G.q (Quiet.add rfl rfl (by omega)) rfl ?_
        refine G.q (Quiet.assign rfl) rfl ?_
        refine G.nil ?_
        refine G.then_n ?_
        refine G.round (k + 1) (by omega) (by omega) ⟨rfl, rfl, rfl, rfl, trivial⟩ (by (repeat (first | exact Picks.nil | (apply Picks.cons; (repeat (first | exact Pick.here | apply Pick.there)))))) (by (repeat (first | exact Suff.here | apply Suff.there)))
      · refine G.skip ?_
        refine G.blk_n ?_
        refine G.then_n ?_
        refine G.seq ?_
        have c0 := σ.crash1_len f i.toNat
        have eL : strs σ.L = strs (σ.crash1 f i.toNat).L := by simp [Rk.crash1, h39, h54]
        refine G.focus (p := slR 9 1 (.slice (some ⟨bL, 0, none⟩) σ.L.length cL) σ.L.length (strs σ.L)) (by (repeat (first | exact Pick.here | apply Pick.there))) ?_
        rw [eL]
        have cl1 : i.toNat < (σ.crash1 f i.toNat).L.length := by rw [c0.1]; omega
        refine G.draw [13] [[0, 1, 2, 3, 4, 5, 6, 7, 8, 9, 10, 11, 12, 13]] mixed (by kernel_rfl) ?_
        refine Phases.go [] (by (repeat (first | exact Picks.nil | (apply Picks.cons; (repeat (first | exact Pick.here | apply Pick.there)))))) ?_
        refine D.qw [1, 2, 3, 12, 13] rfl (by kernel_rfl) (Quiet.move rfl) ?_
        refine D.qw [2, 3, 12, 13] rfl (by kernel_rfl) (Quiet.nilp rfl) ?_
        refine D.qw [3, 12, 13] rfl (by kernel_rfl) (Quiet.fieldAddr rfl fo_102_1) ?_
        refine D.qw [12, 13] rfl (by kernel_rfl) (Quiet.load rfl ag_22 (by (repeat (first | exact Pick.here | apply Pick.there))) (rfl)) ?_
        refine D.qw [12, 13] rfl (by kernel_rfl) (Quiet.move rfl) ?_
        refine D.qw [6, 7, 8, 10, 11, 12, 13] rfl (by kernel_rfl) (Quiet.move rfl) ?_
        refine D.qw [7, 8, 10, 11, 12, 13] rfl (by kernel_rfl) (Quiet.nilp rfl) ?_
        refine D.qw [8, 10, 11, 12, 13] rfl (by kernel_rfl) (Quiet.fieldAddr rfl fo_102_0) ?_
        refine D.qw [10, 11, 12, 13] rfl (by kernel_rfl) (Quiet.load rfl ag_22 (by (repeat (first | exact Pick.here | apply Pick.there))) (rfl)) ?_
        refine D.qw [10, 11, 12, 13] rfl (by kernel_rfl) (Quiet.move rfl) ?_
        refine D.qw [11, 12, 13] rfl (by kernel_rfl) (Quiet.indexAddr rfl rfl el_22 (by omega)) ?_
        refine D.qw [12, 13] rfl (by kernel_rfl) (Quiet.loadSl (v := vstr ((σ.crash1 f i.toNat).L.getD i.toNat [])) (i := i.toNat * 1) rfl ag_9 (by (repeat (first | exact Pick.here | apply Pick.there))) (by simp [cl1])) ?_
        refine D.qw [13] rfl (by kernel_rfl) (Quiet.indexAddr rfl rfl el_22 (by omega)) ?_
        refine D.h rfl (by kernel_rfl) (OpSpec.storeEl (i := i.toNat * 1) rfl rfl rfl sz_9 ?hi124) (by (repeat (first | exact Picks.nil | (apply Picks.cons; (repeat (first | exact Pick.here | apply Pick.there)))))) ?nx125
        case hi124 => omega
        rintro v L' rfl
        refine D.ph ?_
        refine Phases.fin ?_
        refine G.then_n ?_
        refine G.region ?_
        refine G.q (Quiet.move rfl) rfl ?_
        refine G.q (Quiet.nilp rfl) rfl ?_
        refine G.q (Quiet.fieldAddr rfl fo_102_2) rfl ?_
        refine G.q (Quiet.load rfl ag_83 (by (repeat (first | exact Pick.here | apply Pick.there))) (rfl)) rfl ?_
        refine G.q (Quiet.move rfl) rfl ?_
        refine G.q (Quiet.indexAddr rfl rfl el_83 (by omega)) rfl ?_
        refine G.op (OpSpec.storeEl (i := i.toNat * 1) rfl rfl rfl sz_4 ?hi131) (by (repeat (first | exact Picks.nil | (apply Picks.cons; (repeat (first | exact Pick.here | apply Pick.there)))))) rfl ?nx132
        case hi131 => omega
        rintro v L' rfl
        refine G.nil ?_
        refine G.blk_n ?_
        refine G.then_n ?_
        have hE : σ.crash1 f i.toNat = ρ.crashTo how (k + 1) := by rw [Rk.crashTo, hσ, hf, hi]
        refine G.rkFold (ρ := σ.crash1 f i.toNat) (by (repeat (first | exact Picks.nil | (apply Picks.cons; (repeat (first | exact Pick.here | apply Pick.there)))))) rfl ⟨c0.1.symm, rfl⟩ ⟨c0.2.1.symm, by simp [Rk.crash1, List.map_set]⟩ ⟨c0.2.2.symm, by simp [Rk.crash1, List.map_set]⟩ (hok.crash1 f (by omega)) ?_
        rw [hE]
        refine G.region ?_
        refine G.q (Quiet.move rfl) rfl ?_
        refine G.q (Quiet.add rfl rfl (by omega)) rfl ?_
        refine G.q (Quiet.assign rfl) rfl ?_
        refine G.nil ?_
        refine G.then_n ?_
        refine G.round (k + 1) (by omega) (by omega) ⟨rfl, rfl, rfl, rfl, trivial⟩ (by (repeat (first | exact Picks.nil | (apply Picks.cons; (repeat (first | exact Pick.here | apply Pick.there)))))) (by (repeat (first | exact Suff.here | apply Suff.there)))
  · have hk2 : k = ρ.pending.length := by omega
    subst hk2
    obtain ⟨hok, hlen⟩ := Rk.crashTo_ok hok0 how ρ.pending.length (by omega)
    refine G.rkOpen (ρ := ρ.crashTo how ρ.pending.length) (by (repeat (first | exact Pick.here | apply Pick.there))) fun vL vO vP _ => ?_
    refine G.exit ?_
    refine G.then_e ?_
    refine G.then_e ?_
    refine G.blk_e ?_
    refine G.then_n ?_
    refine G.seq ?_
    refine G.region ?_
    refine G.q (Quiet.move rfl) rfl ?_
    refine G.q (Quiet.nilp rfl) rfl ?_
    refine G.q (Quiet.fieldAddr rfl fo_102_5) rfl ?_
    refine G.op (OpSpec.store rfl rfl rfl sz_4 ?c138 ?c139) (by (repeat (first | exact Picks.nil | (apply Picks.cons; (repeat (first | exact Pick.here | apply Pick.there)))))) rfl ?nx140
    case c138 => first | decide | (simp; omega) | simp
    case c139 => exact nfz0 _ _
    rintro v L' rfl
    refine G.nil ?_
    refine G.then_n ?_
    refine G.region ?_
    refine G.q (Quiet.move rfl) rfl ?_
    refine G.q (Quiet.nilp rfl) rfl ?_
    refine G.q (Quiet.fieldAddr rfl fo_102_4) rfl ?_
    refine G.op (OpSpec.store rfl rfl rfl sz_3 ?c144 ?c145) (by (repeat (first | exact Picks.nil | (apply Picks.cons; (repeat (first | exact Pick.here | apply Pick.there)))))) rfl ?nx146
    case c144 => first | decide | (simp; omega) | simp
    case c145 => exact nfz0 _ _
    rintro v L' rfl
    refine G.nil ?_
    refine G.done_n ?_
    refine G.rkFold (ρ := ρ.crash how) (by (repeat (first | exact Picks.nil | (apply Picks.cons; (repeat (first | exact Pick.here | apply Pick.there)))))) rfl ⟨rfl, rfl⟩ ⟨rfl, rfl⟩ ⟨rfl, rfl⟩ ⟨hok.old, hok.pend, hok.big, hok.sec, hok.olds⟩ ?_
    exact G.done (l := []) rfl rfl ⟨rfl, rfl⟩ (by (repeat (first | exact Picks.nil | (apply Picks.cons; (repeat (first | exact Pick.here | apply Pick.there)))))) (by (repeat (first | exact Suff.here | apply Suff.there)))

end Go.Proofs.Ytepncdidkjjllaa
