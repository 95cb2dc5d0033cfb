/- Own work, by program: WalOpens: walked. -/
import Derived.Test.YtepncdidkjjllaaRef4c
namespace Go.Proofs.Ytepncdidkjjllaa
open Go
set_option maxRecDepth 100000 in
theorem asks7_spec (s d x l y : Nat) (ω : Wl) (δ : Dk) (ρ : Rk) (hL : ρ.L = δ.now) (hn : 2 ≤ δ.now.length ∧ δ.now.length ≤ 32768) (hfit : (laidZ ω.recs).length ≤ 4000000) : Fn Try.prog 20 #[vptr s, .agg #[vint 7, vint 0, vint 0, .slice none 0 0, .slice none 0 0]] [ptc s [vptr d, vptr l, vptr x, vptr y] 37, wlR l d ω, rlR y x ω, dkR d δ, rkR x ρ] fun v L => v = .bool true ∧ L = [ptc s [vptr d, vptr l, vptr x, vptr y] 37, wlR l d ω, rlR y x ω, dkR d δ, rkR x ρ] := by
  refine Fn.intro (vs := [vptr s, .agg #[vint 7, vint 0, vint 0, .slice none 0 0, .slice none 0 0]]) Try.func20 rfl rfl ?_
  intro F W
  refine G.rlOpen (ω := ω) (by (repeat (first | exact Pick.here | apply Pick.there))) fun vr => ?_
  refine G.slAny (v := vr) (by (repeat (first | exact Pick.here | apply Pick.there))) fun ar cr e _ => ?_
  subst e
  refine G.rkOpen (ρ := ρ) (by (repeat (first | exact Pick.here | apply Pick.there))) fun vL vO vP hrok => ?_
  rw [hL]
  have hlm := laidZ_many ω.recs
  refine G.seq ?_
  refine G.region ?_
  refine G.op (OpSpec.box rfl) (by (repeat (first | exact Picks.nil | (apply Picks.cons; (repeat (first | exact Pick.here | apply Pick.there)))))) rfl ?nx1
  rintro v L' ⟨bo, rfl, rfl⟩
  refine G.q (Quiet.assign rfl) rfl ?_
  refine G.nil ?_
  refine G.ptCast (b := bo) (l' := [vint 7, vint 0, vint 0, .slice none 0 0, .slice none 0 0]) (by (repeat (first | exact Pick.here | apply Pick.there))) rfl ?_
  refine G.then_n ?_
  refine G.seq ?_
  refine G.seq ?_
  refine G.region ?_
  refine G.q (Quiet.fieldAddr rfl fo_42_0) rfl ?_
  refine G.q (Quiet.load rfl ag_3 (by (repeat (first | exact Pick.here | apply Pick.there))) (rfl)) rfl ?_
  refine G.nil ?_
  refine G.then_n ?_
  refine G.block ?_
  refine G.seq ?_
  refine G.region ?_
  refine G.q (Quiet.as (v' := .bool false) (by rfl) (Quiet.int rfl rfl rfl)) rfl ?_
  refine G.q (Quiet.assign rfl) rfl ?_
  refine G.nil ?_
  refine G.then_n ?_
  refine G.condF rfl ?_
  refine G.seq ?_
  refine G.region ?_
  refine G.q (Quiet.as (v' := .bool true) (by rfl) (Quiet.int rfl rfl rfl)) rfl ?_
  refine G.q (Quiet.assign rfl) rfl ?_
  refine G.nil ?_
  refine G.then_n ?_
  refine G.condT rfl ?_
  refine G.seq ?_
  refine G.region ?_
  refine G.q (Quiet.move rfl) rfl ?_
  refine G.q (Quiet.nilp rfl) rfl ?_
  refine G.q (Quiet.fieldAddr rfl fo_37_1) rfl ?_
  refine G.q (Quiet.load rfl ag_34 (by (repeat (first | exact Pick.here | apply Pick.there))) (rfl)) rfl ?_
  refine G.op (OpSpec.call Try.func69 rfl rfl (vs := [_]) rfl (wmarks_spec l d ω)) (by (repeat (first | exact Picks.nil | (apply Picks.cons; (repeat (first | exact Pick.here | apply Pick.there)))))) rfl ?nx12
  rintro v L' ⟨rfl, rfl⟩
  refine G.q (Quiet.move rfl) rfl ?_
  refine G.q (Quiet.extract (vs := [vint ω.a, vint ω.b]) rfl rfl) rfl ?_
  refine G.q (Quiet.extract (vs := [vint ω.a, vint ω.b]) rfl rfl) rfl ?_
  refine G.q (Quiet.assign rfl) rfl ?_
  refine G.q (Quiet.assign rfl) rfl ?_
  refine G.nil ?_
  refine G.then_n ?_
  refine G.seq ?_
  refine G.draw [] [[0, 1, 2, 3, 4, 5, 6, 7, 8, 9, 10, 11, 12, 13, 14, 15, 16, 17, 18, 19, 20, 21, 22, 23, 24, 25, 26, 27, 28, 29, 30, 31, 32, 33, 34, 35, 36, 37, 38, 39, 40, 41, 42, 43, 44, 45, 46, 47, 48, 49, 50, 51, 52, 53, 54, 55, 56, 57, 58, 59, 60, 61, 62, 63, 64]] mixed (by kernel_rfl) ?_
  refine Phases.go [ptc s _ _, wlR l d ω, ptc y _ _, strR (.slice ar ω.recs.length cr) ω.recs, rkC x vL vO vP ρ.N ρ.At ρ.Gone, strR vL δ.now, dkR d δ] (by (repeat (first | exact Picks.nil | (apply Picks.cons; (repeat (first | exact Pick.here | apply Pick.there)))))) ?_
  refine D.qw [1, 2, 3, 4, 13, 14, 15, 16, 17, 18, 19, 20, 21, 22, 23, 24, 25, 26, 27, 28, 29, 30, 31, 32, 33, 34, 35, 36, 37, 38, 39, 40, 41, 42, 43, 44, 45, 46, 47, 48, 49, 50, 51, 52, 53, 54, 55, 56, 57, 58, 59, 60, 61, 62, 63, 64] rfl (by kernel_rfl) (Quiet.move rfl) ?_
  refine D.qw [2, 3, 4, 13, 14, 15, 16, 17, 18, 19, 20, 21, 22, 23, 24, 25, 26, 27, 28, 29, 30, 31, 32, 33, 34, 35, 36, 37, 38, 39, 40, 41, 42, 43, 44, 45, 46, 47, 48, 49, 50, 51, 52, 53, 54, 55, 56, 57, 58, 59, 60, 61, 62, 63, 64] rfl (by kernel_rfl) (Quiet.nilp rfl) ?_
  refine D.qw [3, 4, 13, 14, 15, 16, 17, 18, 19, 20, 21, 22, 23, 24, 25, 26, 27, 28, 29, 30, 31, 32, 33, 34, 35, 36, 37, 38, 39, 40, 41, 42, 43, 44, 45, 46, 47, 48, 49, 50, 51, 52, 53, 54, 55, 56, 57, 58, 59, 60, 61, 62, 63, 64] rfl (by kernel_rfl) (Quiet.fieldAddr rfl fo_37_1) ?_
  refine D.qw [4, 13, 14, 15, 16, 17, 18, 19, 20, 21, 22, 23, 24, 25, 26, 27, 28, 29, 30, 31, 32, 33, 34, 35, 36, 37, 38, 39, 40, 41, 42, 43, 44, 45, 46, 47, 48, 49, 50, 51, 52, 53, 54, 55, 56, 57, 58, 59, 60, 61, 62, 63, 64] rfl (by kernel_rfl) (Quiet.load rfl ag_34 (by (repeat (first | exact Pick.here | apply Pick.there))) (rfl)) ?_
  refine D.m rfl (by kernel_rfl) (OpSpec.call Try.func26 rfl rfl (vs := [_]) rfl (wlen_spec l d ω)) (by (repeat (first | exact Picks.nil | (apply Picks.cons; (repeat (first | exact Pick.here | apply Pick.there)))))) ?nx20
  refine D.qw [6, 7, 8, 9, 10, 11, 12, 13, 14, 15, 16, 17, 18, 19, 20, 21, 22, 23, 24, 25, 26, 27, 28, 29, 30, 31, 32, 33, 34, 35, 36, 37, 38, 39, 40, 41, 42, 43, 44, 45, 46, 47, 48, 49, 50, 51, 52, 53, 54, 55, 56, 57, 58, 59, 60, 61, 62, 63, 64] rfl (by kernel_rfl) (Quiet.move rfl) ?_
  refine D.qw [7, 8, 9, 10, 11, 12, 13, 14, 15, 16, 17, 18, 19, 20, 21, 22, 23, 24, 25, 26, 27, 28, 29, 30, 31, 32, 33, 34, 35, 36, 37, 38, 39, 40, 41, 42, 43, 44, 45, 46, 47, 48, 49, 50, 51, 52, 53, 54, 55, 56, 57, 58, 59, 60, 61, 62, 63, 64] rfl (by kernel_rfl) (Quiet.nilp rfl) ?_
  refine D.qw [8, 9, 10, 11, 12, 13, 14, 15, 16, 17, 18, 19, 20, 21, 22, 23, 24, 25, 26, 27, 28, 29, 30, 31, 32, 33, 34, 35, 36, 37, 38, 39, 40, 41, 42, 43, 44, 45, 46, 47, 48, 49, 50, 51, 52, 53, 54, 55, 56, 57, 58, 59, 60, 61, 62, 63, 64] rfl (by kernel_rfl) (Quiet.fieldAddr rfl fo_37_3) ?_
  refine D.qw [9, 10, 11, 12, 13, 14, 15, 16, 17, 18, 19, 20, 21, 22, 23, 24, 25, 26, 27, 28, 29, 30, 31, 32, 33, 34, 35, 36, 37, 38, 39, 40, 41, 42, 43, 44, 45, 46, 47, 48, 49, 50, 51, 52, 53, 54, 55, 56, 57, 58, 59, 60, 61, 62, 63, 64] rfl (by kernel_rfl) (Quiet.load rfl ag_35 (by (repeat (first | exact Pick.here | apply Pick.there))) (rfl)) ?_
  refine D.qw [10, 11, 12, 13, 14, 15, 16, 17, 18, 19, 20, 21, 22, 23, 24, 25, 26, 27, 28, 29, 30, 31, 32, 33, 34, 35, 36, 37, 38, 39, 40, 41, 42, 43, 44, 45, 46, 47, 48, 49, 50, 51, 52, 53, 54, 55, 56, 57, 58, 59, 60, 61, 62, 63, 64] rfl (by kernel_rfl) (Quiet.nilp rfl) ?_
  refine D.qw [11, 12, 13, 14, 15, 16, 17, 18, 19, 20, 21, 22, 23, 24, 25, 26, 27, 28, 29, 30, 31, 32, 33, 34, 35, 36, 37, 38, 39, 40, 41, 42, 43, 44, 45, 46, 47, 48, 49, 50, 51, 52, 53, 54, 55, 56, 57, 58, 59, 60, 61, 62, 63, 64] rfl (by kernel_rfl) (Quiet.fieldAddr rfl fo_113_1) ?_
  refine D.qw [12, 13, 14, 15, 16, 17, 18, 19, 20, 21, 22, 23, 24, 25, 26, 27, 28, 29, 30, 31, 32, 33, 34, 35, 36, 37, 38, 39, 40, 41, 42, 43, 44, 45, 46, 47, 48, 49, 50, 51, 52, 53, 54, 55, 56, 57, 58, 59, 60, 61, 62, 63, 64] rfl (by kernel_rfl) (Quiet.load rfl ag_22 (by (repeat (first | exact Pick.here | apply Pick.there))) (rfl)) ?_
  refine D.qw [13, 14, 15, 16, 17, 18, 19, 20, 21, 22, 23, 24, 25, 26, 27, 28, 29, 30, 31, 32, 33, 34, 35, 36, 37, 38, 39, 40, 41, 42, 43, 44, 45, 46, 47, 48, 49, 50, 51, 52, 53, 54, 55, 56, 57, 58, 59, 60, 61, 62, 63, 64] rfl (by kernel_rfl) (Quiet.slen rfl Try.underlying22 rfl) ?_
  refine D.qw [14, 15, 16, 17, 18, 19, 20, 21, 22, 23, 24, 25, 26, 27, 28, 29, 30, 31, 32, 33, 34, 35, 36, 37, 38, 39, 40, 41, 42, 43, 44, 45, 46, 47, 48, 49, 50, 51, 52, 53, 54, 55, 56, 57, 58, 59, 60, 61, 62, 63, 64] rfl (by kernel_rfl) (Quiet.as (v' := .bool true) (by simp) (Quiet.int rfl rfl rfl)) ?_
  refine D.qw [15, 16, 17, 18, 19, 20, 21, 22, 23, 24, 25, 26, 27, 28, 29, 30, 31, 32, 33, 34, 35, 36, 37, 38, 39, 40, 41, 42, 43, 44, 45, 46, 47, 48, 49, 50, 51, 52, 53, 54, 55, 56, 57, 58, 59, 60, 61, 62, 63, 64] rfl (by kernel_rfl) (Quiet.move rfl) ?_
  refine D.gqw [16, 17, 18, 19, 27, 28, 29, 30, 31, 32, 33, 34, 35, 36, 37, 38, 39, 40, 41, 42, 43, 44, 45, 46, 47, 48, 49, 50, 51, 52, 53, 54, 55, 56, 57, 58, 59, 60, 61, 62, 63, 64] (t := 108) rfl rfl rfl (by kernel_rfl) (Quiet.move rfl) ?_
  refine D.gqw [17, 18, 19, 27, 28, 29, 30, 31, 32, 33, 34, 35, 36, 37, 38, 39, 40, 41, 42, 43, 44, 45, 46, 47, 48, 49, 50, 51, 52, 53, 54, 55, 56, 57, 58, 59, 60, 61, 62, 63, 64] (t := 108) rfl rfl rfl (by kernel_rfl) (Quiet.nilp rfl) ?_
  refine D.gqw [18, 19, 27, 28, 29, 30, 31, 32, 33, 34, 35, 36, 37, 38, 39, 40, 41, 42, 43, 44, 45, 46, 47, 48, 49, 50, 51, 52, 53, 54, 55, 56, 57, 58, 59, 60, 61, 62, 63, 64] (t := 108) rfl rfl rfl (by kernel_rfl) (Quiet.fieldAddr rfl fo_37_1) ?_
  refine D.gqw [19, 27, 28, 29, 30, 31, 32, 33, 34, 35, 36, 37, 38, 39, 40, 41, 42, 43, 44, 45, 46, 47, 48, 49, 50, 51, 52, 53, 54, 55, 56, 57, 58, 59, 60, 61, 62, 63, 64] (t := 108) rfl rfl rfl (by kernel_rfl) (Quiet.load rfl ag_34 (by (repeat (first | exact Pick.here | apply Pick.there))) (rfl)) ?_
  refine D.gm (t := 108) rfl rfl rfl (by kernel_rfl) (OpSpec.call Try.func70 rfl rfl (vs := [_]) rfl (wsynced_spec l d ω)) (by (repeat (first | exact Picks.nil | (apply Picks.cons; (repeat (first | exact Pick.here | apply Pick.there)))))) ?nx35
  refine D.gqw [21, 22, 23, 24, 25, 26, 27, 28, 29, 30, 31, 32, 33, 34, 35, 36, 37, 38, 39, 40, 41, 42, 43, 44, 45, 46, 47, 48, 49, 50, 51, 52, 53, 54, 55, 56, 57, 58, 59, 60, 61, 62, 63, 64] (t := 108) rfl rfl rfl (by kernel_rfl) (Quiet.move rfl) ?_
  refine D.gqw [22, 23, 24, 25, 26, 27, 28, 29, 30, 31, 32, 33, 34, 35, 36, 37, 38, 39, 40, 41, 42, 43, 44, 45, 46, 47, 48, 49, 50, 51, 52, 53, 54, 55, 56, 57, 58, 59, 60, 61, 62, 63, 64] (t := 108) rfl rfl rfl (by kernel_rfl) (Quiet.nilp rfl) ?_
  refine D.gqw [23, 24, 25, 26, 27, 28, 29, 30, 31, 32, 33, 34, 35, 36, 37, 38, 39, 40, 41, 42, 43, 44, 45, 46, 47, 48, 49, 50, 51, 52, 53, 54, 55, 56, 57, 58, 59, 60, 61, 62, 63, 64] (t := 108) rfl rfl rfl (by kernel_rfl) (Quiet.fieldAddr rfl fo_37_3) ?_
  refine D.gqw [24, 25, 26, 27, 28, 29, 30, 31, 32, 33, 34, 35, 36, 37, 38, 39, 40, 41, 42, 43, 44, 45, 46, 47, 48, 49, 50, 51, 52, 53, 54, 55, 56, 57, 58, 59, 60, 61, 62, 63, 64] (t := 108) rfl rfl rfl (by kernel_rfl) (Quiet.load rfl ag_35 (by (repeat (first | exact Pick.here | apply Pick.there))) (rfl)) ?_
  refine D.gqw [25, 26, 27, 28, 29, 30, 31, 32, 33, 34, 35, 36, 37, 38, 39, 40, 41, 42, 43, 44, 45, 46, 47, 48, 49, 50, 51, 52, 53, 54, 55, 56, 57, 58, 59, 60, 61, 62, 63, 64] (t := 108) rfl rfl rfl (by kernel_rfl) (Quiet.nilp rfl) ?_
  refine D.gqw [26, 27, 28, 29, 30, 31, 32, 33, 34, 35, 36, 37, 38, 39, 40, 41, 42, 43, 44, 45, 46, 47, 48, 49, 50, 51, 52, 53, 54, 55, 56, 57, 58, 59, 60, 61, 62, 63, 64] (t := 108) rfl rfl rfl (by kernel_rfl) (Quiet.fieldAddr rfl fo_113_2) ?_
  refine D.gqw [27, 28, 29, 30, 31, 32, 33, 34, 35, 36, 37, 38, 39, 40, 41, 42, 43, 44, 45, 46, 47, 48, 49, 50, 51, 52, 53, 54, 55, 56, 57, 58, 59, 60, 61, 62, 63, 64] (t := 108) rfl rfl rfl (by kernel_rfl) (Quiet.load rfl ag_3 (by (repeat (first | exact Pick.here | apply Pick.there))) (rfl)) ?_
  refine D.gqw [28, 29, 30, 31, 32, 33, 34, 35, 36, 37, 38, 39, 40, 41, 42, 43, 44, 45, 46, 47, 48, 49, 50, 51, 52, 53, 54, 55, 56, 57, 58, 59, 60, 61, 62, 63, 64] (t := 108) rfl rfl rfl (by kernel_rfl) (Quiet.as (v' := .bool true) (by simp) (Quiet.int rfl rfl rfl)) ?_
  refine D.qw [29, 30, 31, 32, 33, 34, 35, 36, 37, 38, 39, 40, 41, 42, 43, 44, 45, 46, 47, 48, 49, 50, 51, 52, 53, 54, 55, 56, 57, 58, 59, 60, 61, 62, 63, 64] rfl (by kernel_rfl) (Quiet.pickT rfl rfl) ?_
  refine D.qw [30, 31, 32, 33, 34, 35, 36, 37, 38, 39, 40, 41, 42, 43, 44, 45, 46, 47, 48, 49, 50, 51, 52, 53, 54, 55, 56, 57, 58, 59, 60, 61, 62, 63, 64] rfl (by kernel_rfl) (Quiet.move rfl) ?_
  refine D.gqw [31, 32, 33, 34, 39, 40, 41, 42, 43, 44, 45, 46, 47, 48, 49, 50, 51, 52, 53, 54, 55, 56, 57, 58, 59, 60, 61, 62, 63, 64] (t := 123) rfl rfl rfl (by kernel_rfl) (Quiet.move rfl) ?_
  refine D.gqw [32, 33, 34, 39, 40, 41, 42, 43, 44, 45, 46, 47, 48, 49, 50, 51, 52, 53, 54, 55, 56, 57, 58, 59, 60, 61, 62, 63, 64] (t := 123) rfl rfl rfl (by kernel_rfl) (Quiet.nilp rfl) ?_
  refine D.gqw [33, 34, 39, 40, 41, 42, 43, 44, 45, 46, 47, 48, 49, 50, 51, 52, 53, 54, 55, 56, 57, 58, 59, 60, 61, 62, 63, 64] (t := 123) rfl rfl rfl (by kernel_rfl) (Quiet.fieldAddr rfl fo_37_1) ?_
  refine D.gqw [34, 39, 40, 41, 42, 43, 44, 45, 46, 47, 48, 49, 50, 51, 52, 53, 54, 55, 56, 57, 58, 59, 60, 61, 62, 63, 64] (t := 123) rfl rfl rfl (by kernel_rfl) (Quiet.load rfl ag_34 (by (repeat (first | exact Pick.here | apply Pick.there))) (rfl)) ?_
  refine D.gm (t := 123) rfl rfl rfl (by kernel_rfl) (OpSpec.call Try.func25 rfl rfl (vs := [_]) rfl (wroom_spec l d ω δ hn hfit)) (by (repeat (first | exact Picks.nil | (apply Picks.cons; (repeat (first | exact Pick.here | apply Pick.there)))))) ?nx49
  refine D.gqw [36, 37, 38, 39, 40, 41, 42, 43, 44, 45, 46, 47, 48, 49, 50, 51, 52, 53, 54, 55, 56, 57, 58, 59, 60, 61, 62, 63, 64] (t := 123) rfl rfl rfl (by kernel_rfl) (Quiet.move rfl) ?_
  refine D.gqw [37, 38, 39, 40, 41, 42, 43, 44, 45, 46, 47, 48, 49, 50, 51, 52, 53, 54, 55, 56, 57, 58, 59, 60, 61, 62, 63, 64] (t := 123) rfl rfl rfl (by kernel_rfl) (Quiet.nilp rfl) ?_
  refine D.gqw [38, 39, 40, 41, 42, 43, 44, 45, 46, 47, 48, 49, 50, 51, 52, 53, 54, 55, 56, 57, 58, 59, 60, 61, 62, 63, 64] (t := 123) rfl rfl rfl (by kernel_rfl) (Quiet.fieldAddr rfl fo_37_3) ?_
  refine D.gqw [39, 40, 41, 42, 43, 44, 45, 46, 47, 48, 49, 50, 51, 52, 53, 54, 55, 56, 57, 58, 59, 60, 61, 62, 63, 64] (t := 123) rfl rfl rfl (by kernel_rfl) (Quiet.load rfl ag_35 (by (repeat (first | exact Pick.here | apply Pick.there))) (rfl)) ?_
  refine D.gm (t := 123) rfl rfl rfl (by kernel_rfl) (OpSpec.call Try.func71 rfl rfl (vs := [_]) rfl (rroom_spec y x (.slice ar ω.recs.length cr) vL vO vP ρ.N ρ.At ω.synced ω.area ω.count ω.a ω.b ρ.Gone ω.doubt δ ω hn hfit)) (by (repeat (first | exact Picks.nil | (apply Picks.cons; (repeat (first | exact Pick.here | apply Pick.there)))))) ?nx55
  refine D.gqw [41, 42, 43, 44, 45, 46, 47, 48, 49, 50, 51, 52, 53, 54, 55, 56, 57, 58, 59, 60, 61, 62, 63, 64] (t := 123) rfl rfl rfl (by kernel_rfl) (Quiet.as (v' := .bool true) (by simp) (Quiet.int rfl rfl rfl)) ?_
  refine D.qw [42, 43, 44, 45, 46, 47, 48, 49, 50, 51, 52, 53, 54, 55, 56, 57, 58, 59, 60, 61, 62, 63, 64] rfl (by kernel_rfl) (Quiet.pickT rfl rfl) ?_
  refine D.qw [43, 44, 45, 46, 47, 48, 49, 50, 51, 52, 53, 54, 55, 56, 57, 58, 59, 60, 61, 62, 63, 64] rfl (by kernel_rfl) (Quiet.move rfl) ?_
  refine D.gqw [51, 52, 53, 54, 55, 56, 57, 58, 59, 60, 61, 62, 63, 64] (t := 136) rfl rfl rfl (by kernel_rfl) (Quiet.move rfl) ?_
  refine D.gqw [45, 46, 47, 48, 49, 50, 51, 52, 53, 54, 55, 56, 57, 58, 59, 60, 61, 62, 63, 64] (t := 136) rfl rfl rfl (by kernel_rfl) (Quiet.move rfl) ?_
  refine D.gqw [46, 47, 48, 49, 50, 51, 52, 53, 54, 55, 56, 57, 58, 59, 60, 61, 62, 63, 64] (t := 136) rfl rfl rfl (by kernel_rfl) (Quiet.nilp rfl) ?_
  refine D.gqw [47, 48, 49, 50, 51, 52, 53, 54, 55, 56, 57, 58, 59, 60, 61, 62, 63, 64] (t := 136) rfl rfl rfl (by kernel_rfl) (Quiet.fieldAddr rfl fo_37_3) ?_
  refine D.gqw [48, 49, 50, 51, 52, 53, 54, 55, 56, 57, 58, 59, 60, 61, 62, 63, 64] (t := 136) rfl rfl rfl (by kernel_rfl) (Quiet.load rfl ag_35 (by (repeat (first | exact Pick.here | apply Pick.there))) (rfl)) ?_
  refine D.gqw [49, 50, 51, 52, 53, 54, 55, 56, 57, 58, 59, 60, 61, 62, 63, 64] (t := 136) rfl rfl rfl (by kernel_rfl) (Quiet.nilp rfl) ?_
  refine D.gqw [50, 51, 52, 53, 54, 55, 56, 57, 58, 59, 60, 61, 62, 63, 64] (t := 136) rfl rfl rfl (by kernel_rfl) (Quiet.fieldAddr rfl fo_113_5) ?_
  refine D.gqw [51, 52, 53, 54, 55, 56, 57, 58, 59, 60, 61, 62, 63, 64] (t := 136) rfl rfl rfl (by kernel_rfl) (Quiet.load rfl ag_3 (by (repeat (first | exact Pick.here | apply Pick.there))) (rfl)) ?_
  refine D.gqw [52, 53, 54, 55, 56, 57, 58, 59, 60, 61, 62, 63, 64] (t := 136) rfl rfl rfl (by kernel_rfl) (Quiet.as (v' := .bool true) (by simp) (Quiet.int rfl rfl rfl)) ?_
  refine D.qw [53, 54, 55, 56, 57, 58, 59, 60, 61, 62, 63, 64] rfl (by kernel_rfl) (Quiet.pickT rfl rfl) ?_
  refine D.qw [54, 55, 56, 57, 58, 59, 60, 61, 62, 63, 64] rfl (by kernel_rfl) (Quiet.move rfl) ?_
  refine D.gqw [62, 63, 64] (t := 147) rfl rfl rfl (by kernel_rfl) (Quiet.move rfl) ?_
  refine D.gqw [56, 57, 58, 59, 60, 61, 62, 63, 64] (t := 147) rfl rfl rfl (by kernel_rfl) (Quiet.move rfl) ?_
  refine D.gqw [57, 58, 59, 60, 61, 62, 63, 64] (t := 147) rfl rfl rfl (by kernel_rfl) (Quiet.nilp rfl) ?_
  refine D.gqw [58, 59, 60, 61, 62, 63, 64] (t := 147) rfl rfl rfl (by kernel_rfl) (Quiet.fieldAddr rfl fo_37_3) ?_
  refine D.gqw [59, 60, 61, 62, 63, 64] (t := 147) rfl rfl rfl (by kernel_rfl) (Quiet.load rfl ag_35 (by (repeat (first | exact Pick.here | apply Pick.there))) (rfl)) ?_
  refine D.gqw [60, 61, 62, 63, 64] (t := 147) rfl rfl rfl (by kernel_rfl) (Quiet.nilp rfl) ?_
  refine D.gqw [61, 62, 63, 64] (t := 147) rfl rfl rfl (by kernel_rfl) (Quiet.fieldAddr rfl fo_113_6) ?_
  refine D.gqw [62, 63, 64] (t := 147) rfl rfl rfl (by kernel_rfl) (Quiet.load rfl ag_3 (by (repeat (first | exact Pick.here | apply Pick.there))) (rfl)) ?_
  refine D.gqw [63, 64] (t := 147) rfl rfl rfl (by kernel_rfl) (Quiet.as (v' := .bool true) (by simp) (Quiet.int rfl rfl rfl)) ?_
  refine D.qw [64] rfl (by kernel_rfl) (Quiet.pickT rfl rfl) ?_
  refine D.qw [] rfl (by kernel_rfl) (Quiet.assign rfl) ?_
  refine D.ph ?_
  refine Phases.fin ?_
  refine G.then_n ?_
  refine G.ret ?_
  refine G.blk_r ?_
  refine G.then_r ?_
  refine G.rlFold (y := y) (x := x) (ω := ω) (v := (.slice ar ω.recs.length cr)) (by (repeat (first | exact Picks.nil | (apply Picks.cons; (repeat (first | exact Pick.here | apply Pick.there)))))) rfl rfl rfl ?_
  refine G.rkFold (ρ := ρ) (by (repeat (first | exact Picks.nil | (apply Picks.cons; (repeat (first | exact Pick.here | apply Pick.there)))))) rfl ⟨by rw [hL], by rw [hL]⟩ ⟨rfl, rfl⟩ ⟨rfl, rfl⟩ hrok ?_
  exact G.done (l := [.tmp 4]) rfl rfl ⟨rfl, rfl⟩ (by (repeat (first | exact Picks.nil | (apply Picks.cons; (repeat (first | exact Pick.here | apply Pick.there)))))) (by (repeat (first | exact Suff.here | apply Suff.there)))

set_option maxRecDepth 100000 in
theorem wopens_spec (v0 : Value) (marks : List Bs) (area : Bs) (p : HP) (hp : ∀ h : Hp, p h → rdS 1 h v0 marks.length (strs marks)) (hml : marks.length ≤ maxLen) (hms : ∀ s ∈ marks, s.length ≤ maxLen) (hal : area.length ≤ maxLen) : Fn Try.prog 3 #[v0, vstr area] [p] fun v L => v = .bool true ∧ L = [p] := by
  refine Fn.intro (vs := [v0, vstr area]) Try.func3 rfl rfl ?_
  intro F W
  refine G.rdAny (p := p) hp (by (repeat (first | exact Pick.here | apply Pick.there))) fun aa ca e _ => ?_
  subst e
  refine G.seq ?_
  refine G.region ?_
  refine G.q (Quiet.assign rfl) rfl ?_
  refine G.nil ?_
  refine G.then_n ?_
  refine G.seq ?_
  refine G.region ?_
  refine G.op (OpSpec.call Try.func14 rfl rfl (vs := []) rfl (awake4_spec)) (by (repeat (first | exact Picks.nil | (apply Picks.cons; (repeat (first | exact Pick.here | apply Pick.there)))))) rfl ?nx2
  rintro v L' ⟨rfl, rfl⟩
  refine G.q (Quiet.assign rfl) rfl ?_
  refine G.nil ?_
  refine G.then_n ?_
  refine G.seq ?_
  refine G.region ?_
  refine G.op (OpSpec.call Try.func15 rfl rfl (vs := [_]) rfl (new_spec 16)) (by (repeat (first | exact Picks.nil | (apply Picks.cons; (repeat (first | exact Pick.here | apply Pick.there)))))) rfl ?nx4
  rintro v L' (⟨h, -, -⟩ | ⟨-, d, rfl, rfl⟩); · omega
  refine G.q (Quiet.move rfl) rfl ?_
  refine G.q (Quiet.extract rfl rfl) rfl ?_
  refine G.q (Quiet.extract rfl rfl) rfl ?_
  refine G.q (Quiet.assign rfl) rfl ?_
  refine G.q (Quiet.assign rfl) rfl ?_
  refine G.nil ?_
  refine G.then_n ?_
  refine G.seq ?_
  refine G.region ?_
  refine G.op (OpSpec.call Try.func16 rfl rfl (vs := [_]) rfl (rnew_spec 16)) (by (repeat (first | exact Picks.nil | (apply Picks.cons; (repeat (first | exact Pick.here | apply Pick.there)))))) rfl ?nx8
  rintro v L' (⟨h, -, -⟩ | ⟨-, x, rfl, rfl⟩); · omega
  rw [show (16 : Int).toNat = 16 from rfl]
  refine G.q (Quiet.move rfl) rfl ?_
  refine G.q (Quiet.extract rfl rfl) rfl ?_
  refine G.q (Quiet.extract rfl rfl) rfl ?_
  refine G.q (Quiet.assign rfl) rfl ?_
  refine G.q (Quiet.assign rfl) rfl ?_
  refine G.nil ?_
  refine G.then_n ?_
  refine G.seq ?_
  refine G.seq ?_
  refine G.region ?_
  refine G.q (Quiet.move rfl) rfl ?_
  refine G.q (Quiet.not rfl) rfl ?_
  refine G.q (Quiet.move rfl) rfl ?_
  refine G.grun (t := 27) rfl rfl rfl ?_
  refine G.q (Quiet.move rfl) rfl ?_
  refine G.grun (t := 27) rfl rfl rfl ?_
  refine G.q (Quiet.ptreq rfl rfl Try.underlying24) rfl ?_
  refine G.q (Quiet.pickF rfl rfl) rfl ?_
  refine G.q (Quiet.move rfl) rfl ?_
  refine G.grun (t := 31) rfl rfl rfl ?_
  refine G.q (Quiet.move rfl) rfl ?_
  refine G.grun (t := 31) rfl rfl rfl ?_
  refine G.q (Quiet.as (v' := .bool false) (by rfl) (Quiet.int rfl rfl rfl)) rfl ?_
  refine G.q (Quiet.pickF rfl rfl) rfl ?_
  refine G.q (Quiet.move rfl) rfl ?_
  refine G.grun (t := 35) rfl rfl rfl ?_
  refine G.q (Quiet.move rfl) rfl ?_
  refine G.grun (t := 35) rfl rfl rfl ?_
  refine G.q (Quiet.as (v' := .bool false) (by rfl) (Quiet.int rfl rfl rfl)) rfl ?_
  refine G.q (Quiet.pickF rfl rfl) rfl ?_
  refine G.nil ?_
  refine G.then_n ?_
  refine G.condF rfl ?_
  refine G.skip ?_
  refine G.then_n ?_
  refine G.seq ?_
  refine G.seq ?_
  refine G.region ?_
  refine G.q (Quiet.assign rfl) rfl ?_
  refine G.nil ?_
  refine G.then_n ?_
  refine G.block ?_
  refine G.loopK (ι := Nat × Dk × Rk) (fun q E => (10, vint q.1) :: E) (fun q => [dkR d q.2.1, rkR x q.2.2]) (fun q => q.1 ≤ 16 ∧ Twin q.2.1 q.2.2 q.1) (fun q => 16 - q.1) (0, Dk.new 16, Rk.new 16) (ts := [0, 1, 6, 8]) (.cons rfl (.cons rfl (.cons rfl (.cons rfl (.nil))))) (⟨Nat.zero_le _, twin_new⟩) ⟨rfl, rfl, rfl, rfl, rfl, trivial⟩ (by (repeat (first | exact Picks.nil | (apply Picks.cons; (repeat (first | exact Pick.here | apply Pick.there)))))) ?_
  rintro ⟨i, δ, ρ⟩ ⟨hi, hT⟩
  dsimp only
  dsimp only at hi hT
  refine G.seq ?_
  refine G.seq ?_
  refine G.region ?_
  refine G.q (Quiet.move rfl) rfl ?_
  refine G.q (Quiet.int rfl rfl rfl) rfl ?_
  refine G.nil ?_
  refine G.then_n ?_
  refine G.condD rfl (fun h40 => ?_) (fun h40 => ?_)
  · refine G.skip ?_
    refine G.then_n ?_
    refine G.seq ?_
    refine G.block ?_
    refine G.seq ?_
    refine G.region ?_
    refine G.q (Quiet.assign rfl) rfl ?_
    refine G.nil ?_
    refine G.then_n ?_
    refine G.seq ?_
    refine G.joinK (ι := Bs) (fun q E => (11, vstr q) :: E) (fun q => []) (fun q => q.length ≤ maxLen) (pre := []) (ts := [0, 1, 6, 8, 10, 39, 40]) (.cons rfl (.cons rfl (.cons rfl (.cons rfl (.cons rfl (.cons rfl (.cons rfl (.nil)))))))) (by (repeat (first | exact Picks.nil | (apply Picks.cons; (repeat (first | exact Pick.here | apply Pick.there)))))) ?_ ?_
    · refine G.seq ?_
      refine G.region ?_
      refine G.q (Quiet.move rfl) rfl ?_
      refine G.q (Quiet.int rfl rfl rfl) rfl ?_
      refine G.q (Quiet.move rfl) rfl ?_
      refine G.dec (t := 45) rfl (fun h10_45 => ?_) (fun h10_45 => ?_)
      · refine G.kDT (t := 44) rfl h10_45 ?_
        refine G.grun (t := 45) rfl rfl rfl ?_
        refine G.q (Quiet.move rfl) rfl ?_
        refine G.grun (t := 45) rfl rfl rfl ?_
        refine G.q (Quiet.move rfl) rfl ?_
        refine G.grun (t := 45) rfl rfl rfl ?_
        refine G.q (Quiet.slen rfl Try.underlying22 rfl) rfl ?_
        refine G.grun (t := 45) rfl rfl rfl ?_
        refine G.q (Quiet.int rfl rfl rfl) rfl ?_
        refine G.q (Quiet.pickT rfl rfl) rfl ?_
        refine G.nil ?_
        refine G.then_n ?_
        refine G.condD rfl (fun h50 => ?_) (fun h50 => ?_)
        · have hi2 : i < marks.length := by omega
          refine G.rdShape (p := p) hp (by (repeat (first | exact Pick.here | apply Pick.there))) (by omega) fun ba oa e => ?_
          subst e
          refine G.region ?_
          refine G.q (Quiet.move rfl) rfl ?_
          refine G.q (Quiet.move rfl) rfl ?_
          refine G.q (Quiet.indexAddr rfl rfl el_22 (by omega)) rfl ?_
          refine G.q (Quiet.loadRd (sz := 1) (j := i) (p := p) (v := vstr marks[i]) rfl ag_9 (by (repeat (first | exact Pick.here | apply Pick.there))) hp (by simp) (by simp [hi2])) rfl ?_
          refine G.q (Quiet.assign rfl) rfl ?_
          refine G.nil ?_
          refine G.then_n ?_
          exact G.meetK (marks[i]) (hms _ (List.getElem_mem hi2)) ⟨rfl, rfl, rfl, rfl, rfl, rfl, rfl, rfl, trivial⟩ (by (repeat (first | exact Picks.nil | (apply Picks.cons; (repeat (first | exact Pick.here | apply Pick.there)))))) (by ((repeat (apply Have.cons; (repeat (first | exact Pick.here | apply Pick.there)))); apply Have.base; repeat (first | exact Suff.here | apply Suff.there)))
        · refine G.skip ?_
          refine G.then_n ?_
          exact G.meetK ([]) (Nat.zero_le _) ⟨rfl, rfl, rfl, rfl, rfl, rfl, rfl, rfl, trivial⟩ (by (repeat (first | exact Picks.nil | (apply Picks.cons; (repeat (first | exact Pick.here | apply Pick.there)))))) (by ((repeat (apply Have.cons; (repeat (first | exact Pick.here | apply Pick.there)))); apply Have.base; repeat (first | exact Suff.here | apply Suff.there)))
      · refine G.kDF (t := 44) rfl h10_45 ?_
        refine G.gskip (t := 45) rfl rfl rfl rfl ?_
        refine G.gskip (t := 45) rfl rfl rfl rfl ?_
        refine G.gskip (t := 45) rfl rfl rfl rfl ?_
        refine G.gskip (t := 45) rfl rfl rfl rfl ?_
        refine G.q (Quiet.pickF rfl rfl) rfl ?_
        refine G.nil ?_
        refine G.then_n ?_
        refine G.condF rfl ?_
        refine G.skip ?_
        refine G.then_n ?_
        exact G.meetK ([]) (Nat.zero_le _) ⟨rfl, rfl, rfl, rfl, rfl, rfl, rfl, rfl, trivial⟩ (by (repeat (first | exact Picks.nil | (apply Picks.cons; (repeat (first | exact Pick.here | apply Pick.there)))))) (by ((repeat (apply Have.cons; (repeat (first | exact Pick.here | apply Pick.there)))); apply Have.base; repeat (first | exact Suff.here | apply Suff.there)))
    · rintro t ht
      refine G.seq ?_
      refine G.joinK (ι := Bs) (fun q E => (11, vstr q) :: E) (fun q => []) (fun q => q.length ≤ maxLen) (pre := []) (ts := [0, 1, 6, 8, 10, 39, 40]) (.cons rfl (.cons rfl (.cons rfl (.cons rfl (.cons rfl (.cons rfl (.cons rfl (.nil)))))))) (by (repeat (first | exact Picks.nil | (apply Picks.cons; (repeat (first | exact Pick.here | apply Pick.there)))))) ?_ ?_
      · refine G.seq ?_
        refine G.region ?_
        refine G.q (Quiet.move rfl) rfl ?_
        refine G.q (Quiet.int rfl rfl rfl) rfl ?_
        refine G.q (Quiet.move rfl) rfl ?_
        refine G.dec (t := 57) rfl (fun h12_57 => ?_) (fun h12_57 => ?_)
        · refine G.kDT (t := 56) rfl h12_57 ?_
          refine G.grun (t := 57) rfl rfl rfl ?_
          refine G.q (Quiet.move rfl) rfl ?_
          refine G.grun (t := 57) rfl rfl rfl ?_
          refine G.q (Quiet.strlen rfl Try.underlying9 rfl) rfl ?_
          refine G.grun (t := 57) rfl rfl rfl ?_
          refine G.q (Quiet.move rfl) rfl ?_
          refine G.grun (t := 57) rfl rfl rfl ?_
          refine G.q (Quiet.sub rfl rfl (by omega)) rfl ?_
          refine G.grun (t := 57) rfl rfl rfl ?_
          refine G.q (Quiet.mul rfl rfl (by omega)) rfl ?_
          refine G.grun (t := 57) rfl rfl rfl ?_
          refine G.q (Quiet.int rfl rfl rfl) rfl ?_
          refine G.q (Quiet.pickT rfl rfl) rfl ?_
          refine G.nil ?_
          refine G.then_n ?_
          refine G.condD rfl (fun h64 => ?_) (fun h64 => ?_)
          · refine G.region ?_
            refine G.q (Quiet.move rfl) rfl ?_
            refine G.q (Quiet.move rfl) rfl ?_
            refine G.q (Quiet.sub rfl rfl (by omega)) rfl ?_
            refine G.q (Quiet.mul rfl rfl (by omega)) rfl ?_
            refine G.q (Quiet.move rfl) rfl ?_
            refine G.q (Quiet.strlen rfl Try.underlying9 rfl) rfl ?_
            refine G.q (Quiet.move rfl) rfl ?_
            refine G.q (Quiet.sub rfl rfl (by omega)) rfl ?_
            refine G.q (Quiet.mul rfl rfl (by omega)) rfl ?_
            refine G.q (Quiet.min2 rfl rfl) rfl ?_
            refine G.q (Quiet.strMid (i := 64 * ((i : Int) - 2)) (j := min (area.length : Int) (64 * ((i : Int) - 1))) rfl rfl rfl Try.underlying9 (by omega)) rfl ?_
            refine G.q (Quiet.assign rfl) rfl ?_
            refine G.nil ?_
            refine G.then_n ?_
            exact G.meetK (_) (by have := hal; simp only [List.length_drop, List.length_take]; omega) ⟨rfl, rfl, rfl, rfl, rfl, rfl, rfl, rfl, trivial⟩ (by (repeat (first | exact Picks.nil | (apply Picks.cons; (repeat (first | exact Pick.here | apply Pick.there)))))) (by ((repeat (apply Have.cons; (repeat (first | exact Pick.here | apply Pick.there)))); apply Have.base; repeat (first | exact Suff.here | apply Suff.there)))
          · refine G.skip ?_
            refine G.then_n ?_
            exact G.meetK (t) (ht) ⟨rfl, rfl, rfl, rfl, rfl, rfl, rfl, rfl, trivial⟩ (by (repeat (first | exact Picks.nil | (apply Picks.cons; (repeat (first | exact Pick.here | apply Pick.there)))))) (by ((repeat (apply Have.cons; (repeat (first | exact Pick.here | apply Pick.there)))); apply Have.base; repeat (first | exact Suff.here | apply Suff.there)))
        · refine G.kDF (t := 56) rfl h12_57 ?_
          refine G.gskip (t := 57) rfl rfl rfl rfl ?_
          refine G.gskip (t := 57) rfl rfl rfl rfl ?_
          refine G.gskip (t := 57) rfl rfl rfl rfl ?_
          refine G.gskip (t := 57) rfl rfl rfl rfl ?_
          refine G.gskip (t := 57) rfl rfl rfl rfl ?_
          refine G.gskip (t := 57) rfl rfl rfl rfl ?_
          refine G.q (Quiet.pickF rfl rfl) rfl ?_
          refine G.nil ?_
          refine G.then_n ?_
          refine G.condF rfl ?_
          refine G.skip ?_
          refine G.then_n ?_
          exact G.meetK (t) (ht) ⟨rfl, rfl, rfl, rfl, rfl, rfl, rfl, rfl, trivial⟩ (by (repeat (first | exact Picks.nil | (apply Picks.cons; (repeat (first | exact Pick.here | apply Pick.there)))))) (by ((repeat (apply Have.cons; (repeat (first | exact Pick.here | apply Pick.there)))); apply Have.base; repeat (first | exact Suff.here | apply Suff.there)))
      · rintro t2 ht2
        refine G.seq ?_
        refine G.region ?_
        refine G.q (Quiet.move rfl) rfl ?_
        refine G.q (Quiet.move rfl) rfl ?_
        refine G.q (Quiet.strlen rfl Try.underlying9 rfl) rfl ?_
        refine G.q (Quiet.min2 rfl rfl) rfl ?_
        refine G.q (Quiet.strTo (j := min (t2.length : Int) 64) rfl rfl Try.underlying9 (by omega)) rfl ?_
        refine G.q (Quiet.assign rfl) rfl ?_
        refine G.nil ?_
        generalize ht3 : t2.take (min (t2.length : Int) 64).toNat = t3
        have hl3 : t3.length ≤ 64 := by rw [← ht3, List.length_take]; omega
        have hzl : (List.replicate (64 - (t3.length : Int)).toNat (0 : UInt8)).length = (64 - (t3.length : Int)).toNat := List.length_replicate
        refine G.then_n ?_
        refine G.seq ?_
        refine G.region ?_
        refine G.q (Quiet.move rfl) rfl ?_
        refine G.q (Quiet.move rfl) rfl ?_
        refine G.q (Quiet.strlen rfl Try.underlying9 rfl) rfl ?_
        refine G.q (Quiet.sub rfl rfl (by omega)) rfl ?_
        refine G.op (OpSpec.make rfl rfl el_31 ze_5 rfl ⟨by simp, by simp; rfl⟩ ?c58) (by (repeat (first | exact Picks.nil | (apply Picks.cons; (repeat (first | exact Pick.here | apply Pick.there)))))) rfl ?nx59
        case c58 => omega
        rintro v L' ⟨bz, rfl, rfl⟩
        refine G.q (Quiet.bytesPt (cs := (List.replicate (64 - (t3.length : Int)).toNat (0 : UInt8))) rfl Try.underlying31 Try.underlying5 Try.underlying9 (by (repeat (first | exact Pick.here | apply Pick.there))) (by first | (simp [List.map_replicate]; done) | (simp [List.map_replicate]; rfl)) (by simp) (by omega)) rfl ?_
        refine G.q (Quiet.concat rfl rfl (by omega)) rfl ?_
        refine G.q (Quiet.assign rfl) rfl ?_
        refine G.nil ?_
        generalize hst : t3 ++ (List.replicate (64 - (t3.length : Int)).toNat (0 : UInt8)) = st
        have hst64 : st.length = 64 := by rw [← hst, List.length_append, hzl]; omega
        have hac := hT.acts
        have hrn := hT.n
        have hsz := hT.size
        obtain ⟨hw1, hw2, hT2⟩ := twin_write hT (n := i) ⟨by omega, by omega⟩ hst64
        refine G.then_n ?_
        refine G.seq ?_
        refine G.region ?_
        refine G.q (Quiet.move rfl) rfl ?_
        refine G.q (Quiet.move rfl) rfl ?_
        refine G.q (Quiet.move rfl) rfl ?_
        refine G.op (OpSpec.call Try.func17 rfl rfl (vs := [_, _, _]) rfl (write_spec d δ i st (by omega))) (by (repeat (first | exact Picks.nil | (apply Picks.cons; (repeat (first | exact Pick.here | apply Pick.there)))))) rfl ?nx65
        rintro v L' ⟨rfl, rfl⟩; rw [hw1]
        refine G.q (Quiet.as (v' := .bool false) (by rfl) (Quiet.int rfl rfl rfl)) rfl ?_
        refine G.q (Quiet.move rfl) rfl ?_
        refine G.grun (t := 93) rfl rfl rfl ?_
        refine G.q (Quiet.move rfl) rfl ?_
        refine G.grun (t := 93) rfl rfl rfl ?_
        refine G.q (Quiet.move rfl) rfl ?_
        refine G.grun (t := 93) rfl rfl rfl ?_
        refine G.q (Quiet.move rfl) rfl ?_
        refine G.grun (t := 93) rfl rfl rfl ?_
        refine G.op (OpSpec.call Try.func18 rfl rfl (vs := [_, _, _]) rfl (rwrite_spec x ρ i st ⟨by omega, by omega⟩)) (by (repeat (first | exact Picks.nil | (apply Picks.cons; (repeat (first | exact Pick.here | apply Pick.there)))))) rfl ?nx70
        rintro v L' ⟨rfl, rfl⟩; rw [hw2]
        refine G.grun (t := 93) rfl rfl rfl ?_
        refine G.q (Quiet.as (v' := .bool false) (by rfl) (Quiet.int rfl rfl rfl)) rfl ?_
        refine G.q (Quiet.pickF rfl rfl) rfl ?_
        refine G.nil ?_
        refine G.then_n ?_
        refine G.condF rfl ?_
        refine G.skip ?_
        refine G.blk_n ?_
        refine G.then_n ?_
        refine G.region ?_
        refine G.q (Quiet.move rfl) rfl ?_
        refine G.q (Quiet.add rfl rfl (by omega)) rfl ?_
        refine G.q (Quiet.assign rfl) rfl ?_
        refine G.nil ?_
        refine G.then_n ?_
        exact G.roundK ((i + 1, (δ.write i st).1, (ρ.write i st).1)) (⟨by dsimp only; omega, hT2⟩) (by dsimp only; omega) ⟨rfl, rfl, rfl, rfl, rfl, trivial⟩ (by (repeat (first | exact Picks.nil | (apply Picks.cons; (repeat (first | exact Pick.here | apply Pick.there)))))) (by ((repeat (apply Have.cons; (repeat (first | exact Pick.here | apply Pick.there)))); apply Have.base; repeat (first | exact Suff.here | apply Suff.there)))
  · refine G.exit ?_
    refine G.then_e ?_
    refine G.then_e ?_
    refine G.blk_e ?_
    refine G.then_n ?_
    refine G.seq ?_
    have hsz := hT.size
    have hac := hT.acts
    refine G.region ?_
    refine G.q (Quiet.move rfl) rfl ?_
    refine G.q (Quiet.move rfl) rfl ?_
    refine G.q (Quiet.build (us := [(0, _), (2, _)]) fl_37 ze_37 rfl rfl (by simp [isCell])) rfl ?_
    refine G.op (OpSpec.box rfl) (by (repeat (first | exact Picks.nil | (apply Picks.cons; (repeat (first | exact Pick.here | apply Pick.there)))))) rfl ?nx78
    rintro v L' ⟨s, rfl, rfl⟩
    refine G.q (Quiet.assign rfl) rfl ?_
    refine G.nil ?_
    refine G.ptCast (b := s) (l' := [vptr d, .pointer none, vptr x, .pointer none]) (by (repeat (first | exact Pick.here | apply Pick.there))) rfl ?_
    refine G.then_n ?_
    refine G.seq ?_
    refine G.dkOk (d := d) (δ := δ) (by (repeat (first | exact Pick.here | apply Pick.there))) fun hok => ?_
    refine G.region ?_
    refine G.q (Quiet.move rfl) rfl ?_
    refine G.op (OpSpec.call Try.func19 rfl rfl (vs := [_, _]) rfl (sopens_spec s d x δ ρ hT.L hT.al.dead hT.gone ⟨by omega, by omega⟩)) (by (repeat (first | exact Picks.nil | (apply Picks.cons; (repeat (first | exact Pick.here | apply Pick.there)))))) rfl ?nx80
    rintro v L' (⟨hop, rfl, rfl⟩ | ⟨ω, hop, l, y, rfl, rfl⟩)
    · refine G.q (Quiet.assign rfl) rfl ?_
      refine G.nil ?_
      refine G.then_n ?_
      refine G.seq ?_
      refine G.seq ?_
      refine G.region ?_
      refine G.q (Quiet.move rfl) rfl ?_
      refine G.q (Quiet.as (v' := .bool false) (by rfl) (Quiet.not rfl)) rfl ?_
      refine G.q (Quiet.move rfl) rfl ?_
      refine G.grun (t := 108) rfl rfl rfl ?_
      refine G.q (Quiet.move rfl) rfl ?_
      refine G.grun (t := 108) rfl rfl rfl ?_
      refine G.q (Quiet.nilp rfl) rfl ?_
      refine G.grun (t := 108) rfl rfl rfl ?_
      refine G.q (Quiet.fieldAddr rfl fo_37_1) rfl ?_
      refine G.grun (t := 108) rfl rfl rfl ?_
      refine G.q (Quiet.load rfl ag_34 (by (repeat (first | exact Pick.here | apply Pick.there))) (rfl)) rfl ?_
      refine G.grun (t := 108) rfl rfl rfl ?_
      refine G.q (Quiet.ptreq rfl rfl Try.underlying34) rfl ?_
      refine G.q (Quiet.pickF rfl rfl) rfl ?_
      refine G.nil ?_
      refine G.then_n ?_
      refine G.condT rfl ?_
      refine G.seq ?_
      refine G.region ?_
      refine G.q (Quiet.move rfl) rfl ?_
      refine G.q (Quiet.assign rfl) rfl ?_
      refine G.nil ?_
      refine G.then_n ?_
      refine G.ret ?_
      refine G.then_r ?_
      exact G.done (l := [.tmp 4]) rfl rfl ⟨rfl, rfl⟩ (by (repeat (first | exact Picks.nil | (apply Picks.cons; (repeat (first | exact Pick.here | apply Pick.there)))))) (by (repeat (first | exact Suff.here | apply Suff.there)))
    · obtain ⟨hdb, hfit⟩ := open_facts hok (by omega) hop
      have hh := half_le (δ := δ) ⟨by omega, by omega⟩
      have hlm := laidZ_many ω.recs
      refine G.q (Quiet.assign rfl) rfl ?_
      refine G.nil ?_
      refine G.then_n ?_
      refine G.seq ?_
      refine G.seq ?_
      refine G.region ?_
      refine G.q (Quiet.move rfl) rfl ?_
      refine G.q (Quiet.as (v' := .bool false) (by rfl) (Quiet.not rfl)) rfl ?_
      refine G.q (Quiet.move rfl) rfl ?_
      refine G.grun (t := 108) rfl rfl rfl ?_
      refine G.q (Quiet.move rfl) rfl ?_
      refine G.grun (t := 108) rfl rfl rfl ?_
      refine G.q (Quiet.nilp rfl) rfl ?_
      refine G.grun (t := 108) rfl rfl rfl ?_
      refine G.q (Quiet.fieldAddr rfl fo_37_1) rfl ?_
      refine G.grun (t := 108) rfl rfl rfl ?_
      refine G.q (Quiet.load rfl ag_34 (by (repeat (first | exact Pick.here | apply Pick.there))) (rfl)) rfl ?_
      refine G.grun (t := 108) rfl rfl rfl ?_
      refine G.q (Quiet.ptreq rfl rfl Try.underlying34) rfl ?_
      refine G.q (Quiet.pickF rfl rfl) rfl ?_
      refine G.nil ?_
      refine G.then_n ?_
      refine G.condF rfl ?_
      refine G.skip ?_
      refine G.then_n ?_
      refine G.seq ?_
      refine G.region ?_
      refine G.q (Quiet.move rfl) rfl ?_
      refine G.q (Quiet.to (v' := .agg #[vint 6, vint 0, vint 0, .slice none 0 0, .slice none 0 0]) (Quiet.build (us := [(0, _)]) fl_42 ze_42 rfl rfl (by simp [isCell])) rfl) rfl ?_
      refine G.op (OpSpec.call Try.func20 rfl rfl (vs := [_, _]) rfl (asks6_spec s d x l y ω hdb (by omega))) (by (repeat (first | exact Picks.nil | (apply Picks.cons; (repeat (first | exact Pick.here | apply Pick.there)))))) rfl ?nx94
      rintro v L' ⟨rfl, rfl⟩
      refine G.q (Quiet.assign rfl) rfl ?_
      refine G.nil ?_
      refine G.then_n ?_
      refine G.seq ?_
      refine G.region ?_
      refine G.q (Quiet.move rfl) rfl ?_
      refine G.q (Quiet.to (v' := .agg #[vint 7, vint 0, vint 0, .slice none 0 0, .slice none 0 0]) (Quiet.build (us := [(0, _)]) fl_42 ze_42 rfl rfl (by simp [isCell])) rfl) rfl ?_
      refine G.op (OpSpec.call Try.func20 rfl rfl (vs := [_, _]) rfl (asks7_spec s d x l y ω δ ρ hT.L ⟨by omega, by omega⟩ (by omega))) (by (repeat (first | exact Picks.nil | (apply Picks.cons; (repeat (first | exact Pick.here | apply Pick.there)))))) rfl ?nx97
      rintro v L' ⟨rfl, rfl⟩
      refine G.q (Quiet.assign rfl) rfl ?_
      refine G.nil ?_
      refine G.then_n ?_
      refine G.seq ?_
      refine G.region ?_
      refine G.q (Quiet.move rfl) rfl ?_
      refine G.q (Quiet.move rfl) rfl ?_
      refine G.grun (t := 123) rfl rfl rfl ?_
      refine G.q (Quiet.move rfl) rfl ?_
      refine G.q (Quiet.pickT rfl rfl) rfl ?_
      refine G.q (Quiet.move rfl) rfl ?_
      refine G.grun (t := 126) rfl rfl rfl ?_
      refine G.q (Quiet.move rfl) rfl ?_
      refine G.grun (t := 126) rfl rfl rfl ?_
      refine G.op (OpSpec.call Try.func21 rfl rfl (vs := [_]) rfl (acts_spec d δ)) (by (repeat (first | exact Picks.nil | (apply Picks.cons; (repeat (first | exact Pick.here | apply Pick.there)))))) rfl ?nx100
      rintro v L' ⟨rfl, rfl⟩
      refine G.grun (t := 126) rfl rfl rfl ?_
      refine G.q (Quiet.as (v' := .bool true) (by rw [decide_eq_true (by omega)]) (Quiet.int rfl rfl rfl)) rfl ?_
      refine G.q (Quiet.pickT rfl rfl) rfl ?_
      refine G.q (Quiet.assign rfl) rfl ?_
      refine G.nil ?_
      refine G.then_n ?_
      refine G.ret ?_
      exact G.done (l := [.tmp 4]) rfl rfl ⟨rfl, rfl⟩ (by (repeat (first | exact Picks.nil | (apply Picks.cons; (repeat (first | exact Pick.here | apply Pick.there)))))) (by (repeat (first | exact Suff.here | apply Suff.there)))

end Go.Proofs.Ytepncdidkjjllaa
