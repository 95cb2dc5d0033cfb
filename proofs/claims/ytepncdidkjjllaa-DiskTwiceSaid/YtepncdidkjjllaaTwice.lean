/- Own work, by program: DiskTwice, walked. -/
import Derived.Test.YtepncdidkjjllaaL3D
namespace Go.Proofs.Ytepncdidkjjllaa
open Go
set_option maxRecDepth 100000 in
theorem twice_spec (v0 v1 v2 : Value) (xs : List (Value × OpZ)) (how again : List Int) (p : HP) (hops : OpsRd p v0 xs) (hr1 : ∀ h : Hp, p h → rdS 1 h v1 how.length (ints how)) (hr2 : ∀ h : Hp, p h → rdS 1 h v2 again.length (ints again)) (hb1 : ∀ z ∈ how, -9223372036854775808 ≤ z ∧ z ≤ 9223372036854775807) (hb2 : ∀ z ∈ again, -9223372036854775808 ≤ z ∧ z ≤ 9223372036854775807) : Fn Try.prog 12 #[v0, v1, v2] [p] fun v L => v = .bool true ∧ L = [p] := by
  refine Fn.intro (vs := [v0, v1, v2]) Try.func12 rfl rfl ?_
  intro F W
  have hcells := hops.cells
  have hopl := hops.len
  refine G.rdAny (p := p) hcells (by (repeat (first | exact Pick.here | apply Pick.there))) fun a0 c0 e _ => ?_
  subst e
  refine G.seq ?_
  refine G.region ?_
  refine G.q (Quiet.assign rfl) rfl ?_
  refine G.nil ?_
  refine G.then_n ?_
  refine G.seq ?_
  refine G.region ?_
  refine G.op (OpSpec.call Try.func47 rfl rfl (vs := []) rfl (awake3_spec)) (by (repeat (first | exact Picks.nil | (apply Picks.cons; (repeat (first | exact Pick.here | apply Pick.there)))))) rfl ?nx2
  rintro v L' ⟨rfl, rfl⟩
  refine G.q (Quiet.assign rfl) rfl ?_
  refine G.nil ?_
  refine G.then_n ?_
  refine G.seq ?_
  refine G.region ?_
  refine G.op (OpSpec.call Try.func15 rfl rfl (vs := [_]) rfl (new_spec _)) (by (repeat (first | exact Picks.nil | (apply Picks.cons; (repeat (first | exact Pick.here | apply Pick.there)))))) rfl ?nx4
  rintro v L' (⟨h, -, -⟩ | ⟨-, d, rfl, rfl⟩); · omega
  refine G.q (Quiet.move rfl) rfl ?_
  refine G.q (Quiet.extract rfl rfl) rfl ?_
  refine G.q (Quiet.extract rfl rfl) rfl ?_
  refine G.q (Quiet.assign rfl) rfl ?_
  refine G.q (Quiet.assign rfl) rfl ?_
  refine G.nil ?_
  refine G.then_n ?_
  refine G.seq ?_
  refine G.region ?_
  refine G.op (OpSpec.call Try.func15 rfl rfl (vs := [_]) rfl (new_spec _)) (by (repeat (first | exact Picks.nil | (apply Picks.cons; (repeat (first | exact Pick.here | apply Pick.there)))))) rfl ?nx8
  rintro v L' (⟨h, -, -⟩ | ⟨-, d2, rfl, rfl⟩); · omega
  refine G.q (Quiet.move rfl) rfl ?_
  refine G.q (Quiet.extract rfl rfl) rfl ?_
  refine G.q (Quiet.extract rfl rfl) rfl ?_
  refine G.q (Quiet.assign rfl) rfl ?_
  refine G.q (Quiet.assign rfl) rfl ?_
  refine G.nil ?_
  refine G.then_n ?_
  refine G.seq ?_
  refine G.seq ?_
  refine G.region ?_
  refine G.q (Quiet.move rfl) rfl ?_
  refine G.q (Quiet.not rfl) rfl ?_
  refine G.q (Quiet.move rfl) rfl ?_
  refine G.grun (t := 33) rfl rfl rfl ?_
  refine G.q (Quiet.move rfl) rfl ?_
  refine G.grun (t := 33) rfl rfl rfl ?_
  refine G.q (Quiet.ptreq rfl rfl Try.underlying24) rfl ?_
  refine G.q (Quiet.pickF rfl rfl) rfl ?_
  refine G.q (Quiet.move rfl) rfl ?_
  refine G.grun (t := 37) rfl rfl rfl ?_
  refine G.q (Quiet.move rfl) rfl ?_
  refine G.grun (t := 37) rfl rfl rfl ?_
  refine G.q (Quiet.ptreq rfl rfl Try.underlying24) rfl ?_
  refine G.q (Quiet.pickF rfl rfl) rfl ?_
  refine G.q (Quiet.move rfl) rfl ?_
  refine G.grun (t := 41) rfl rfl rfl ?_
  refine G.q (Quiet.move rfl) rfl ?_
  refine G.grun (t := 41) rfl rfl rfl ?_
  refine G.q (Quiet.int rfl rfl rfl) rfl ?_
  refine G.q (Quiet.pickF rfl rfl) rfl ?_
  refine G.q (Quiet.move rfl) rfl ?_
  refine G.grun (t := 45) rfl rfl rfl ?_
  refine G.q (Quiet.move rfl) rfl ?_
  refine G.grun (t := 45) rfl rfl rfl ?_
  refine G.q (Quiet.int rfl rfl rfl) rfl ?_
  refine G.q (Quiet.pickF rfl rfl) rfl ?_
  refine G.nil ?_
  refine G.then_n ?_
  refine G.condF rfl ?_
  refine G.skip ?_
  refine G.then_n ?_
  refine G.seq ?_
  refine G.region ?_
  refine G.op (OpSpec.call Try.func16 rfl rfl (vs := [_]) rfl (rnew_spec _)) (by (repeat (first | exact Picks.nil | (apply Picks.cons; (repeat (first | exact Pick.here | apply Pick.there)))))) rfl ?nx17
  rintro v L' (⟨h, -, -⟩ | ⟨-, x, rfl, rfl⟩); · omega
  refine G.q (Quiet.move rfl) rfl ?_
  refine G.q (Quiet.extract rfl rfl) rfl ?_
  refine G.q (Quiet.extract rfl rfl) rfl ?_
  refine G.q (Quiet.assign rfl) rfl ?_
  refine G.q (Quiet.assign rfl) rfl ?_
  refine G.nil ?_
  refine G.then_n ?_
  refine G.seq ?_
  refine G.region ?_
  refine G.op (OpSpec.call Try.func16 rfl rfl (vs := [_]) rfl (rnew_spec _)) (by (repeat (first | exact Picks.nil | (apply Picks.cons; (repeat (first | exact Pick.here | apply Pick.there)))))) rfl ?nx21
  rintro v L' (⟨h, -, -⟩ | ⟨-, y, rfl, rfl⟩); · omega
  refine G.q (Quiet.move rfl) rfl ?_
  refine G.q (Quiet.extract rfl rfl) rfl ?_
  refine G.q (Quiet.extract rfl rfl) rfl ?_
  refine G.q (Quiet.assign rfl) rfl ?_
  refine G.q (Quiet.assign rfl) rfl ?_
  refine G.nil ?_
  refine G.then_n ?_
  refine G.seq ?_
  refine G.seq ?_
  refine G.region ?_
  refine G.q (Quiet.assign rfl) rfl ?_
  refine G.nil ?_
  refine G.then_n ?_
  refine G.block ?_
  refine G.loop (F := F) (ι := Nat × Dk × Rk) (fun q => [(0, .slice a0 xs.length c0), (1, v1), (2, v2), (8, vptr d), (10, vptr d2), (12, vptr x), (14, vptr y), (16, vint q.1)]) (fun q => [dkR d q.2.1, dkR d2 q.2.1, rkR x q.2.2, rkR y q.2.2, p]) (fun q => q.1 ≤ xs.length ∧ RunI q.2.1 q.2.2 20 q.1) (fun q => xs.length - q.1) (0, Dk.new 20, Rk.new 20) ⟨Nat.zero_le _, RunI.start 20⟩ ⟨rfl, rfl, rfl, rfl, rfl, rfl, rfl, rfl, trivial⟩ (by (repeat (first | exact Picks.nil | (apply Picks.cons; (repeat (first | exact Pick.here | apply Pick.there)))))) (by (repeat (first | exact Suff.here | apply Suff.there))) ?_
  rintro ⟨i, δ, ρ⟩ ⟨hi, hI⟩
  dsimp only at hi hI ⊢
  have hac := hI.acts
  have hN := hI.N
  have hln := hI.len
  refine G.seq ?_
  refine G.seq ?_
  refine G.region ?_
  refine G.q (Quiet.move rfl) rfl ?_
  refine G.q (Quiet.move rfl) rfl ?_
  refine G.q (Quiet.slen rfl Try.underlying85 rfl) rfl ?_
  refine G.q (Quiet.int rfl rfl rfl) rfl ?_
  refine G.nil ?_
  refine G.then_n ?_
  refine G.condD rfl (fun h60 => ?_) (fun h60 => ?_)
  · have hi2 : i < xs.length := by omega
    refine G.rdShape (p := p) hcells (by (repeat (first | exact Pick.here | apply Pick.there))) (by omega) fun bh oh e => ?_
    subst e
    refine G.skip ?_
    refine G.then_n ?_
    refine G.seq ?_
    refine G.block ?_
    refine G.seq ?_
    refine G.region ?_
    refine G.q (Quiet.move rfl) rfl ?_
    refine G.q (Quiet.move rfl) rfl ?_
    refine G.q (Quiet.move rfl) rfl ?_
    refine G.q (Quiet.move rfl) rfl ?_
    refine G.q (Quiet.indexAddr rfl rfl el_85 (by omega)) rfl ?_
    refine G.q (Quiet.loadAr (p := p) (vs := opC xs[i].1 xs[i].2) (m := 1) (c := 1) rfl ag_87 (by (repeat (first | exact Pick.here | apply Pick.there))) (hops.at hi2) (by decide) rfl) rfl ?_
    refine G.op (OpSpec.call Try.func56 rfl rfl (vs := [_, _, _]) rfl (step_spec d x δ ρ xs[i].1 xs[i].2 p (hops.hows _ (List.getElem_mem hi2)) (hops.bnd _ (List.getElem_mem hi2)) ⟨?hq136, ⟨?hq237, ?hq338⟩, (hops.fit _ (List.getElem_mem hi2)).1, (hops.fit _ (List.getElem_mem hi2)).2⟩)) (by (repeat (first | exact Picks.nil | (apply Picks.cons; (repeat (first | exact Pick.here | apply Pick.there)))))) rfl ?nx39
    case hq136 => omega
    case hq237 => omega
    case hq338 => omega
    rintro v L' ⟨rfl, rfl⟩
    refine G.nil ?_
    refine G.then_n ?_
    refine G.region ?_
    refine G.q (Quiet.move rfl) rfl ?_
    refine G.q (Quiet.move rfl) rfl ?_
    refine G.q (Quiet.move rfl) rfl ?_
    refine G.q (Quiet.move rfl) rfl ?_
    refine G.q (Quiet.indexAddr rfl rfl el_85 (by omega)) rfl ?_
    refine G.q (Quiet.loadAr (p := p) (vs := opC xs[i].1 xs[i].2) (m := 1) (c := 1) rfl ag_87 (by (repeat (first | exact Pick.here | apply Pick.there))) (hops.at hi2) (by decide) rfl) rfl ?_
    refine G.op (OpSpec.call Try.func56 rfl rfl (vs := [_, _, _]) rfl (step_spec d2 y δ ρ xs[i].1 xs[i].2 p (hops.hows _ (List.getElem_mem hi2)) (hops.bnd _ (List.getElem_mem hi2)) ⟨?hq147, ⟨?hq248, ?hq349⟩, (hops.fit _ (List.getElem_mem hi2)).1, (hops.fit _ (List.getElem_mem hi2)).2⟩)) (by (repeat (first | exact Picks.nil | (apply Picks.cons; (repeat (first | exact Pick.here | apply Pick.there)))))) rfl ?nx50
    case hq147 => omega
    case hq248 => omega
    case hq349 => omega
    rintro v L' ⟨rfl, rfl⟩
    refine G.nil ?_
    refine G.blk_n ?_
    refine G.then_n ?_
    refine G.region ?_
    refine G.q (Quiet.move rfl) rfl ?_
    refine G.q (Quiet.add rfl rfl (by omega)) rfl ?_
    refine G.q (Quiet.assign rfl) rfl ?_
    refine G.nil ?_
    refine G.then_n ?_
    refine G.round (i + 1, δ.step xs[i].2, ρ.step xs[i].2) ⟨by dsimp only; omega, hI.step _⟩ (by dsimp only; omega) ⟨rfl, rfl, rfl, rfl, rfl, rfl, rfl, rfl, trivial⟩ (by (repeat (first | exact Picks.nil | (apply Picks.cons; (repeat (first | exact Pick.here | apply Pick.there)))))) (by (repeat (first | exact Suff.here | apply Suff.there)))
  · refine G.exit ?_
    refine G.then_e ?_
    refine G.then_e ?_
    refine G.blk_e ?_
    refine G.then_n ?_
    refine G.seq ?_
    refine G.region ?_
    refine G.q (Quiet.move rfl) rfl ?_
    refine G.q (Quiet.move rfl) rfl ?_
    refine G.op (OpSpec.call Try.func53 rfl rfl (vs := [_, _]) rfl (crash_spec d δ v1 how p hr1 hb1)) (by (repeat (first | exact Picks.nil | (apply Picks.cons; (repeat (first | exact Pick.here | apply Pick.there)))))) rfl ?nx56
    rintro v L' ⟨rfl, rfl⟩
    refine G.nil ?_
    refine G.then_n ?_
    refine G.seq ?_
    refine G.region ?_
    refine G.q (Quiet.move rfl) rfl ?_
    refine G.q (Quiet.move rfl) rfl ?_
    refine G.op (OpSpec.call Try.func53 rfl rfl (vs := [_, _]) rfl (crash_spec d2 δ v1 how p hr1 hb1)) (by (repeat (first | exact Picks.nil | (apply Picks.cons; (repeat (first | exact Pick.here | apply Pick.there)))))) rfl ?nx60
    rintro v L' ⟨rfl, rfl⟩
    refine G.nil ?_
    refine G.then_n ?_
    refine G.seq ?_
    refine G.region ?_
    refine G.q (Quiet.move rfl) rfl ?_
    refine G.q (Quiet.move rfl) rfl ?_
    refine G.op (OpSpec.call Try.func53 rfl rfl (vs := [_, _]) rfl (crash_spec d2 (δ.crash how) v2 again p hr2 hb2)) (by (repeat (first | exact Picks.nil | (apply Picks.cons; (repeat (first | exact Pick.here | apply Pick.there)))))) rfl ?nx64
    rintro v L' ⟨rfl, rfl⟩; rw [Dk.crash_again]
    refine G.nil ?_
    refine G.then_n ?_
    refine G.seq ?_
    refine G.seq ?_
    refine G.region ?_
    refine G.q (Quiet.assign rfl) rfl ?_
    refine G.nil ?_
    refine G.then_n ?_
    refine G.block ?_
    refine G.loop (F := F) (ι := Nat) (fun n => [(8, vptr d), (10, vptr d2), (17, vint n)]) (fun n => [dkR d (δ.crash how), dkR d2 (δ.crash how), p]) (fun n => n ≤ 20) (fun n => 20 - n) 0 (Nat.zero_le _) ⟨rfl, rfl, rfl, trivial⟩ (by (repeat (first | exact Picks.nil | (apply Picks.cons; (repeat (first | exact Pick.here | apply Pick.there)))))) (by (repeat (first | exact Suff.here | apply Suff.there))) ?_
    intro n hn
    refine G.seq ?_
    refine G.seq ?_
    refine G.region ?_
    refine G.q (Quiet.move rfl) rfl ?_
    refine G.q (Quiet.int rfl rfl rfl) rfl ?_
    refine G.nil ?_
    refine G.then_n ?_
    refine G.condD rfl (fun h87 => ?_) (fun h87 => ?_)
    · have hn2 : n < 20 := by omega
      have hrd := Dk.crash_readm (δ := δ) how hln hn2
      generalize tx (δ.crash how).now n = s at hrd
      refine G.skip ?_
      refine G.then_n ?_
      refine G.seq ?_
      refine G.block ?_
      refine G.seq ?_
      refine G.region ?_
      refine G.q (Quiet.move rfl) rfl ?_
      refine G.q (Quiet.move rfl) rfl ?_
      refine G.op (OpSpec.call Try.func55 rfl rfl (vs := [_, _]) rfl (read_spec d (δ.crash how) n)) (by (repeat (first | exact Picks.nil | (apply Picks.cons; (repeat (first | exact Pick.here | apply Pick.there)))))) rfl ?nx71
      rintro v L' ⟨rfl, rfl⟩; rw [hrd]
      refine G.q (Quiet.move rfl) rfl ?_
      refine G.q (Quiet.extract rfl rfl) rfl ?_
      refine G.q (Quiet.extract rfl rfl) rfl ?_
      refine G.q (Quiet.assign rfl) rfl ?_
      refine G.q (Quiet.assign rfl) rfl ?_
      refine G.nil ?_
      refine G.then_n ?_
      refine G.seq ?_
      refine G.region ?_
      refine G.q (Quiet.move rfl) rfl ?_
      refine G.q (Quiet.move rfl) rfl ?_
      refine G.op (OpSpec.call Try.func55 rfl rfl (vs := [_, _]) rfl (read_spec d2 (δ.crash how) n)) (by (repeat (first | exact Picks.nil | (apply Picks.cons; (repeat (first | exact Pick.here | apply Pick.there)))))) rfl ?nx77
      rintro v L' ⟨rfl, rfl⟩; rw [hrd]
      refine G.q (Quiet.move rfl) rfl ?_
      refine G.q (Quiet.extract rfl rfl) rfl ?_
      refine G.q (Quiet.extract rfl rfl) rfl ?_
      refine G.q (Quiet.assign rfl) rfl ?_
      refine G.q (Quiet.assign rfl) rfl ?_
      refine G.nil ?_
      refine G.then_n ?_
      refine G.seq ?_
      refine G.region ?_
      refine G.q (Quiet.move rfl) rfl ?_
      refine G.q (Quiet.move rfl) rfl ?_
      refine G.q (Quiet.as (v' := .bool false) (by simp) (Quiet.strne rfl rfl)) rfl ?_
      refine G.q (Quiet.move rfl) rfl ?_
      refine G.grun (t := 105) rfl rfl rfl ?_
      refine G.q (Quiet.move rfl) rfl ?_
      refine G.grun (t := 105) rfl rfl rfl ?_
      refine G.q (Quiet.int rfl rfl rfl) rfl ?_
      refine G.q (Quiet.pickF rfl rfl) rfl ?_
      refine G.q (Quiet.move rfl) rfl ?_
      refine G.grun (t := 109) rfl rfl rfl ?_
      refine G.q (Quiet.move rfl) rfl ?_
      refine G.grun (t := 109) rfl rfl rfl ?_
      refine G.q (Quiet.int rfl rfl rfl) rfl ?_
      refine G.q (Quiet.pickF rfl rfl) rfl ?_
      refine G.nil ?_
      refine G.then_n ?_
      refine G.condF rfl ?_
      refine G.skip ?_
      refine G.blk_n ?_
      refine G.then_n ?_
      refine G.region ?_
      refine G.q (Quiet.move rfl) rfl ?_
      refine G.q (Quiet.add rfl rfl (by omega)) rfl ?_
      refine G.q (Quiet.assign rfl) rfl ?_
      refine G.nil ?_
      refine G.then_n ?_
      refine G.round (n + 1) (by omega) (by omega) ⟨rfl, rfl, rfl, trivial⟩ (by (repeat (first | exact Picks.nil | (apply Picks.cons; (repeat (first | exact Pick.here | apply Pick.there)))))) (by (repeat (first | exact Suff.here | apply Suff.there)))
    · refine G.exit ?_
      refine G.then_e ?_
      refine G.then_e ?_
      refine G.blk_e ?_
      refine G.then_n ?_
      refine G.seq ?_
      refine G.region ?_
      refine G.q (Quiet.move rfl) rfl ?_
      refine G.op (OpSpec.call Try.func54 rfl rfl (vs := [_]) rfl (pending_spec _ _)) (by (repeat (first | exact Picks.nil | (apply Picks.cons; (repeat (first | exact Pick.here | apply Pick.there)))))) rfl ?nx87
      rintro v L' ⟨⟨al, cl, rfl⟩, rfl⟩
      refine G.q (Quiet.slen rfl Try.underlying40 rfl) rfl ?_
      refine G.q (Quiet.as (v' := .bool true) (by rw [Dk.pend_len]; rfl) (Quiet.int rfl rfl rfl)) rfl ?_
      refine G.q (Quiet.move rfl) rfl ?_
      refine G.grun (t := 117) rfl rfl rfl ?_
      refine G.q (Quiet.move rfl) rfl ?_
      refine G.grun (t := 117) rfl rfl rfl ?_
      refine G.op (OpSpec.call Try.func21 rfl rfl (vs := [_]) rfl (acts_spec _ _)) (by (repeat (first | exact Picks.nil | (apply Picks.cons; (repeat (first | exact Pick.here | apply Pick.there)))))) rfl ?nx92
      rintro v L' ⟨rfl, rfl⟩
      refine G.grun (t := 117) rfl rfl rfl ?_
      refine G.q (Quiet.move rfl) rfl ?_
      refine G.grun (t := 117) rfl rfl rfl ?_
      refine G.op (OpSpec.call Try.func21 rfl rfl (vs := [_]) rfl (acts_spec _ _)) (by (repeat (first | exact Picks.nil | (apply Picks.cons; (repeat (first | exact Pick.here | apply Pick.there)))))) rfl ?nx95
      rintro v L' ⟨rfl, rfl⟩
      refine G.grun (t := 117) rfl rfl rfl ?_
      refine G.q (Quiet.as (v' := .bool true) (by simp) (Quiet.int rfl rfl rfl)) rfl ?_
      refine G.q (Quiet.pickT rfl rfl) rfl ?_
      refine G.q (Quiet.move rfl) rfl ?_
      refine G.grun (t := 124) rfl rfl rfl ?_
      refine G.q (Quiet.move rfl) rfl ?_
      refine G.grun (t := 124) rfl rfl rfl ?_
      refine G.op (OpSpec.call Try.func52 rfl rfl (vs := [_]) rfl (dead_spec _ _)) (by (repeat (first | exact Picks.nil | (apply Picks.cons; (repeat (first | exact Pick.here | apply Pick.there)))))) rfl ?nx99
      rintro v L' ⟨rfl, rfl⟩
      refine G.grun (t := 124) rfl rfl rfl ?_
      refine G.q (Quiet.not rfl) rfl ?_
      refine G.q (Quiet.pickT rfl rfl) rfl ?_
      refine G.q (Quiet.assign rfl) rfl ?_
      refine G.nil ?_
      refine G.then_n ?_
      refine G.ret ?_
      exact G.done (l := [.tmp 6]) rfl rfl ⟨rfl, rfl⟩ (by (repeat (first | exact Picks.nil | (apply Picks.cons; (repeat (first | exact Pick.here | apply Pick.there)))))) (by (repeat (first | exact Suff.here | apply Suff.there)))

end Go.Proofs.Ytepncdidkjjllaa
