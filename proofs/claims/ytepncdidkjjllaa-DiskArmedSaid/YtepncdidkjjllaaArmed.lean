/- Own work, by program: DiskArmed, walked. -/
import Derived.Test.YtepncdidkjjllaaL3A
namespace Go.Proofs.Ytepncdidkjjllaa
open Go
set_option maxRecDepth 100000 in
theorem armed_spec (n : Int) (va : Value) (acts : List Bool) (p : HP) (hn : -9223372036854775808 ≤ n ∧ n ≤ 9223372036854775807) (hr : ∀ h : Hp, p h → rdS 1 h va acts.length (bools acts)) : Fn Try.prog 10 #[vint n, va] [p] fun v L => v = .bool true ∧ L = [p] := by
  refine Fn.intro (vs := [vint n, va]) Try.func10 rfl rfl ?_
  intro F W
  refine G.rdAny (p := p) hr (by (repeat (first | exact Pick.here | apply Pick.there))) fun aa ca e _ => ?_
  subst e
  obtain ⟨z0, z1⟩ := pickZ_range n (n := 20) (by decide)
  refine G.seq ?_
  refine G.region ?_
  refine G.q (Quiet.assign rfl) rfl ?_
  refine G.nil ?_
  refine G.then_n ?_
  refine G.seq ?_
  refine G.region ?_
  refine G.op (OpSpec.call Try.func47 rfl rfl (vs := []) rfl (awake3_spec)) (by (repeat (first | exact Picks.nil | (apply Picks.cons; (repeat (first | exact Pick.here | apply Pick.there)))))) rfl ?nx2
  rintro v L' ⟨rfl, rfl⟩
  refine G.q (Quiet.assign rfl) rfl ?_
  refine G.nil ?_
  refine G.then_n ?_
  refine G.seq ?_
  refine G.region ?_
  refine G.op (OpSpec.call Try.func15 rfl rfl (vs := [_]) rfl (new_spec _)) (by (repeat (first | exact Picks.nil | (apply Picks.cons; (repeat (first | exact Pick.here | apply Pick.there)))))) rfl ?nx4
  rintro v L' (⟨h, -, -⟩ | ⟨-, d, rfl, rfl⟩); · omega
  refine G.q (Quiet.move rfl) rfl ?_
  refine G.q (Quiet.extract rfl rfl) rfl ?_
  refine G.q (Quiet.extract rfl rfl) rfl ?_
  refine G.q (Quiet.assign rfl) rfl ?_
  refine G.q (Quiet.assign rfl) rfl ?_
  refine G.nil ?_
  refine G.then_n ?_
  refine G.seq ?_
  refine G.seq ?_
  refine G.region ?_
  refine G.q (Quiet.move rfl) rfl ?_
  refine G.q (Quiet.not rfl) rfl ?_
  refine G.q (Quiet.move rfl) rfl ?_
  refine G.grun (t := 26) rfl rfl rfl ?_
  refine G.q (Quiet.move rfl) rfl ?_
  refine G.grun (t := 26) rfl rfl rfl ?_
  refine G.q (Quiet.ptreq rfl rfl Try.underlying24) rfl ?_
  refine G.q (Quiet.pickF rfl rfl) rfl ?_
  refine G.q (Quiet.move rfl) rfl ?_
  refine G.grun (t := 30) rfl rfl rfl ?_
  refine G.q (Quiet.move rfl) rfl ?_
  refine G.grun (t := 30) rfl rfl rfl ?_
  refine G.q (Quiet.int rfl rfl rfl) rfl ?_
  refine G.q (Quiet.pickF rfl rfl) rfl ?_
  refine G.nil ?_
  refine G.then_n ?_
  refine G.condF rfl ?_
  refine G.skip ?_
  refine G.then_n ?_
  refine G.seq ?_
  refine G.region ?_
  refine G.q (Quiet.move rfl) rfl ?_
  refine G.op (OpSpec.call Try.func48 rfl rfl (vs := [_, _]) rfl (pick3_spec n 20 hn (by decide))) (by (repeat (first | exact Picks.nil | (apply Picks.cons; (repeat (first | exact Pick.here | apply Pick.there)))))) rfl ?nx12
  rintro v L' ⟨rfl, rfl⟩
  refine G.q (Quiet.add rfl rfl (by omega)) rfl ?_
  refine G.q (Quiet.assign rfl) rfl ?_
  refine G.nil ?_
  refine G.then_n ?_
  refine G.seq ?_
  refine G.seq ?_
  obtain ⟨N, hN⟩ : ∃ N : Nat, 1 + pickZ n 20 = (N : Int) := ⟨(1 + pickZ n 20).toNat, by omega⟩
  rw [hN]
  have hN1 : 1 ≤ N ∧ N ≤ 20 := by omega
  refine G.region ?_
  refine G.q (Quiet.move rfl) rfl ?_
  refine G.q (Quiet.move rfl) rfl ?_
  refine G.op (OpSpec.call Try.func51 rfl rfl (vs := [_, _]) rfl (arm_spec d (Dk.new 16) N (by omega))) (by (repeat (first | exact Picks.nil | (apply Picks.cons; (repeat (first | exact Pick.here | apply Pick.there)))))) rfl ?nx15
  rintro v L' ⟨rfl, rfl⟩; rw [arm_new]
  refine G.q (Quiet.int rfl rfl rfl) rfl ?_
  refine G.nil ?_
  refine G.then_n ?_
  refine G.condF rfl ?_
  refine G.skip ?_
  refine G.then_n ?_
  refine G.seq ?_
  refine G.region ?_
  refine G.q (Quiet.assign rfl) rfl ?_
  refine G.nil ?_
  refine G.then_n ?_
  refine G.seq ?_
  refine G.seq ?_
  refine G.region ?_
  refine G.q (Quiet.assign rfl) rfl ?_
  refine G.nil ?_
  refine G.then_n ?_
  refine G.block ?_
  refine G.loop (F := F) (ι := Dk × Nat × Bool) (fun q => [(0, vint N), (1, .slice aa acts.length ca), (6, vptr d), (8, .bool q.2.2), (9, vint q.2.1)]) (fun q => [dkR d q.1, p]) (fun q => 1 ≤ q.2.1 ∧ q.2.1 ≤ N + 1 ∧ ArmI N q.1 q.2.1 q.2.2) (fun q => N + 1 - q.2.1) (armed N, 1, false) ⟨Nat.le_refl _, by dsimp only; omega, ArmI.start hN1.1⟩ ⟨rfl, rfl, rfl, rfl, rfl, trivial⟩ (by (repeat (first | exact Picks.nil | (apply Picks.cons; (repeat (first | exact Pick.here | apply Pick.there)))))) (by (repeat (first | exact Suff.here | apply Suff.there))) ?_
  rintro ⟨δ, i, b⟩ ⟨hi1, hi2, hI⟩
  dsimp only at hi1 hi2 hI ⊢
  refine G.seq ?_
  refine G.seq ?_
  refine G.region ?_
  refine G.q (Quiet.move rfl) rfl ?_
  refine G.q (Quiet.move rfl) rfl ?_
  refine G.q (Quiet.int rfl rfl rfl) rfl ?_
  refine G.nil ?_
  refine G.then_n ?_
  refine G.condD rfl (fun h43 => ?_) (fun h43 => ?_)
  · have hi3 : i ≤ N := by omega
    have hac := hI.acts
    refine G.skip ?_
    refine G.then_n ?_
    refine G.seq ?_
    refine G.block ?_
    refine G.seq ?_
    refine G.region ?_
    refine G.q (Quiet.assign rfl) rfl ?_
    refine G.nil ?_
    refine G.then_n ?_
    refine G.seq ?_
    refine G.join (F := F) (ι := Bool) (fun sy => [(0, vint N), (1, .slice aa acts.length ca), (6, vptr d), (8, .bool b), (9, vint i), (10, vint 0), (11, .bool sy)]) (fun _ => [dkR d δ, p]) (fun _ => True) ?_ (fun sy _ => ?_)
    · refine G.region ?_
      refine G.q (Quiet.move rfl) rfl ?_
      refine G.q (Quiet.move rfl) rfl ?_
      refine G.q (Quiet.slen rfl Try.underlying83 rfl) rfl ?_
      refine G.q (Quiet.int rfl rfl rfl) rfl ?_
      refine G.q (Quiet.move rfl) rfl ?_
      refine G.dec (t := 50) rfl (fun h13_50 => ?_) (fun h13_50 => ?_)
      · have hi4 : i - 1 < acts.length := by omega
        refine G.rdShape (p := p) hr (by (repeat (first | exact Pick.here | apply Pick.there))) (by omega) fun bh oh e => ?_
        subst e
        refine G.kDT (t := 49) rfl h13_50 ?_
        refine G.grun (t := 50) rfl rfl rfl ?_
        refine G.q (Quiet.move rfl) rfl ?_
        refine G.grun (t := 50) rfl rfl rfl ?_
        refine G.q (Quiet.move rfl) rfl ?_
        refine G.grun (t := 50) rfl rfl rfl ?_
        refine G.q (Quiet.sub rfl rfl (by omega)) rfl ?_
        refine G.grun (t := 50) rfl rfl rfl ?_
        refine G.q (Quiet.indexAddr rfl rfl el_83 (by omega)) rfl ?_
        refine G.grun (t := 50) rfl rfl rfl ?_
        refine G.q (Quiet.loadEl (p := p) (i := ((i : Int) - 1).toNat * 1) (v := .bool acts[i - 1]) rfl ag_4 (by (repeat (first | exact Pick.here | apply Pick.there))) hr (by rw [show ((i : Int) - 1).toNat * 1 = i - 1 by omega]; simp [hi4])) rfl ?_
        refine G.q (Quiet.pickT rfl rfl) rfl ?_
        refine G.q (Quiet.assign rfl) rfl ?_
        refine G.nil ?_
        refine G.then_n ?_
        exact G.meet acts[i - 1] trivial ⟨rfl, rfl, rfl, rfl, rfl, rfl, rfl, trivial⟩ (by (repeat (first | exact Picks.nil | (apply Picks.cons; (repeat (first | exact Pick.here | apply Pick.there)))))) (by (repeat (first | exact Suff.here | apply Suff.there)))
      · refine G.kDF (t := 49) rfl h13_50 ?_
        refine G.gskip (t := 50) rfl rfl rfl rfl ?_
        refine G.gskip (t := 50) rfl rfl rfl rfl ?_
        refine G.gskip (t := 50) rfl rfl rfl rfl ?_
        refine G.gskip (t := 50) rfl rfl rfl rfl ?_
        refine G.gskip (t := 50) rfl rfl rfl rfl ?_
        refine G.q (Quiet.pickF rfl rfl) rfl ?_
        refine G.q (Quiet.assign rfl) rfl ?_
        refine G.nil ?_
        refine G.then_n ?_
        exact G.meet false trivial ⟨rfl, rfl, rfl, rfl, rfl, rfl, rfl, trivial⟩ (by (repeat (first | exact Picks.nil | (apply Picks.cons; (repeat (first | exact Pick.here | apply Pick.there)))))) (by (repeat (first | exact Suff.here | apply Suff.there)))
    skip
    refine G.seq ?_
    refine G.join (F := F) (ι := Dk) (fun δ' => [(0, vint N), (1, .slice aa acts.length ca), (6, vptr d), (8, .bool b), (9, vint i), (10, vint (armE N i)), (11, .bool sy)]) (fun δ' => [dkR d δ', p]) (fun δ' => ArmI N δ' (i + 1) (!sy || (b && decide (i = N)))) ?_ (fun δ' hI' => ?_)
    · refine G.seq ?_
      refine G.region ?_
      refine G.q (Quiet.move rfl) rfl ?_
      refine G.nil ?_
      refine G.then_n ?_
      refine G.condB rfl (fun h57 => ?_) (fun h57 => ?_)
      · obtain ⟨hs1, hs2⟩ := hI.sync hi1 hi3
        refine G.region ?_
        refine G.q (Quiet.move rfl) rfl ?_
        refine G.op (OpSpec.call Try.func50 rfl rfl (vs := [_]) rfl (sync_spec d δ (by omega))) (by (repeat (first | exact Picks.nil | (apply Picks.cons; (repeat (first | exact Pick.here | apply Pick.there)))))) rfl ?nx36
        rintro v L' ⟨rfl, rfl⟩
        refine G.q (Quiet.assign rfl) rfl ?_
        refine G.nil ?_
        rw [hs1]
        refine G.then_n ?_
        exact G.meet δ.sync.1 (by subst h57; exact hs2) ⟨rfl, rfl, rfl, rfl, rfl, rfl, rfl, trivial⟩ (by (repeat (first | exact Picks.nil | (apply Picks.cons; (repeat (first | exact Pick.here | apply Pick.there)))))) (by (repeat (first | exact Suff.here | apply Suff.there)))
      · obtain ⟨hs1, hs2⟩ := hI.write hi1 hi3
        refine G.region ?_
        refine G.q (Quiet.move rfl) rfl ?_
        refine G.q (Quiet.move rfl) rfl ?_
        refine G.q (Quiet.remE rfl rfl (by omega) (by omega)) rfl ?_
        refine G.q (Quiet.move rfl) rfl ?_
        refine G.op (OpSpec.call Try.func49 rfl rfl (vs := [_]) rfl (filled_spec _)) (by (repeat (first | exact Picks.nil | (apply Picks.cons; (repeat (first | exact Pick.here | apply Pick.there)))))) rfl ?nx42
        rintro v L' ⟨rfl, rfl⟩
        refine G.op (OpSpec.call Try.func17 rfl rfl (vs := [_, _, _]) rfl (write_spec d δ ((i : Int) % 16) (fill i) (by omega))) (by (repeat (first | exact Picks.nil | (apply Picks.cons; (repeat (first | exact Pick.here | apply Pick.there)))))) rfl ?nx44
        rintro v L' ⟨rfl, rfl⟩
        refine G.q (Quiet.assign rfl) rfl ?_
        refine G.nil ?_
        rw [hs1]
        refine G.then_n ?_
        exact G.meet (δ.write ((i : Int) % 16) (fill i)).1 (by rw [h57]; exact hs2) ⟨rfl, rfl, rfl, rfl, rfl, rfl, rfl, trivial⟩ (by (repeat (first | exact Picks.nil | (apply Picks.cons; (repeat (first | exact Pick.here | apply Pick.there)))))) (by (repeat (first | exact Suff.here | apply Suff.there)))
    have hac2 := hI'.acts
    have hpd := hI'.pend
    refine G.seq ?_
    refine G.seq ?_
    refine G.region ?_
    refine G.q (Quiet.move rfl) rfl ?_
    refine G.q (Quiet.int rfl rfl rfl) rfl ?_
    refine G.q (Quiet.move rfl) rfl ?_
    refine G.q (Quiet.move rfl) rfl ?_
    refine G.q (Quiet.int rfl rfl rfl) rfl ?_
    refine G.q (Quiet.as (v' := .bool false) (by rw [armE_two]; simp) (Quiet.boolne rfl rfl Try.underlying4)) rfl ?_
    refine G.q (Quiet.move rfl) rfl ?_
    refine G.grun (t := 72) rfl rfl rfl ?_
    refine G.q (Quiet.move rfl) rfl ?_
    refine G.grun (t := 72) rfl rfl rfl ?_
    refine G.q (Quiet.int rfl rfl rfl) rfl ?_
    refine G.grun (t := 72) rfl rfl rfl ?_
    refine G.q (Quiet.move rfl) rfl ?_
    refine G.ndec (t := 75) rfl (fun h17_75 => ?_) (fun h17_75 => ?_)
    · refine G.kNT (t := 74) rfl h17_75 ?_
      refine G.grun (t := 75) rfl rfl rfl ?_
      refine G.q (Quiet.move rfl) rfl ?_
      refine G.grun (t := 75) rfl rfl rfl ?_
      refine G.q (Quiet.as (v' := .bool false) (by have e2 : armE N i = 2 := (by unfold armE at h17_75 ⊢; split at h17_75 <;> simp_all); simp [e2]) (Quiet.int rfl rfl rfl)) rfl ?_
      refine G.grun (t := 72) rfl rfl rfl ?_
      refine G.q (Quiet.pickT rfl rfl) rfl ?_
      refine G.q (Quiet.pickF rfl rfl) rfl ?_
      refine G.q (Quiet.move rfl) rfl ?_
      refine G.grun (t := 80) rfl rfl rfl ?_
      refine G.q (Quiet.move rfl) rfl ?_
      refine G.grun (t := 80) rfl rfl rfl ?_
      refine G.op (OpSpec.call Try.func52 rfl rfl (vs := [_]) rfl (dead_spec _ _)) (by (repeat (first | exact Picks.nil | (apply Picks.cons; (repeat (first | exact Pick.here | apply Pick.there)))))) rfl ?nx57
      rintro v L' ⟨rfl, rfl⟩
      refine G.grun (t := 80) rfl rfl rfl ?_
      refine G.q (Quiet.move rfl) rfl ?_
      refine G.grun (t := 80) rfl rfl rfl ?_
      refine G.q (Quiet.move rfl) rfl ?_
      refine G.grun (t := 80) rfl rfl rfl ?_
      refine G.q (Quiet.int rfl rfl rfl) rfl ?_
      refine G.grun (t := 80) rfl rfl rfl ?_
      refine G.q (Quiet.as (v' := .bool false) (by rw [hI'.deadv hi3]; simp) (Quiet.boolne rfl rfl Try.underlying4)) rfl ?_
      refine G.q (Quiet.pickF rfl rfl) rfl ?_
      refine G.q (Quiet.move rfl) rfl ?_
      refine G.grun (t := 88) rfl rfl rfl ?_
      refine G.q (Quiet.move rfl) rfl ?_
      refine G.grun (t := 88) rfl rfl rfl ?_
      refine G.op (OpSpec.call Try.func21 rfl rfl (vs := [_]) rfl (acts_spec _ _)) (by (repeat (first | exact Picks.nil | (apply Picks.cons; (repeat (first | exact Pick.here | apply Pick.there)))))) rfl ?nx64
      rintro v L' ⟨rfl, rfl⟩
      refine G.grun (t := 88) rfl rfl rfl ?_
      refine G.q (Quiet.move rfl) rfl ?_
      refine G.grun (t := 88) rfl rfl rfl ?_
      refine G.q (Quiet.as (v' := .bool false) (by simp [hac2]) (Quiet.int rfl rfl rfl)) rfl ?_
      refine G.q (Quiet.pickF rfl rfl) rfl ?_
      refine G.nil ?_
      refine G.then_n ?_
      refine G.condF rfl ?_
      refine G.skip ?_
      refine G.then_n ?_
      refine G.seq ?_
      refine G.join (F := F) (ι := Unit) (fun _ => [(0, vint N), (1, .slice aa acts.length ca), (6, vptr d), (8, .bool (!sy || (b && decide (i = N)))), (9, vint i)]) (fun _ => [dkR d δ', p]) (fun _ => True) ?_ (fun _ _ => ?_)
      · refine G.region ?_
        refine G.q (Quiet.move rfl) rfl ?_
        refine G.q (Quiet.not rfl) rfl ?_
        refine G.q (Quiet.move rfl) rfl ?_
        refine G.bool (t := 96) rfl (fun h19_96 => ?_) (fun h19_96 => ?_)
        · refine G.kB (t := 95) rfl h19_96 ?_
          refine G.gskip (t := 96) rfl rfl rfl rfl ?_
          refine G.gskip (t := 96) rfl rfl rfl rfl ?_
          refine G.gskipU (t := 98) rfl rfl rfl ?_
          refine G.gskipU (t := 98) rfl rfl rfl ?_
          refine G.gskipU (t := 98) rfl rfl rfl ?_
          refine G.gskip (t := 96) rfl rfl rfl rfl ?_
          refine G.q (Quiet.pickT rfl rfl) rfl ?_
          refine G.q (Quiet.assign rfl) rfl ?_
          refine G.nil ?_
          refine G.then_n ?_
          exact G.meet () trivial ⟨rfl, rfl, rfl, (by show some (Value.bool _) = some (Value.bool _); rw [h19_96]; rfl), rfl, trivial⟩ (by (repeat (first | exact Picks.nil | (apply Picks.cons; (repeat (first | exact Pick.here | apply Pick.there)))))) (by (repeat (first | exact Suff.here | apply Suff.there)))
        · refine G.kB (t := 95) rfl h19_96 ?_
          refine G.grun (t := 96) rfl rfl rfl ?_
          refine G.q (Quiet.move rfl) rfl ?_
          refine G.grun (t := 96) rfl rfl rfl ?_
          refine G.q (Quiet.move rfl) rfl ?_
          refine G.bool (t := 98) rfl (fun h19_98 => ?_) (fun h19_98 => ?_)
          · refine G.kB (t := 97) rfl h19_98 ?_
            refine G.grun (t := 98) rfl rfl rfl ?_
            refine G.q (Quiet.move rfl) rfl ?_
            refine G.grun (t := 98) rfl rfl rfl ?_
            refine G.q (Quiet.move rfl) rfl ?_
            refine G.grun (t := 98) rfl rfl rfl ?_
            refine G.q (Quiet.int rfl rfl rfl) rfl ?_
            refine G.grun (t := 96) rfl rfl rfl ?_
            refine G.q (Quiet.pickT rfl rfl) rfl ?_
            refine G.q (Quiet.pickF rfl rfl) rfl ?_
            refine G.q (Quiet.assign rfl) rfl ?_
            refine G.nil ?_
            refine G.then_n ?_
            exact G.meet () trivial ⟨rfl, rfl, rfl, (by show some (Value.bool _) = some (Value.bool _); rw [h19_96, h19_98, dec_cast]; rfl), rfl, trivial⟩ (by (repeat (first | exact Picks.nil | (apply Picks.cons; (repeat (first | exact Pick.here | apply Pick.there)))))) (by (repeat (first | exact Suff.here | apply Suff.there)))
          · refine G.kB (t := 97) rfl h19_98 ?_
            refine G.gskip (t := 98) rfl rfl rfl rfl ?_
            refine G.gskip (t := 98) rfl rfl rfl rfl ?_
            refine G.gskip (t := 98) rfl rfl rfl rfl ?_
            refine G.grun (t := 96) rfl rfl rfl ?_
            refine G.q (Quiet.pickF rfl rfl) rfl ?_
            refine G.q (Quiet.pickF rfl rfl) rfl ?_
            refine G.q (Quiet.assign rfl) rfl ?_
            refine G.nil ?_
            refine G.then_n ?_
            exact G.meet () trivial ⟨rfl, rfl, rfl, (by show some (Value.bool _) = some (Value.bool _); rw [h19_96, h19_98]; rfl), rfl, trivial⟩ (by (repeat (first | exact Picks.nil | (apply Picks.cons; (repeat (first | exact Pick.here | apply Pick.there)))))) (by (repeat (first | exact Suff.here | apply Suff.there)))
      skip
      refine G.seq ?_
      refine G.region ?_
      refine G.q (Quiet.move rfl) rfl ?_
      refine G.op (OpSpec.call Try.func54 rfl rfl (vs := [_]) rfl (pending_spec _ _)) (by (repeat (first | exact Picks.nil | (apply Picks.cons; (repeat (first | exact Pick.here | apply Pick.there)))))) rfl ?nx77
      rintro v L' ⟨⟨al, cl, rfl⟩, rfl⟩
      refine G.q (Quiet.slen rfl Try.underlying40 rfl) rfl ?_
      refine G.q (Quiet.int rfl rfl rfl) rfl ?_
      refine G.q (Quiet.move rfl) rfl ?_
      refine G.q (Quiet.as (v' := .bool false) (by rw [Dk.pend_len]; simp [← hpd]) (Quiet.boolne rfl rfl Try.underlying4)) rfl ?_
      refine G.nil ?_
      refine G.then_n ?_
      refine G.condF rfl ?_
      refine G.skip ?_
      refine G.blk_n ?_
      refine G.then_n ?_
      refine G.region ?_
      refine G.q (Quiet.move rfl) rfl ?_
      refine G.q (Quiet.add rfl rfl (by omega)) rfl ?_
      refine G.q (Quiet.assign rfl) rfl ?_
      refine G.nil ?_
      refine G.then_n ?_
      refine G.round (δ', i + 1, (!sy || (b && decide (i = N)))) ⟨by dsimp only; omega, by dsimp only; omega, hI'⟩ (by dsimp only; omega) ⟨rfl, rfl, rfl, rfl, rfl, trivial⟩ (by (repeat (first | exact Picks.nil | (apply Picks.cons; (repeat (first | exact Pick.here | apply Pick.there)))))) (by (repeat (first | exact Suff.here | apply Suff.there)))
    · refine G.kNF (t := 74) rfl h17_75 ?_
      refine G.gskip (t := 75) rfl rfl rfl rfl ?_
      refine G.gskip (t := 75) rfl rfl rfl rfl ?_
      refine G.grun (t := 72) rfl rfl rfl ?_
      refine G.q (Quiet.pickF rfl rfl) rfl ?_
      refine G.q (Quiet.pickF rfl rfl) rfl ?_
      refine G.q (Quiet.move rfl) rfl ?_
      refine G.grun (t := 80) rfl rfl rfl ?_
      refine G.q (Quiet.move rfl) rfl ?_
      refine G.grun (t := 80) rfl rfl rfl ?_
      refine G.op (OpSpec.call Try.func52 rfl rfl (vs := [_]) rfl (dead_spec _ _)) (by (repeat (first | exact Picks.nil | (apply Picks.cons; (repeat (first | exact Pick.here | apply Pick.there)))))) rfl ?nx87
      rintro v L' ⟨rfl, rfl⟩
      refine G.grun (t := 80) rfl rfl rfl ?_
      refine G.q (Quiet.move rfl) rfl ?_
      refine G.grun (t := 80) rfl rfl rfl ?_
      refine G.q (Quiet.move rfl) rfl ?_
      refine G.grun (t := 80) rfl rfl rfl ?_
      refine G.q (Quiet.int rfl rfl rfl) rfl ?_
      refine G.grun (t := 80) rfl rfl rfl ?_
      refine G.q (Quiet.as (v' := .bool false) (by rw [hI'.deadv hi3]; simp) (Quiet.boolne rfl rfl Try.underlying4)) rfl ?_
      refine G.q (Quiet.pickF rfl rfl) rfl ?_
      refine G.q (Quiet.move rfl) rfl ?_
      refine G.grun (t := 88) rfl rfl rfl ?_
      refine G.q (Quiet.move rfl) rfl ?_
      refine G.grun (t := 88) rfl rfl rfl ?_
      refine G.op (OpSpec.call Try.func21 rfl rfl (vs := [_]) rfl (acts_spec _ _)) (by (repeat (first | exact Picks.nil | (apply Picks.cons; (repeat (first | exact Pick.here | apply Pick.there)))))) rfl ?nx94
      rintro v L' ⟨rfl, rfl⟩
      refine G.grun (t := 88) rfl rfl rfl ?_
      refine G.q (Quiet.move rfl) rfl ?_
      refine G.grun (t := 88) rfl rfl rfl ?_
      refine G.q (Quiet.as (v' := .bool false) (by simp [hac2]) (Quiet.int rfl rfl rfl)) rfl ?_
      refine G.q (Quiet.pickF rfl rfl) rfl ?_
      refine G.nil ?_
      refine G.then_n ?_
      refine G.condF rfl ?_
      refine G.skip ?_
      refine G.then_n ?_
      refine G.seq ?_
      refine G.join (F := F) (ι := Unit) (fun _ => [(0, vint N), (1, .slice aa acts.length ca), (6, vptr d), (8, .bool (!sy || (b && decide (i = N)))), (9, vint i)]) (fun _ => [dkR d δ', p]) (fun _ => True) ?_ (fun _ _ => ?_)
      · refine G.region ?_
        refine G.q (Quiet.move rfl) rfl ?_
        refine G.q (Quiet.not rfl) rfl ?_
        refine G.q (Quiet.move rfl) rfl ?_
        refine G.bool (t := 96) rfl (fun h19_96 => ?_) (fun h19_96 => ?_)
        · refine G.kB (t := 95) rfl h19_96 ?_
          refine G.gskip (t := 96) rfl rfl rfl rfl ?_
          refine G.gskip (t := 96) rfl rfl rfl rfl ?_
          refine G.gskipU (t := 98) rfl rfl rfl ?_
          refine G.gskipU (t := 98) rfl rfl rfl ?_
          refine G.gskipU (t := 98) rfl rfl rfl ?_
          refine G.gskip (t := 96) rfl rfl rfl rfl ?_
          refine G.q (Quiet.pickT rfl rfl) rfl ?_
          refine G.q (Quiet.assign rfl) rfl ?_
          refine G.nil ?_
          refine G.then_n ?_
          exact G.meet () trivial ⟨rfl, rfl, rfl, (by show some (Value.bool _) = some (Value.bool _); rw [h19_96]; rfl), rfl, trivial⟩ (by (repeat (first | exact Picks.nil | (apply Picks.cons; (repeat (first | exact Pick.here | apply Pick.there)))))) (by (repeat (first | exact Suff.here | apply Suff.there)))
        · refine G.kB (t := 95) rfl h19_96 ?_
          refine G.grun (t := 96) rfl rfl rfl ?_
          refine G.q (Quiet.move rfl) rfl ?_
          refine G.grun (t := 96) rfl rfl rfl ?_
          refine G.q (Quiet.move rfl) rfl ?_
          refine G.bool (t := 98) rfl (fun h19_98 => ?_) (fun h19_98 => ?_)
          · refine G.kB (t := 97) rfl h19_98 ?_
            refine G.grun (t := 98) rfl rfl rfl ?_
            refine G.q (Quiet.move rfl) rfl ?_
            refine G.grun (t := 98) rfl rfl rfl ?_
            refine G.q (Quiet.move rfl) rfl ?_
            refine G.grun (t := 98) rfl rfl rfl ?_
            refine G.q (Quiet.int rfl rfl rfl) rfl ?_
            refine G.grun (t := 96) rfl rfl rfl ?_
            refine G.q (Quiet.pickT rfl rfl) rfl ?_
            refine G.q (Quiet.pickF rfl rfl) rfl ?_
            refine G.q (Quiet.assign rfl) rfl ?_
            refine G.nil ?_
            refine G.then_n ?_
            exact G.meet () trivial ⟨rfl, rfl, rfl, (by show some (Value.bool _) = some (Value.bool _); rw [h19_96, h19_98, dec_cast]; rfl), rfl, trivial⟩ (by (repeat (first | exact Picks.nil | (apply Picks.cons; (repeat (first | exact Pick.here | apply Pick.there)))))) (by (repeat (first | exact Suff.here | apply Suff.there)))
          · refine G.kB (t := 97) rfl h19_98 ?_
            refine G.gskip (t := 98) rfl rfl rfl rfl ?_
            refine G.gskip (t := 98) rfl rfl rfl rfl ?_
            refine G.gskip (t := 98) rfl rfl rfl rfl ?_
            refine G.grun (t := 96) rfl rfl rfl ?_
            refine G.q (Quiet.pickF rfl rfl) rfl ?_
            refine G.q (Quiet.pickF rfl rfl) rfl ?_
            refine G.q (Quiet.assign rfl) rfl ?_
            refine G.nil ?_
            refine G.then_n ?_
            exact G.meet () trivial ⟨rfl, rfl, rfl, (by show some (Value.bool _) = some (Value.bool _); rw [h19_96, h19_98]; rfl), rfl, trivial⟩ (by (repeat (first | exact Picks.nil | (apply Picks.cons; (repeat (first | exact Pick.here | apply Pick.there)))))) (by (repeat (first | exact Suff.here | apply Suff.there)))
      skip
      refine G.seq ?_
      refine G.region ?_
      refine G.q (Quiet.move rfl) rfl ?_
      refine G.op (OpSpec.call Try.func54 rfl rfl (vs := [_]) rfl (pending_spec _ _)) (by (repeat (first | exact Picks.nil | (apply Picks.cons; (repeat (first | exact Pick.here | apply Pick.there)))))) rfl ?nx107
      rintro v L' ⟨⟨al, cl, rfl⟩, rfl⟩
      refine G.q (Quiet.slen rfl Try.underlying40 rfl) rfl ?_
      refine G.q (Quiet.int rfl rfl rfl) rfl ?_
      refine G.q (Quiet.move rfl) rfl ?_
      refine G.q (Quiet.as (v' := .bool false) (by rw [Dk.pend_len]; simp [← hpd]) (Quiet.boolne rfl rfl Try.underlying4)) rfl ?_
      refine G.nil ?_
      refine G.then_n ?_
      refine G.condF rfl ?_
      refine G.skip ?_
      refine G.blk_n ?_
      refine G.then_n ?_
      refine G.region ?_
      refine G.q (Quiet.move rfl) rfl ?_
      refine G.q (Quiet.add rfl rfl (by omega)) rfl ?_
      refine G.q (Quiet.assign rfl) rfl ?_
      refine G.nil ?_
      refine G.then_n ?_
      refine G.round (δ', i + 1, (!sy || (b && decide (i = N)))) ⟨by dsimp only; omega, by dsimp only; omega, hI'⟩ (by dsimp only; omega) ⟨rfl, rfl, rfl, rfl, rfl, trivial⟩ (by (repeat (first | exact Picks.nil | (apply Picks.cons; (repeat (first | exact Pick.here | apply Pick.there)))))) (by (repeat (first | exact Suff.here | apply Suff.there)))
  · have hi3 : i = N + 1 := by omega
    subst hi3
    have hac := hI.acts
    have hdd := hI.gone (by omega)
    refine G.exit ?_
    refine G.then_e ?_
    refine G.then_e ?_
    refine G.blk_e ?_
    refine G.then_n ?_
    refine G.seq ?_
    refine G.region ?_
    refine G.q (Quiet.move rfl) rfl ?_
    refine G.op (OpSpec.call Try.func49 rfl rfl (vs := [_]) rfl (filled_spec _)) (by (repeat (first | exact Picks.nil | (apply Picks.cons; (repeat (first | exact Pick.here | apply Pick.there)))))) rfl ?nx116
    rintro v L' ⟨rfl, rfl⟩
    refine G.op (OpSpec.call Try.func17 rfl rfl (vs := [_, _, _]) rfl (write_spec d δ 0 (fill 1) (by omega))) (by (repeat (first | exact Picks.nil | (apply Picks.cons; (repeat (first | exact Pick.here | apply Pick.there)))))) rfl ?nx118
    rintro v L' ⟨rfl, rfl⟩; rw [dead_write hdd]
    refine G.q (Quiet.assign rfl) rfl ?_
    refine G.nil ?_
    refine G.then_n ?_
    refine G.seq ?_
    refine G.region ?_
    refine G.q (Quiet.move rfl) rfl ?_
    refine G.op (OpSpec.call Try.func50 rfl rfl (vs := [_]) rfl (sync_spec d δ (by omega))) (by (repeat (first | exact Picks.nil | (apply Picks.cons; (repeat (first | exact Pick.here | apply Pick.there)))))) rfl ?nx121
    rintro v L' ⟨rfl, rfl⟩; rw [dead_sync hdd]
    refine G.q (Quiet.assign rfl) rfl ?_
    refine G.nil ?_
    refine G.then_n ?_
    refine G.seq ?_
    refine G.region ?_
    refine G.q (Quiet.move rfl) rfl ?_
    refine G.op (OpSpec.call Try.func55 rfl rfl (vs := [_, _]) rfl (read_spec d δ 0)) (by (repeat (first | exact Picks.nil | (apply Picks.cons; (repeat (first | exact Pick.here | apply Pick.there)))))) rfl ?nx124
    rintro v L' ⟨rfl, rfl⟩; rw [dead_read hdd]
    refine G.q (Quiet.move rfl) rfl ?_
    refine G.q (Quiet.extract rfl rfl) rfl ?_
    refine G.q (Quiet.extract rfl rfl) rfl ?_
    refine G.q (Quiet.assign rfl) rfl ?_
    refine G.q (Quiet.assign rfl) rfl ?_
    refine G.nil ?_
    refine G.then_n ?_
    refine G.seq ?_
    refine G.region ?_
    refine G.q (Quiet.move rfl) rfl ?_
    refine G.op (OpSpec.call Try.func51 rfl rfl (vs := [_, _]) rfl (arm_spec d δ 3 (by decide))) (by (repeat (first | exact Picks.nil | (apply Picks.cons; (repeat (first | exact Pick.here | apply Pick.there)))))) rfl ?nx129
    rintro v L' ⟨rfl, rfl⟩; rw [dead_arm hdd]
    refine G.q (Quiet.assign rfl) rfl ?_
    refine G.nil ?_
    refine G.then_n ?_
    refine G.seq ?_
    refine G.region ?_
    refine G.q (Quiet.move rfl) rfl ?_
    refine G.op (OpSpec.call Try.func21 rfl rfl (vs := [_]) rfl (acts_spec _ _)) (by (repeat (first | exact Picks.nil | (apply Picks.cons; (repeat (first | exact Pick.here | apply Pick.there)))))) rfl ?nx132
    rintro v L' ⟨rfl, rfl⟩
    refine G.q (Quiet.assign rfl) rfl ?_
    refine G.nil ?_
    refine G.then_n ?_
    refine G.seq ?_
    refine G.add (p := fun _ => True) (fun _ => trivial) ?_
    refine G.region ?_
    refine G.q (Quiet.move rfl) rfl ?_
    refine G.op (OpSpec.call Try.func53 rfl rfl (vs := [_, _]) rfl (crash_spec d δ (.slice none 0 0) [] (fun _ => True) (fun _ _ => .inl ⟨rfl, rfl, none, 0, rfl⟩) (by simp))) (by (repeat (first | exact Picks.nil | (apply Picks.cons; (repeat (first | exact Pick.here | apply Pick.there)))))) rfl ?nx135
    rintro v L' ⟨rfl, rfl⟩; obtain ⟨cw1, cw2⟩ := crash_write hI.len (fill_len 1); have cw3 : (δ.crash []).acts = δ.acts := (δ.crashTo_same [] δ.pend.length).2.1
    refine G.nil ?_
    refine G.then_n ?_
    refine G.seq ?_
    refine G.region ?_
    refine G.q (Quiet.move rfl) rfl ?_
    refine G.op (OpSpec.call Try.func49 rfl rfl (vs := [_]) rfl (filled_spec _)) (by (repeat (first | exact Picks.nil | (apply Picks.cons; (repeat (first | exact Pick.here | apply Pick.there)))))) rfl ?nx138
    rintro v L' ⟨rfl, rfl⟩
    refine G.op (OpSpec.call Try.func17 rfl rfl (vs := [_, _, _]) rfl (write_spec d (δ.crash []) 0 (fill 1) (by rw [cw3]; omega))) (by (repeat (first | exact Picks.nil | (apply Picks.cons; (repeat (first | exact Pick.here | apply Pick.there)))))) rfl ?nx140
    rintro v L' ⟨rfl, rfl⟩; rw [cw1]
    refine G.q (Quiet.assign rfl) rfl ?_
    refine G.nil ?_
    refine G.then_n ?_
    refine G.seq ?_
    refine G.region ?_
    refine G.q (Quiet.move rfl) rfl ?_
    refine G.q (Quiet.int rfl rfl rfl) rfl ?_
    refine G.q (Quiet.move rfl) rfl ?_
    refine G.grun (t := 131) rfl rfl rfl ?_
    refine G.q (Quiet.move rfl) rfl ?_
    refine G.grun (t := 131) rfl rfl rfl ?_
    refine G.q (Quiet.int rfl rfl rfl) rfl ?_
    refine G.q (Quiet.pickT rfl rfl) rfl ?_
    refine G.q (Quiet.move rfl) rfl ?_
    refine G.grun (t := 135) rfl rfl rfl ?_
    refine G.q (Quiet.move rfl) rfl ?_
    refine G.grun (t := 135) rfl rfl rfl ?_
    refine G.q (Quiet.int rfl rfl rfl) rfl ?_
    refine G.q (Quiet.pickT rfl rfl) rfl ?_
    refine G.q (Quiet.move rfl) rfl ?_
    refine G.grun (t := 139) rfl rfl rfl ?_
    refine G.q (Quiet.move rfl) rfl ?_
    refine G.grun (t := 139) rfl rfl rfl ?_
    refine G.q (Quiet.int rfl rfl rfl) rfl ?_
    refine G.q (Quiet.pickT rfl rfl) rfl ?_
    refine G.q (Quiet.move rfl) rfl ?_
    refine G.grun (t := 143) rfl rfl rfl ?_
    refine G.q (Quiet.move rfl) rfl ?_
    refine G.grun (t := 143) rfl rfl rfl ?_
    refine G.q (Quiet.move rfl) rfl ?_
    refine G.grun (t := 143) rfl rfl rfl ?_
    refine G.q (Quiet.as (v' := .bool true) (by simp [hac]) (Quiet.int rfl rfl rfl)) rfl ?_
    refine G.q (Quiet.pickT rfl rfl) rfl ?_
    refine G.q (Quiet.move rfl) rfl ?_
    refine G.grun (t := 148) rfl rfl rfl ?_
    refine G.q (Quiet.move rfl) rfl ?_
    refine G.grun (t := 148) rfl rfl rfl ?_
    refine G.q (Quiet.int rfl rfl rfl) rfl ?_
    refine G.q (Quiet.pickT rfl rfl) rfl ?_
    refine G.q (Quiet.move rfl) rfl ?_
    refine G.grun (t := 152) rfl rfl rfl ?_
    refine G.q (Quiet.move rfl) rfl ?_
    refine G.grun (t := 152) rfl rfl rfl ?_
    refine G.op (OpSpec.call Try.func21 rfl rfl (vs := [_]) rfl (acts_spec _ _)) (by (repeat (first | exact Picks.nil | (apply Picks.cons; (repeat (first | exact Pick.here | apply Pick.there)))))) rfl ?nx150
    rintro v L' ⟨rfl, rfl⟩
    refine G.grun (t := 152) rfl rfl rfl ?_
    refine G.q (Quiet.move rfl) rfl ?_
    refine G.grun (t := 152) rfl rfl rfl ?_
    refine G.q (Quiet.add rfl rfl (by omega)) rfl ?_
    refine G.grun (t := 152) rfl rfl rfl ?_
    refine G.q (Quiet.as (v' := .bool true) (by simp [cw2, hac]) (Quiet.int rfl rfl rfl)) rfl ?_
    refine G.q (Quiet.pickT rfl rfl) rfl ?_
    refine G.q (Quiet.assign rfl) rfl ?_
    refine G.nil ?_
    refine G.then_n ?_
    refine G.ret ?_
    exact G.done (l := [.tmp 4]) rfl rfl ⟨rfl, rfl⟩ (by (repeat (first | exact Picks.nil | (apply Picks.cons; (repeat (first | exact Pick.here | apply Pick.there)))))) (by (repeat (first | exact Suff.here | apply Suff.there)))

end Go.Proofs.Ytepncdidkjjllaa
