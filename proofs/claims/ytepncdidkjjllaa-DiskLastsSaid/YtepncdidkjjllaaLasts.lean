/- Own work, by program: DiskLasts, walked. -/
import Derived.Test.YtepncdidkjjllaaL3B
namespace Go.Proofs.Ytepncdidkjjllaa
open Go
set_option maxRecDepth 100000 in
theorem lasts_spec (v0 v1 v3 : Value) (at0 : Int) (first next how : List Int) (p : HP) (hr0 : ∀ h : Hp, p h → rdS 1 h v0 first.length (ints first)) (hr1 : ∀ h : Hp, p h → rdS 1 h v1 next.length (ints next)) (hr3 : ∀ h : Hp, p h → rdS 1 h v3 how.length (ints how)) (hb0 : ∀ z ∈ first, -9223372036854775808 ≤ z ∧ z ≤ 9223372036854775807) (hb1 : ∀ z ∈ next, -9223372036854775808 ≤ z ∧ z ≤ 9223372036854775807) (hb2 : -9223372036854775808 ≤ at0 ∧ at0 ≤ 9223372036854775807) (hb3 : ∀ z ∈ how, -9223372036854775808 ≤ z ∧ z ≤ 9223372036854775807) : Fn Try.prog 9 #[v0, v1, vint at0, v3] [p] fun v L => v = .bool true ∧ L = [p] := by
  refine Fn.intro (vs := [v0, v1, vint at0, v3]) Try.func9 rfl rfl ?_
  intro F W
  refine G.rdAny (p := p) hr0 (by (repeat (first | exact Pick.here | apply Pick.there))) fun a0 c0 e _ => ?_
  subst e
  refine G.rdAny (p := p) hr1 (by (repeat (first | exact Pick.here | apply Pick.there))) fun a1 c1 e _ => ?_
  subst e
  refine G.seq ?_
  refine G.region ?_
  refine G.q (Quiet.assign rfl) rfl ?_
  refine G.nil ?_
  refine G.then_n ?_
  refine G.seq ?_
  refine G.region ?_
  refine G.op (OpSpec.call Try.func47 rfl rfl (vs := []) rfl (awake3_spec)) (by (repeat (first | exact Picks.nil | (apply Picks.cons; (repeat (first | exact Pick.here | apply Pick.there)))))) rfl ?nx2
  rintro v L' ⟨rfl, rfl⟩
  refine G.q (Quiet.assign rfl) rfl ?_
  refine G.nil ?_
  refine G.then_n ?_
  refine G.seq ?_
  refine G.region ?_
  refine G.op (OpSpec.call Try.func15 rfl rfl (vs := [_]) rfl (new_spec _)) (by (repeat (first | exact Picks.nil | (apply Picks.cons; (repeat (first | exact Pick.here | apply Pick.there)))))) rfl ?nx4
  rintro v L' (⟨h, -, -⟩ | ⟨-, d, rfl, rfl⟩); · omega
  refine G.q (Quiet.move rfl) rfl ?_
  refine G.q (Quiet.extract rfl rfl) rfl ?_
  refine G.q (Quiet.extract rfl rfl) rfl ?_
  refine G.q (Quiet.assign rfl) rfl ?_
  refine G.q (Quiet.assign rfl) rfl ?_
  refine G.nil ?_
  refine G.then_n ?_
  refine G.seq ?_
  refine G.seq ?_
  refine G.region ?_
  refine G.q (Quiet.move rfl) rfl ?_
  refine G.q (Quiet.not rfl) rfl ?_
  refine G.q (Quiet.move rfl) rfl ?_
  refine G.grun (t := 35) rfl rfl rfl ?_
  refine G.q (Quiet.move rfl) rfl ?_
  refine G.grun (t := 35) rfl rfl rfl ?_
  refine G.q (Quiet.ptreq rfl rfl Try.underlying24) rfl ?_
  refine G.q (Quiet.pickF rfl rfl) rfl ?_
  refine G.q (Quiet.move rfl) rfl ?_
  refine G.grun (t := 39) rfl rfl rfl ?_
  refine G.q (Quiet.move rfl) rfl ?_
  refine G.grun (t := 39) rfl rfl rfl ?_
  refine G.q (Quiet.int rfl rfl rfl) rfl ?_
  refine G.q (Quiet.pickF rfl rfl) rfl ?_
  refine G.nil ?_
  refine G.then_n ?_
  refine G.condF rfl ?_
  refine G.skip ?_
  refine G.then_n ?_
  refine G.seq ?_
  refine G.region ?_
  refine G.q (Quiet.assign rfl) rfl ?_
  refine G.nil ?_
  refine G.then_n ?_
  refine G.seq ?_
  refine G.seq ?_
  refine G.region ?_
  refine G.q (Quiet.assign rfl) rfl ?_
  refine G.nil ?_
  refine G.then_n ?_
  refine G.block ?_
  refine G.add (slR_nil 9 1) ?_
  refine G.loop (F := F) (ι := Nat × Option Addr × Nat) (fun q => [(0, .slice a0 first.length c0), (1, .slice a1 next.length c1), (2, vint at0), (3, v3), (10, vptr d), (12, .slice q.2.1 q.1 q.2.2), (13, vint q.1)]) (fun q => [dkR d (Dk.new 32), p, slR 9 1 (.slice q.2.1 q.1 q.2.2) q.1 (List.replicate q.1 (vstr zs))]) (fun q => q.1 ≤ 32) (fun q => 32 - q.1) (0, none, 0) (Nat.zero_le _) ⟨rfl, rfl, rfl, rfl, rfl, rfl, rfl, trivial⟩ (by (repeat (first | exact Picks.nil | (apply Picks.cons; (repeat (first | exact Pick.here | apply Pick.there)))))) (by (repeat (first | exact Suff.here | apply Suff.there))) ?_
  rintro ⟨i, ao, co⟩ hi
  dsimp only at hi ⊢
  refine G.seq ?_
  refine G.seq ?_
  refine G.region ?_
  refine G.q (Quiet.move rfl) rfl ?_
  refine G.q (Quiet.int rfl rfl rfl) rfl ?_
  refine G.nil ?_
  refine G.then_n ?_
  refine G.condD rfl (fun h44 => ?_) (fun h44 => ?_)
  · refine G.skip ?_
    refine G.then_n ?_
    refine G.seq ?_
    refine G.block ?_
    refine G.region ?_
    refine G.q (Quiet.move rfl) rfl ?_
    refine G.op (OpSpec.make rfl rfl el_31 ze_5 rfl ⟨by simp, by simp; rfl⟩ ?c16) (by (repeat (first | exact Picks.nil | (apply Picks.cons; (repeat (first | exact Pick.here | apply Pick.there)))))) rfl ?nx17
    case c16 => omega
    rintro v L' ⟨b9_1, rfl, rfl⟩
    refine G.q (Quiet.bytesPt (cs := zs) rfl Try.underlying31 Try.underlying5 Try.underlying9 (by (repeat (first | exact Pick.here | apply Pick.there))) (by show (List.drop 0 (List.replicate (64 * 1) _)).take 64 = _; rw [List.drop_zero]; rfl) (by simp) (by decide)) rfl ?_
    refine G.op (OpSpec.buildSlice1 (vs := [_]) el_22 ze_9 rfl rfl rfl rfl rfl (by decide)) (by (repeat (first | exact Picks.nil | (apply Picks.cons; (repeat (first | exact Pick.here | apply Pick.there)))))) rfl ?nx20
    rintro v L' ⟨b9_3, rfl, rfl⟩
    refine G.op (OpSpec.append1 rfl rfl rfl el_22 ze_9 rfl rfl ?c22 ?c23 (Nat.le_refl _) ?c24 (by decide)) (by (repeat (first | exact Picks.nil | (apply Picks.cons; (repeat (first | exact Pick.here | apply Pick.there)))))) rfl ?nx25
    case c22 => simp [isCell]
    case c23 => rfl
    case c24 => omega
    rintro v L' ⟨⟨a9_4, c9_4, rfl⟩, rfl⟩
    refine G.q (Quiet.assign rfl) rfl ?_
    refine G.nil ?_
    refine G.blk_n ?_
    refine G.then_n ?_
    refine G.region ?_
    refine G.q (Quiet.move rfl) rfl ?_
    refine G.q (Quiet.add rfl rfl (by omega)) rfl ?_
    refine G.q (Quiet.assign rfl) rfl ?_
    refine G.nil ?_
    refine G.then_n ?_
    rw [← List.replicate_succ']
    refine G.round (i + 1, a9_4, c9_4) (by dsimp only; omega) (by dsimp only; omega) ⟨rfl, rfl, rfl, rfl, rfl, rfl, rfl, trivial⟩ (by (repeat (first | exact Picks.nil | (apply Picks.cons; (repeat (first | exact Pick.here | apply Pick.there)))))) (by (repeat (first | exact Suff.here | apply Suff.there)))
  · have hi2 : i = 32 := by omega
    subst hi2
    refine G.slShape (v := .slice ao _ co) (by (repeat (first | exact Pick.here | apply Pick.there))) (by omega) fun bo co' e mo _ => ?_
    simp only [Value.slice.injEq, true_and] at e
    obtain ⟨rfl, rfl⟩ := e
    refine G.exit ?_
    refine G.then_e ?_
    refine G.then_e ?_
    refine G.blk_e ?_
    refine G.then_n ?_
    refine G.seq ?_
    refine G.join (F := F) (ι := Dk × Nat) (fun q => [(0, .slice a0 first.length c0), (1, .slice a1 next.length c1), (2, vint at0), (3, v3), (10, vptr d), (12, .slice (some ⟨bo, 0, none⟩) 32 co)]) (fun q => [dkR d q.1, p, slR 9 1 (.slice (some ⟨bo, 0, none⟩) 32 co) 32 (strs q.1.now)]) (fun q => q.2 ≤ 60 ∧ La1 q.1 q.2) ?_ (fun q hq => ?_)
    · refine G.seq ?_
      refine G.region ?_
      refine G.q (Quiet.assign rfl) rfl ?_
      refine G.nil ?_
      refine G.then_n ?_
      refine G.block ?_
      refine G.loop (F := F) (ι := Dk × Nat) (fun q => [(0, .slice a0 first.length c0), (1, .slice a1 next.length c1), (2, vint at0), (3, v3), (10, vptr d), (12, .slice (some ⟨bo, 0, none⟩) 32 co), (14, vint q.2)]) (fun q => [dkR d q.1, p, slR 9 1 (.slice (some ⟨bo, 0, none⟩) 32 co) 32 (strs q.1.now)]) (fun q => q.2 ≤ 60 ∧ La1 q.1 q.2) (fun q => 60 - q.2) (Dk.new 32, 0) ⟨Nat.zero_le _, La1.start⟩ ⟨rfl, rfl, rfl, rfl, rfl, rfl, rfl, trivial⟩ (by (repeat (first | exact Picks.nil | (apply Picks.cons; (repeat (first | exact Pick.here | apply Pick.there)))))) (by (repeat (first | exact Suff.here | apply Suff.there))) ?_
      rintro ⟨δ, i⟩ ⟨hi1, hI⟩
      dsimp only at hi1 hI ⊢
      have hac := hI.acts
      have hln := hI.len
      refine G.seq ?_
      refine G.seq ?_
      refine G.region ?_
      refine G.q (Quiet.move rfl) rfl ?_
      refine G.q (Quiet.move rfl) rfl ?_
      refine G.q (Quiet.slen rfl Try.underlying40 rfl) rfl ?_
      refine G.q (Quiet.int rfl rfl rfl) rfl ?_
      refine G.q (Quiet.move rfl) rfl ?_
      refine G.dec (t := 56) rfl (fun h11_56 => ?_) (fun h11_56 => ?_)
      · refine G.kDT (t := 55) rfl h11_56 ?_
        refine G.grun (t := 56) rfl rfl rfl ?_
        refine G.q (Quiet.move rfl) rfl ?_
        refine G.grun (t := 56) rfl rfl rfl ?_
        refine G.q (Quiet.int rfl rfl rfl) rfl ?_
        refine G.q (Quiet.pickT rfl rfl) rfl ?_
        refine G.nil ?_
        refine G.then_n ?_
        refine G.condD rfl (fun h59 => ?_) (fun h59 => ?_)
        · have hi2 : i < first.length := by omega
          refine G.rdShape (p := p) hr0 (by (repeat (first | exact Pick.here | apply Pick.there))) (by omega) fun bh oh e => ?_
          subst e
          have hi3 : i < 60 := by omega
          obtain ⟨z0, z1⟩ := pickZ_range first[i] (n := 32) (by decide)
          obtain ⟨w1, w2, w3⟩ := hI.write (n := pickZ first[i] 32) ⟨z0, z1⟩ (s := fill first[i]) (fill_len _)
          refine G.skip ?_
          refine G.then_n ?_
          refine G.seq ?_
          refine G.block ?_
          refine G.seq ?_
          refine G.region ?_
          refine G.q (Quiet.move rfl) rfl ?_
          refine G.q (Quiet.move rfl) rfl ?_
          refine G.q (Quiet.indexAddr rfl rfl el_40 (by omega)) rfl ?_
          refine G.q (Quiet.loadEl (p := p) (i := i * 1) (v := vint first[i]) rfl ag_3 (by (repeat (first | exact Pick.here | apply Pick.there))) hr0 (by simp [hi2])) rfl ?_
          refine G.op (OpSpec.call Try.func48 rfl rfl (vs := [_, _]) rfl (pick3_spec first[i] 32 (hb0 _ (List.getElem_mem hi2)) (by decide))) (by (repeat (first | exact Picks.nil | (apply Picks.cons; (repeat (first | exact Pick.here | apply Pick.there)))))) rfl ?nx40
          rintro v L' ⟨rfl, rfl⟩
          refine G.q (Quiet.assign rfl) rfl ?_
          refine G.nil ?_
          refine G.then_n ?_
          refine G.seq ?_
          refine G.region ?_
          refine G.q (Quiet.move rfl) rfl ?_
          refine G.q (Quiet.move rfl) rfl ?_
          refine G.q (Quiet.indexAddr rfl rfl el_40 (by omega)) rfl ?_
          refine G.q (Quiet.loadEl (p := p) (i := i * 1) (v := vint first[i]) rfl ag_3 (by (repeat (first | exact Pick.here | apply Pick.there))) hr0 (by simp [hi2])) rfl ?_
          refine G.op (OpSpec.call Try.func49 rfl rfl (vs := [_]) rfl (filled_spec _)) (by (repeat (first | exact Picks.nil | (apply Picks.cons; (repeat (first | exact Pick.here | apply Pick.there)))))) rfl ?nx46
          rintro v L' ⟨rfl, rfl⟩
          refine G.q (Quiet.assign rfl) rfl ?_
          refine G.nil ?_
          refine G.then_n ?_
          refine G.seq ?_
          refine G.seq ?_
          refine G.region ?_
          refine G.q (Quiet.move rfl) rfl ?_
          refine G.q (Quiet.move rfl) rfl ?_
          refine G.q (Quiet.move rfl) rfl ?_
          refine G.op (OpSpec.call Try.func17 rfl rfl (vs := [_, _, _]) rfl (write_spec d δ (pickZ first[i] 32) (fill first[i]) (by omega))) (by (repeat (first | exact Picks.nil | (apply Picks.cons; (repeat (first | exact Pick.here | apply Pick.there)))))) rfl ?nx49
          rintro v L' ⟨rfl, rfl⟩; rw [w1]
          refine G.q (Quiet.int rfl rfl rfl) rfl ?_
          refine G.nil ?_
          refine G.then_n ?_
          refine G.condF rfl ?_
          refine G.skip ?_
          refine G.then_n ?_
          refine G.region ?_
          refine G.q (Quiet.move rfl) rfl ?_
          refine G.q (Quiet.move rfl) rfl ?_
          refine G.q (Quiet.move rfl) rfl ?_
          refine G.q (Quiet.indexAddr rfl rfl el_22 (by omega)) rfl ?_
          refine G.op (OpSpec.storeEl (i := (pickZ first[i] 32).toNat * 1) rfl rfl rfl sz_9 ?hi54) (by (repeat (first | exact Picks.nil | (apply Picks.cons; (repeat (first | exact Pick.here | apply Pick.there)))))) rfl ?nx55
          case hi54 => omega
          rintro v L' rfl
          refine G.nil ?_
          rw [Nat.mul_one]
          refine G.blk_n ?_
          refine G.then_n ?_
          refine G.region ?_
          refine G.q (Quiet.move rfl) rfl ?_
          refine G.q (Quiet.add rfl rfl (by omega)) rfl ?_
          refine G.q (Quiet.assign rfl) rfl ?_
          refine G.nil ?_
          refine G.then_n ?_
          rw [← List.map_set, ← w3]
          refine G.round ((δ.write (pickZ first[i] 32) (fill first[i])).1, i + 1) ⟨by dsimp only; omega, w2⟩ (by dsimp only; omega) ⟨rfl, rfl, rfl, rfl, rfl, rfl, rfl, trivial⟩ (by (repeat (first | exact Picks.nil | (apply Picks.cons; (repeat (first | exact Pick.here | apply Pick.there)))))) (by (repeat (first | exact Suff.here | apply Suff.there)))
        · refine G.exit ?_
          refine G.then_e ?_
          refine G.then_e ?_
          refine G.blk_e ?_
          refine G.then_n ?_
          exact G.meet (δ, i) ⟨hi1, hI⟩ ⟨rfl, rfl, rfl, rfl, rfl, rfl, trivial⟩ (by (repeat (first | exact Picks.nil | (apply Picks.cons; (repeat (first | exact Pick.here | apply Pick.there)))))) (by (repeat (first | exact Suff.here | apply Suff.there)))
      · refine G.kDF (t := 55) rfl h11_56 ?_
        refine G.gskip (t := 56) rfl rfl rfl rfl ?_
        refine G.gskip (t := 56) rfl rfl rfl rfl ?_
        refine G.q (Quiet.pickF rfl rfl) rfl ?_
        refine G.nil ?_
        refine G.then_n ?_
        refine G.condF rfl ?_
        refine G.exit ?_
        refine G.then_e ?_
        refine G.then_e ?_
        refine G.blk_e ?_
        refine G.then_n ?_
        exact G.meet (δ, i) ⟨hi1, hI⟩ ⟨rfl, rfl, rfl, rfl, rfl, rfl, trivial⟩ (by (repeat (first | exact Picks.nil | (apply Picks.cons; (repeat (first | exact Pick.here | apply Pick.there)))))) (by (repeat (first | exact Suff.here | apply Suff.there)))
    obtain ⟨δ0, i0⟩ := q
    obtain ⟨hq1, hq2⟩ := hq
    dsimp only at hq1 hq2 ⊢
    have hqa := hq2.acts
    have hqs := hq2.sync
    obtain ⟨z0, z1⟩ := pickZ_range at0 (n := 70) (by decide)
    have hqr := hq2.arm z0
    have hq3 := hq2.armed hq1 (pickZ at0 70)
    have hTl := hq2.len
    have hnow : (laArm δ0 (pickZ at0 70)).now = δ0.now := rfl
    refine G.seq ?_
    refine G.seq ?_
    refine G.region ?_
    refine G.q (Quiet.move rfl) rfl ?_
    refine G.op (OpSpec.call Try.func50 rfl rfl (vs := [_]) rfl (sync_spec d δ0 (by omega))) (by (repeat (first | exact Picks.nil | (apply Picks.cons; (repeat (first | exact Pick.here | apply Pick.there)))))) rfl ?nx60
    rintro v L' ⟨rfl, rfl⟩; rw [hqs]
    refine G.q (Quiet.int rfl rfl rfl) rfl ?_
    refine G.q (Quiet.move rfl) rfl ?_
    refine G.grun (t := 84) rfl rfl rfl ?_
    refine G.q (Quiet.move rfl) rfl ?_
    refine G.grun (t := 84) rfl rfl rfl ?_
    refine G.q (Quiet.move rfl) rfl ?_
    refine G.grun (t := 84) rfl rfl rfl ?_
    refine G.op (OpSpec.call Try.func48 rfl rfl (vs := [_, _]) rfl (pick3_spec at0 70 hb2 (by decide))) (by (repeat (first | exact Picks.nil | (apply Picks.cons; (repeat (first | exact Pick.here | apply Pick.there)))))) rfl ?nx65
    rintro v L' ⟨rfl, rfl⟩
    refine G.grun (t := 84) rfl rfl rfl ?_
    refine G.op (OpSpec.call Try.func51 rfl rfl (vs := [_, _]) rfl (arm_spec d { δ0.act.1 with old := [] } (pickZ at0 70) (by omega))) (by (repeat (first | exact Picks.nil | (apply Picks.cons; (repeat (first | exact Pick.here | apply Pick.there)))))) rfl ?nx67
    rintro v L' ⟨rfl, rfl⟩; rw [hqr]
    refine G.grun (t := 84) rfl rfl rfl ?_
    refine G.q (Quiet.int rfl rfl rfl) rfl ?_
    refine G.q (Quiet.pickF rfl rfl) rfl ?_
    refine G.nil ?_
    refine G.then_n ?_
    refine G.condF rfl ?_
    refine G.skip ?_
    refine G.then_n ?_
    refine G.seq ?_
    refine G.add (slR_nil 9 1) ?_
    refine G.region ?_
    refine G.q (Quiet.move rfl) rfl ?_
    refine G.op (OpSpec.append (v := .slice none 0 0) (n := 0) (xs := []) (m := 32) (ys := strs δ0.now) (p := slR 9 1 (.slice (some ⟨bo, 0, none⟩) 32 co) 32 (strs δ0.now)) rfl rfl rfl el_22 (.inl ⟨_, Try.underlying22⟩) ze_9 rfl rfl ?hc71 (fun h hp => slR_rd hp) ?hb72 ?hx73) (by (repeat (first | exact Picks.nil | (apply Picks.cons; (repeat (first | exact Pick.here | apply Pick.there)))))) rfl ?nx74
    case hc71 => simp [isCell]
    case hb72 => decide
    case hx73 => decide
    rintro v L' ⟨⟨al, cl, rfl⟩, rfl⟩
    refine G.q (Quiet.assign rfl) rfl ?_
    refine G.nil ?_
    refine G.slShape (v := .slice al _ cl) (by (repeat (first | exact Pick.here | apply Pick.there))) (by omega) fun bl cl' e ml _ => ?_
    simp only [Value.slice.injEq, true_and] at e
    obtain ⟨rfl, rfl⟩ := e
    refine G.then_n ?_
    refine G.seq ?_
    refine G.region ?_
    refine G.q (Quiet.assign rfl) rfl ?_
    refine G.nil ?_
    refine G.then_n ?_
    refine G.seq ?_
    refine G.join (F := F) (ι := Dk) (fun δ => [(0, .slice a0 first.length c0), (1, .slice a1 next.length c1), (2, vint at0), (3, v3), (10, vptr d), (12, .slice (some ⟨bo, 0, none⟩) 32 co), (17, .slice (some ⟨bl, 0, none⟩) 32 cl)]) (fun δ => [dkR d δ, p, slR 9 1 (.slice (some ⟨bo, 0, none⟩) 32 co) 32 (strs δ0.now), slR 9 1 (.slice (some ⟨bl, 0, none⟩) 32 cl) 32 (strs δ.now)]) (fun δ => ∃ j, j ≤ 60 ∧ La2 δ0.now δ j) ?_ (fun δ2 hq => ?_)
    · refine G.seq ?_
      refine G.region ?_
      refine G.q (Quiet.assign rfl) rfl ?_
      refine G.nil ?_
      refine G.then_n ?_
      refine G.block ?_
      refine G.loop (F := F) (ι := Dk × Nat) (fun q => [(0, .slice a0 first.length c0), (1, .slice a1 next.length c1), (2, vint at0), (3, v3), (10, vptr d), (12, .slice (some ⟨bo, 0, none⟩) 32 co), (17, .slice (some ⟨bl, 0, none⟩) 32 cl), (18, .bool q.1.dead), (19, vint q.2)]) (fun q => [dkR d q.1, p, slR 9 1 (.slice (some ⟨bo, 0, none⟩) 32 co) 32 (strs δ0.now), slR 9 1 (.slice (some ⟨bl, 0, none⟩) 32 cl) 32 (strs q.1.now)]) (fun q => q.2 ≤ 60 ∧ La2 δ0.now q.1 q.2) (fun q => 60 - q.2) (laArm δ0 (pickZ at0 70), 0) ⟨Nat.zero_le _, hq3⟩ ⟨rfl, rfl, rfl, rfl, rfl, rfl, rfl, rfl, rfl, trivial⟩ (by (repeat (first | exact Picks.nil | (apply Picks.cons; (repeat (first | exact Pick.here | apply Pick.there)))))) (by (repeat (first | exact Suff.here | apply Suff.there))) ?_
      rintro ⟨δ, j⟩ ⟨hj1, hI⟩
      dsimp only at hj1 hI ⊢
      have hac := hI.acts
      have hln := hI.len
      refine G.seq ?_
      refine G.seq ?_
      refine G.region ?_
      refine G.q (Quiet.move rfl) rfl ?_
      refine G.q (Quiet.move rfl) rfl ?_
      refine G.q (Quiet.slen rfl Try.underlying40 rfl) rfl ?_
      refine G.q (Quiet.int rfl rfl rfl) rfl ?_
      refine G.q (Quiet.move rfl) rfl ?_
      refine G.dec (t := 97) rfl (fun h23_97 => ?_) (fun h23_97 => ?_)
      · refine G.kDT (t := 96) rfl h23_97 ?_
        refine G.grun (t := 97) rfl rfl rfl ?_
        refine G.q (Quiet.move rfl) rfl ?_
        refine G.grun (t := 97) rfl rfl rfl ?_
        refine G.q (Quiet.int rfl rfl rfl) rfl ?_
        refine G.q (Quiet.pickT rfl rfl) rfl ?_
        refine G.nil ?_
        refine G.then_n ?_
        refine G.condD rfl (fun h100 => ?_) (fun h100 => ?_)
        · have hi2 : j < next.length := by omega
          refine G.rdShape (p := p) hr1 (by (repeat (first | exact Pick.here | apply Pick.there))) (by omega) fun bh oh e => ?_
          subst e
          have hi3 : j < 60 := by omega
          obtain ⟨z0, z1⟩ := pickZ_range next[j] (n := 32) (by decide)
          have hh : δ.has (pickZ next[j] 32) = true := by simp [Dk.has, hln]; omega
          have w1 := Dk.write_e hh (fill_len (next[j].tdiv 2))
          have w2 := hI.write (n := pickZ next[j] 32) ⟨z0, z1⟩ (s := fill (next[j].tdiv 2)) (fill_len _)
          have w3 : δ.dead = true → (δ.write (pickZ next[j] 32) (fill (next[j].tdiv 2))).1 = δ := Dk.write_dead
          have w4 : δ.dead = false → (δ.write (pickZ next[j] 32) (fill (next[j].tdiv 2))).1.now = δ.now.set (pickZ next[j] 32).toNat (fill (next[j].tdiv 2)) := fun hd => by rw [Dk.write_now hh (fill_len _) hd]; rfl
          refine G.skip ?_
          refine G.then_n ?_
          refine G.seq ?_
          refine G.block ?_
          refine G.seq ?_
          refine G.region ?_
          refine G.q (Quiet.move rfl) rfl ?_
          refine G.q (Quiet.move rfl) rfl ?_
          refine G.q (Quiet.indexAddr rfl rfl el_40 (by omega)) rfl ?_
          refine G.q (Quiet.loadEl (p := p) (i := j * 1) (v := vint next[j]) rfl ag_3 (by (repeat (first | exact Pick.here | apply Pick.there))) hr1 (by simp [hi2])) rfl ?_
          refine G.op (OpSpec.call Try.func48 rfl rfl (vs := [_, _]) rfl (pick3_spec next[j] 32 (hb1 _ (List.getElem_mem hi2)) (by decide))) (by (repeat (first | exact Picks.nil | (apply Picks.cons; (repeat (first | exact Pick.here | apply Pick.there)))))) rfl ?nx88
          rintro v L' ⟨rfl, rfl⟩
          refine G.q (Quiet.assign rfl) rfl ?_
          refine G.nil ?_
          refine G.then_n ?_
          refine G.seq ?_
          refine G.region ?_
          refine G.q (Quiet.move rfl) rfl ?_
          refine G.q (Quiet.move rfl) rfl ?_
          refine G.q (Quiet.indexAddr rfl rfl el_40 (by omega)) rfl ?_
          refine G.q (Quiet.loadEl (p := p) (i := j * 1) (v := vint next[j]) rfl ag_3 (by (repeat (first | exact Pick.here | apply Pick.there))) hr1 (by simp [hi2])) rfl ?_
          refine G.q (Quiet.quo rfl rfl (by decide) (tdiv2 (hb1 _ (List.getElem_mem hi2)))) rfl ?_
          refine G.op (OpSpec.call Try.func49 rfl rfl (vs := [_]) rfl (filled_spec _)) (by (repeat (first | exact Picks.nil | (apply Picks.cons; (repeat (first | exact Pick.here | apply Pick.there)))))) rfl ?nx95
          rintro v L' ⟨rfl, rfl⟩
          refine G.q (Quiet.assign rfl) rfl ?_
          refine G.nil ?_
          refine G.then_n ?_
          refine G.seq ?_
          refine G.region ?_
          refine G.q (Quiet.move rfl) rfl ?_
          refine G.q (Quiet.move rfl) rfl ?_
          refine G.q (Quiet.move rfl) rfl ?_
          refine G.op (OpSpec.call Try.func17 rfl rfl (vs := [_, _, _]) rfl (write_spec d δ (pickZ next[j] 32) (fill (next[j].tdiv 2)) (by omega))) (by (repeat (first | exact Picks.nil | (apply Picks.cons; (repeat (first | exact Pick.here | apply Pick.there)))))) rfl ?nx98
          rintro v L' ⟨rfl, rfl⟩; rw [w1]; generalize hδ' : (δ.write (pickZ next[j] 32) (fill (next[j].tdiv 2))).1 = δ' at *
          refine G.q (Quiet.assign rfl) rfl ?_
          refine G.nil ?_
          refine G.then_n ?_
          refine G.seq ?_
          refine G.join (F := F) (ι := Unit) (fun _ => [(0, .slice a0 first.length c0), (1, .slice (some ⟨bh, oh, none⟩) next.length c1), (2, vint at0), (3, v3), (10, vptr d), (12, .slice (some ⟨bo, 0, none⟩) 32 co), (17, .slice (some ⟨bl, 0, none⟩) 32 cl), (18, .bool δ.dead), (19, vint j), (20, vint (pickZ next[j] 32)), (21, vstr (fill (next[j].tdiv 2)))]) (fun _ => [dkR d δ', p, slR 9 1 (.slice (some ⟨bo, 0, none⟩) 32 co) 32 (strs δ0.now), slR 9 1 (.slice (some ⟨bl, 0, none⟩) 32 cl) 32 (strs δ.now)]) (fun _ => True) ?_ (fun _ _ => ?_)
          · refine G.seq ?_
            refine G.region ?_
            refine G.q (Quiet.move rfl) rfl ?_
            refine G.q (Quiet.int rfl rfl rfl) rfl ?_
            refine G.q (Quiet.move rfl) rfl ?_
            refine G.q (Quiet.move rfl) rfl ?_
            refine G.bool (t := 121) rfl (fun h28_121 => ?_) (fun h28_121 => ?_)
            · refine G.kB (t := 120) rfl h28_121 ?_
              refine G.gskip (t := 121) rfl rfl rfl rfl ?_
              refine G.gskip (t := 121) rfl rfl rfl rfl ?_
              refine G.q (Quiet.pickT rfl rfl) rfl ?_
              refine G.q (Quiet.as (v' := .bool false) (by rw [w3 h28_121, h28_121]; rfl) (Quiet.booleq rfl rfl Try.underlying4)) rfl ?_
              refine G.q (Quiet.move rfl) rfl ?_
              refine G.grun (t := 126) rfl rfl rfl ?_
              refine G.q (Quiet.move rfl) rfl ?_
              refine G.grun (t := 126) rfl rfl rfl ?_
              refine G.q (Quiet.int rfl rfl rfl) rfl ?_
              refine G.grun (t := 126) rfl rfl rfl ?_
              refine G.q (Quiet.move rfl) rfl ?_
              refine G.ndec (t := 129) rfl (fun h28_129 => ?_) (fun h28_129 => ?_)
              · refine G.kNT (t := 128) rfl h28_129 ?_
                refine G.grun (t := 129) rfl rfl rfl ?_
                refine G.q (Quiet.move rfl) rfl ?_
                refine G.grun (t := 129) rfl rfl rfl ?_
                refine G.q (Quiet.as (v' := .bool false) (by revert h28_129; cases δ'.dead <;> simp) (Quiet.int rfl rfl rfl)) rfl ?_
                refine G.grun (t := 126) rfl rfl rfl ?_
                refine G.q (Quiet.pickT rfl rfl) rfl ?_
                refine G.q (Quiet.pickF rfl rfl) rfl ?_
                refine G.nil ?_
                refine G.then_n ?_
                refine G.condF rfl ?_
                refine G.skip ?_
                refine G.then_n ?_
                exact G.meet () trivial ⟨rfl, rfl, rfl, rfl, rfl, rfl, rfl, rfl, rfl, rfl, rfl, trivial⟩ (by (repeat (first | exact Picks.nil | (apply Picks.cons; (repeat (first | exact Pick.here | apply Pick.there)))))) (by (repeat (first | exact Suff.here | apply Suff.there)))
              · refine G.kNF (t := 128) rfl h28_129 ?_
                refine G.gskip (t := 129) rfl rfl rfl rfl ?_
                refine G.gskip (t := 129) rfl rfl rfl rfl ?_
                refine G.grun (t := 126) rfl rfl rfl ?_
                refine G.q (Quiet.pickF rfl rfl) rfl ?_
                refine G.q (Quiet.pickF rfl rfl) rfl ?_
                refine G.nil ?_
                refine G.then_n ?_
                refine G.condF rfl ?_
                refine G.skip ?_
                refine G.then_n ?_
                exact G.meet () trivial ⟨rfl, rfl, rfl, rfl, rfl, rfl, rfl, rfl, rfl, rfl, rfl, trivial⟩ (by (repeat (first | exact Picks.nil | (apply Picks.cons; (repeat (first | exact Pick.here | apply Pick.there)))))) (by (repeat (first | exact Suff.here | apply Suff.there)))
            · refine G.kB (t := 120) rfl h28_121 ?_
              refine G.grun (t := 121) rfl rfl rfl ?_
              refine G.q (Quiet.move rfl) rfl ?_
              refine G.grun (t := 121) rfl rfl rfl ?_
              refine G.op (OpSpec.call Try.func52 rfl rfl (vs := [_]) rfl (dead_spec _ _)) (by (repeat (first | exact Picks.nil | (apply Picks.cons; (repeat (first | exact Pick.here | apply Pick.there)))))) rfl ?nx108
              rintro v L' ⟨rfl, rfl⟩
              refine G.q (Quiet.pickF rfl rfl) rfl ?_
              refine G.q (Quiet.as (v' := .bool false) (by cases δ'.dead <;> rfl) (Quiet.booleq rfl rfl Try.underlying4)) rfl ?_
              refine G.q (Quiet.move rfl) rfl ?_
              refine G.grun (t := 126) rfl rfl rfl ?_
              refine G.q (Quiet.move rfl) rfl ?_
              refine G.grun (t := 126) rfl rfl rfl ?_
              refine G.q (Quiet.int rfl rfl rfl) rfl ?_
              refine G.grun (t := 126) rfl rfl rfl ?_
              refine G.q (Quiet.move rfl) rfl ?_
              refine G.ndec (t := 129) rfl (fun h28_129 => ?_) (fun h28_129 => ?_)
              · refine G.kNT (t := 128) rfl h28_129 ?_
                refine G.grun (t := 129) rfl rfl rfl ?_
                refine G.q (Quiet.move rfl) rfl ?_
                refine G.grun (t := 129) rfl rfl rfl ?_
                refine G.q (Quiet.as (v' := .bool false) (by revert h28_129; cases δ'.dead <;> simp) (Quiet.int rfl rfl rfl)) rfl ?_
                refine G.grun (t := 126) rfl rfl rfl ?_
                refine G.q (Quiet.pickT rfl rfl) rfl ?_
                refine G.q (Quiet.pickF rfl rfl) rfl ?_
                refine G.nil ?_
                refine G.then_n ?_
                refine G.condF rfl ?_
                refine G.skip ?_
                refine G.then_n ?_
                exact G.meet () trivial ⟨rfl, rfl, rfl, rfl, rfl, rfl, rfl, rfl, rfl, rfl, rfl, trivial⟩ (by (repeat (first | exact Picks.nil | (apply Picks.cons; (repeat (first | exact Pick.here | apply Pick.there)))))) (by (repeat (first | exact Suff.here | apply Suff.there)))
              · refine G.kNF (t := 128) rfl h28_129 ?_
                refine G.gskip (t := 129) rfl rfl rfl rfl ?_
                refine G.gskip (t := 129) rfl rfl rfl rfl ?_
                refine G.grun (t := 126) rfl rfl rfl ?_
                refine G.q (Quiet.pickF rfl rfl) rfl ?_
                refine G.q (Quiet.pickF rfl rfl) rfl ?_
                refine G.nil ?_
                refine G.then_n ?_
                refine G.condF rfl ?_
                refine G.skip ?_
                refine G.then_n ?_
                exact G.meet () trivial ⟨rfl, rfl, rfl, rfl, rfl, rfl, rfl, rfl, rfl, rfl, rfl, trivial⟩ (by (repeat (first | exact Picks.nil | (apply Picks.cons; (repeat (first | exact Pick.here | apply Pick.there)))))) (by (repeat (first | exact Suff.here | apply Suff.there)))
          skip
          refine G.seq ?_
          refine G.join (F := F) (ι := Unit) (fun _ => [(0, .slice a0 first.length c0), (1, .slice (some ⟨bh, oh, none⟩) next.length c1), (2, vint at0), (3, v3), (10, vptr d), (12, .slice (some ⟨bo, 0, none⟩) 32 co), (17, .slice (some ⟨bl, 0, none⟩) 32 cl), (19, vint j)]) (fun _ => [dkR d δ', p, slR 9 1 (.slice (some ⟨bo, 0, none⟩) 32 co) 32 (strs δ0.now), slR 9 1 (.slice (some ⟨bl, 0, none⟩) 32 cl) 32 (strs δ'.now)]) (fun _ => True) ?_ (fun _ _ => ?_)
          · refine G.seq ?_
            refine G.region ?_
            refine G.q (Quiet.move rfl) rfl ?_
            refine G.q (Quiet.not rfl) rfl ?_
            refine G.nil ?_
            refine G.then_n ?_
            refine G.condB rfl (fun h135 => ?_) (fun h135 => ?_)
            · refine G.region ?_
              refine G.q (Quiet.move rfl) rfl ?_
              refine G.q (Quiet.move rfl) rfl ?_
              refine G.q (Quiet.move rfl) rfl ?_
              refine G.q (Quiet.indexAddr rfl rfl el_22 (by omega)) rfl ?_
              refine G.op (OpSpec.storeEl (i := (pickZ next[j] 32).toNat * 1) rfl rfl rfl sz_9 ?hi120) (by (repeat (first | exact Picks.nil | (apply Picks.cons; (repeat (first | exact Pick.here | apply Pick.there)))))) rfl ?nx121
              case hi120 => omega
              rintro v L' rfl
              refine G.nil ?_
              refine G.then_n ?_
              have hd : δ.dead = false := by simpa using h135
              rw [Nat.mul_one, ← List.map_set, ← w4 hd]
              exact G.meet () trivial ⟨rfl, rfl, rfl, rfl, rfl, rfl, rfl, rfl, trivial⟩ (by (repeat (first | exact Picks.nil | (apply Picks.cons; (repeat (first | exact Pick.here | apply Pick.there)))))) (by (repeat (first | exact Suff.here | apply Suff.there)))
            · refine G.skip ?_
              refine G.then_n ?_
              have hd : δ.dead = true := by simpa using h135
              rw [← show δ' = δ from w3 hd]
              exact G.meet () trivial ⟨rfl, rfl, rfl, rfl, rfl, rfl, rfl, rfl, trivial⟩ (by (repeat (first | exact Picks.nil | (apply Picks.cons; (repeat (first | exact Pick.here | apply Pick.there)))))) (by (repeat (first | exact Suff.here | apply Suff.there)))
          skip
          refine G.region ?_
          refine G.q (Quiet.move rfl) rfl ?_
          refine G.op (OpSpec.call Try.func52 rfl rfl (vs := [_]) rfl (dead_spec _ _)) (by (repeat (first | exact Picks.nil | (apply Picks.cons; (repeat (first | exact Pick.here | apply Pick.there)))))) rfl ?nx123
          rintro v L' ⟨rfl, rfl⟩
          refine G.q (Quiet.assign rfl) rfl ?_
          refine G.nil ?_
          refine G.blk_n ?_
          refine G.then_n ?_
          refine G.region ?_
          refine G.q (Quiet.move rfl) rfl ?_
          refine G.q (Quiet.add rfl rfl (by omega)) rfl ?_
          refine G.q (Quiet.assign rfl) rfl ?_
          refine G.nil ?_
          refine G.then_n ?_
          refine G.round (δ', j + 1) ⟨by dsimp only; omega, w2⟩ (by dsimp only; omega) ⟨rfl, rfl, rfl, rfl, rfl, rfl, rfl, rfl, rfl, trivial⟩ (by (repeat (first | exact Picks.nil | (apply Picks.cons; (repeat (first | exact Pick.here | apply Pick.there)))))) (by (repeat (first | exact Suff.here | apply Suff.there)))
        · refine G.exit ?_
          refine G.then_e ?_
          refine G.then_e ?_
          refine G.blk_e ?_
          refine G.then_n ?_
          exact G.meet δ ⟨j, hj1, hI⟩ ⟨rfl, rfl, rfl, rfl, rfl, rfl, rfl, trivial⟩ (by (repeat (first | exact Picks.nil | (apply Picks.cons; (repeat (first | exact Pick.here | apply Pick.there)))))) (by (repeat (first | exact Suff.here | apply Suff.there)))
      · refine G.kDF (t := 96) rfl h23_97 ?_
        refine G.gskip (t := 97) rfl rfl rfl rfl ?_
        refine G.gskip (t := 97) rfl rfl rfl rfl ?_
        refine G.q (Quiet.pickF rfl rfl) rfl ?_
        refine G.nil ?_
        refine G.then_n ?_
        refine G.condF rfl ?_
        refine G.exit ?_
        refine G.then_e ?_
        refine G.then_e ?_
        refine G.blk_e ?_
        refine G.then_n ?_
        exact G.meet δ ⟨j, hj1, hI⟩ ⟨rfl, rfl, rfl, rfl, rfl, rfl, rfl, trivial⟩ (by (repeat (first | exact Picks.nil | (apply Picks.cons; (repeat (first | exact Pick.here | apply Pick.there)))))) (by (repeat (first | exact Suff.here | apply Suff.there)))
    obtain ⟨j0, hj1, hJ⟩ := hq
    have hln := hJ.len
    have hac := hJ.acts
    refine G.seq ?_
    refine G.dkOpen (δ := δ2) (by (repeat (first | exact Pick.here | apply Pick.there))) fun nb ob hok => ?_
    refine G.dkFold (δ := δ2) (by (repeat (first | exact Picks.nil | (apply Picks.cons; (repeat (first | exact Pick.here | apply Pick.there)))))) rfl rfl rfl hok ?_
    refine G.region ?_
    refine G.q (Quiet.move rfl) rfl ?_
    refine G.q (Quiet.move rfl) rfl ?_
    refine G.op (OpSpec.call Try.func53 rfl rfl (vs := [_, _]) rfl (crash_spec d δ2 v3 how p hr3 hb3)) (by (repeat (first | exact Picks.nil | (apply Picks.cons; (repeat (first | exact Pick.here | apply Pick.there)))))) rfl ?nx130
    rintro v L' ⟨rfl, rfl⟩; have hcl : (δ2.crash how).now.length = 32 := (δ2.crashTo_same how δ2.pend.length).2.2.2.2.trans hln
    refine G.nil ?_
    refine G.then_n ?_
    refine G.seq ?_
    refine G.seq ?_
    refine G.region ?_
    refine G.q (Quiet.move rfl) rfl ?_
    refine G.op (OpSpec.call Try.func52 rfl rfl (vs := [_]) rfl (dead_spec _ _)) (by (repeat (first | exact Picks.nil | (apply Picks.cons; (repeat (first | exact Pick.here | apply Pick.there)))))) rfl ?nx133
    rintro v L' ⟨rfl, rfl⟩
    refine G.q (Quiet.move rfl) rfl ?_
    refine G.grun (t := 147) rfl rfl rfl ?_
    refine G.q (Quiet.move rfl) rfl ?_
    refine G.grun (t := 147) rfl rfl rfl ?_
    refine G.op (OpSpec.call Try.func54 rfl rfl (vs := [_]) rfl (pending_spec _ _)) (by (repeat (first | exact Picks.nil | (apply Picks.cons; (repeat (first | exact Pick.here | apply Pick.there)))))) rfl ?nx136
    rintro v L' ⟨⟨ap, cp, rfl⟩, rfl⟩
    refine G.grun (t := 147) rfl rfl rfl ?_
    refine G.q (Quiet.slen rfl Try.underlying40 rfl) rfl ?_
    refine G.grun (t := 147) rfl rfl rfl ?_
    refine G.q (Quiet.as (v' := .bool false) (by rw [Dk.pend_len]; rfl) (Quiet.int rfl rfl rfl)) rfl ?_
    refine G.q (Quiet.pickF rfl rfl) rfl ?_
    refine G.nil ?_
    refine G.then_n ?_
    refine G.condF rfl ?_
    refine G.skip ?_
    refine G.then_n ?_
    refine G.seq ?_
    refine G.seq ?_
    refine G.region ?_
    refine G.q (Quiet.assign rfl) rfl ?_
    refine G.nil ?_
    refine G.then_n ?_
    refine G.block ?_
    refine G.loop (F := F) (ι := Nat) (fun n => [(10, vptr d), (12, .slice (some ⟨bo, 0, none⟩) 32 co), (17, .slice (some ⟨bl, 0, none⟩) 32 cl), (23, vint n)]) (fun n => [dkR d (δ2.crash how), p, slR 9 1 (.slice (some ⟨bo, 0, none⟩) 32 co) 32 (strs δ0.now), slR 9 1 (.slice (some ⟨bl, 0, none⟩) 32 cl) 32 (strs δ2.now)]) (fun n => n ≤ 32) (fun n => 32 - n) 0 (Nat.zero_le _) ⟨rfl, rfl, rfl, rfl, trivial⟩ (by (repeat (first | exact Picks.nil | (apply Picks.cons; (repeat (first | exact Pick.here | apply Pick.there)))))) (by (repeat (first | exact Suff.here | apply Suff.there))) ?_
    intro n hn
    refine G.seq ?_
    refine G.seq ?_
    refine G.region ?_
    refine G.q (Quiet.move rfl) rfl ?_
    refine G.q (Quiet.int rfl rfl rfl) rfl ?_
    refine G.nil ?_
    refine G.then_n ?_
    refine G.condD rfl (fun h154 => ?_) (fun h154 => ?_)
    · have hn2 : n < 32 := by omega
      have hrd := Dk.crash_read (δ := δ2) how hln hn2
      have htn : Torn (tx (δ2.crash how).now n) (tx δ2.now n) (tx δ0.now n) := by have := Dk.crash_torn hok how (n := (n : Int)) (by omega); rwa [hJ.orig n (by omega)] at this
      have hsl : (tx (δ2.crash how).now n).length = 64 := (hok.crashed how).txlen (by omega)
      have hll : (tx δ2.now n).length = 64 := hok.txlen (by omega)
      have hol : (tx δ0.now n).length = 64 := by rw [← hJ.orig n (by omega)]; exact hok.origlen (by omega)
      generalize tx (δ2.crash how).now n = s at *
      have el : (strs δ2.now)[n]? = some (vstr (tx δ2.now n)) := by simp [tx, hn2, hln]
      have eo : (strs δ0.now)[n]? = some (vstr (tx δ0.now n)) := by simp [tx, hn2, hTl]
      generalize tx δ2.now n = t at *
      generalize tx δ0.now n = o at *
      refine G.skip ?_
      refine G.then_n ?_
      refine G.seq ?_
      refine G.block ?_
      refine G.seq ?_
      refine G.region ?_
      refine G.q (Quiet.move rfl) rfl ?_
      refine G.q (Quiet.move rfl) rfl ?_
      refine G.op (OpSpec.call Try.func55 rfl rfl (vs := [_, _]) rfl (read_spec d (δ2.crash how) n)) (by (repeat (first | exact Picks.nil | (apply Picks.cons; (repeat (first | exact Pick.here | apply Pick.there)))))) rfl ?nx145
      rintro v L' ⟨rfl, rfl⟩; rw [hrd]
      refine G.q (Quiet.move rfl) rfl ?_
      refine G.q (Quiet.extract rfl rfl) rfl ?_
      refine G.q (Quiet.extract rfl rfl) rfl ?_
      refine G.q (Quiet.assign rfl) rfl ?_
      refine G.q (Quiet.assign rfl) rfl ?_
      refine G.nil ?_
      refine G.then_n ?_
      refine G.seq ?_
      refine G.seq ?_
      refine G.region ?_
      refine G.q (Quiet.move rfl) rfl ?_
      refine G.q (Quiet.int rfl rfl rfl) rfl ?_
      refine G.q (Quiet.move rfl) rfl ?_
      refine G.grun (t := 165) rfl rfl rfl ?_
      refine G.q (Quiet.move rfl) rfl ?_
      refine G.grun (t := 165) rfl rfl rfl ?_
      refine G.q (Quiet.strlen rfl Try.underlying9 rfl) rfl ?_
      refine G.grun (t := 165) rfl rfl rfl ?_
      refine G.q (Quiet.as (v' := .bool false) (by simp [hsl]) (Quiet.int rfl rfl rfl)) rfl ?_
      refine G.q (Quiet.pickF rfl rfl) rfl ?_
      refine G.nil ?_
      refine G.then_n ?_
      refine G.condF rfl ?_
      refine G.skip ?_
      refine G.then_n ?_
      refine G.seq ?_
      refine G.region ?_
      refine G.q (Quiet.assign rfl) rfl ?_
      refine G.nil ?_
      refine G.then_n ?_
      refine G.seq ?_
      refine G.seq ?_
      refine G.region ?_
      refine G.q (Quiet.assign rfl) rfl ?_
      refine G.nil ?_
      refine G.then_n ?_
      refine G.block ?_
      refine G.loop (F := F) (ι := Nat) (fun b => [(10, vptr d), (12, .slice (some ⟨bo, 0, none⟩) 32 co), (17, .slice (some ⟨bl, 0, none⟩) 32 cl), (23, vint n), (24, vstr s), (26, .bool (tornTo s t o b)), (27, vint b)]) (fun b => [dkR d (δ2.crash how), p, slR 9 1 (.slice (some ⟨bo, 0, none⟩) 32 co) 32 (strs δ0.now), slR 9 1 (.slice (some ⟨bl, 0, none⟩) 32 cl) 32 (strs δ2.now)]) (fun b => b ≤ 65) (fun b => 65 - b) 0 (Nat.zero_le _) ⟨rfl, rfl, rfl, rfl, rfl, rfl, rfl, trivial⟩ (by (repeat (first | exact Picks.nil | (apply Picks.cons; (repeat (first | exact Pick.here | apply Pick.there)))))) (by (repeat (first | exact Suff.here | apply Suff.there))) ?_
      intro b hb
      refine G.seq ?_
      refine G.seq ?_
      refine G.region ?_
      refine G.q (Quiet.move rfl) rfl ?_
      refine G.q (Quiet.int rfl rfl rfl) rfl ?_
      refine G.nil ?_
      refine G.then_n ?_
      refine G.condD rfl (fun h171 => ?_) (fun h171 => ?_)
      · have hb2 : b ≤ 64 := by omega
        refine G.skip ?_
        refine G.then_n ?_
        refine G.seq ?_
        refine G.block ?_
        refine G.draw [] [[0, 1, 2, 3, 4, 5, 6, 7, 8, 9, 10, 11, 12, 13, 14, 15, 16, 17, 18]] mixed (by kernel_rfl) ?_
        refine Phases.go [] (by (repeat (first | exact Picks.nil | (apply Picks.cons; (repeat (first | exact Pick.here | apply Pick.there)))))) ?_
        refine D.qw [1, 2, 3, 4, 5, 6, 7, 8, 9, 10, 11, 12, 13, 14, 15, 16, 17, 18] rfl (by kernel_rfl) (Quiet.move rfl) ?_
        refine D.qw [2, 3, 4, 5, 6, 7, 8, 9, 10, 11, 12, 13, 14, 15, 16, 17, 18] rfl (by kernel_rfl) (Quiet.move rfl) ?_
        refine D.bool (t := 175) rfl (fun h46_175 => ?_) (fun h46_175 => ?_)
        · refine D.kB (t := 174) rfl h46_175 ?_
          refine D.gs (t := 175) rfl rfl rfl rfl (by kernel_rfl) ?_
          refine D.gs (t := 175) rfl rfl rfl rfl (by kernel_rfl) ?_
          refine D.gs (t := 175) rfl rfl rfl rfl (by kernel_rfl) ?_
          refine D.gs (t := 175) rfl rfl rfl rfl (by kernel_rfl) ?_
          refine D.gs (t := 175) rfl rfl rfl rfl (by kernel_rfl) ?_
          refine D.gs (t := 175) rfl rfl rfl rfl (by kernel_rfl) ?_
          refine D.gs (t := 175) rfl rfl rfl rfl (by kernel_rfl) ?_
          refine D.gs (t := 175) rfl rfl rfl rfl (by kernel_rfl) ?_
          refine D.gs (t := 175) rfl rfl rfl rfl (by kernel_rfl) ?_
          refine D.gs (t := 175) rfl rfl rfl rfl (by kernel_rfl) ?_
          refine D.gs (t := 175) rfl rfl rfl rfl (by kernel_rfl) ?_
          refine D.gs (t := 175) rfl rfl rfl rfl (by kernel_rfl) ?_
          refine D.gs (t := 175) rfl rfl rfl rfl (by kernel_rfl) ?_
          refine D.gs (t := 175) rfl rfl rfl rfl (by kernel_rfl) ?_
          refine D.gs (t := 175) rfl rfl rfl rfl (by kernel_rfl) ?_
          refine D.qw [18] rfl (by kernel_rfl) (Quiet.pickT rfl rfl) ?_
          refine D.qw [] rfl (by kernel_rfl) (Quiet.assign rfl) ?_
          refine D.ph ?_
          refine Phases.fin ?_
          refine G.blk_n ?_
          refine G.then_n ?_
          refine G.region ?_
          refine G.q (Quiet.move rfl) rfl ?_
          refine G.q (Quiet.add rfl rfl (by omega)) rfl ?_
          refine G.q (Quiet.assign rfl) rfl ?_
          refine G.nil ?_
          refine G.then_n ?_
          have e1 := tornTo_succ s t o b
          rw [h46_175] at e1
          refine G.round (b + 1) (by omega) (by omega) ⟨rfl, rfl, rfl, rfl, rfl, (by rw [e1]; rfl), rfl, trivial⟩ (by (repeat (first | exact Picks.nil | (apply Picks.cons; (repeat (first | exact Pick.here | apply Pick.there)))))) (by (repeat (first | exact Suff.here | apply Suff.there)))
        · refine D.kB (t := 174) rfl h46_175 ?_
          refine D.gqw [16, 17, 18] (t := 175) rfl rfl rfl (by kernel_rfl) (Quiet.move rfl) ?_
          refine D.gqw [5, 6, 8, 15, 16, 17, 18] (t := 175) rfl rfl rfl (by kernel_rfl) (Quiet.move rfl) ?_
          refine D.gqw [5, 6, 8, 15, 16, 17, 18] (t := 175) rfl rfl rfl (by kernel_rfl) (Quiet.move rfl) ?_
          refine D.gqw [6, 8, 15, 16, 17, 18] (t := 175) rfl rfl rfl (by kernel_rfl) (Quiet.indexAddr rfl rfl el_22 (by omega)) ?_
          refine D.gqw [8, 15, 16, 17, 18] (t := 175) rfl rfl rfl (by kernel_rfl) (Quiet.loadSl (v := vstr t) (i := n * 1) rfl ag_9 (by (repeat (first | exact Pick.here | apply Pick.there))) (by rw [Nat.mul_one]; exact el)) ?_
          refine D.gqw [8, 15, 16, 17, 18] (t := 175) rfl rfl rfl (by kernel_rfl) (Quiet.move rfl) ?_
          refine D.gqw [15, 16, 17, 18] (t := 175) rfl rfl rfl (by kernel_rfl) (Quiet.strTo rfl rfl Try.underlying9 (by rw [hll]; omega)) ?_
          refine D.gqw [11, 12, 14, 15, 16, 17, 18] (t := 175) rfl rfl rfl (by kernel_rfl) (Quiet.move rfl) ?_
          refine D.gqw [11, 12, 14, 15, 16, 17, 18] (t := 175) rfl rfl rfl (by kernel_rfl) (Quiet.move rfl) ?_
          refine D.gqw [12, 14, 15, 16, 17, 18] (t := 175) rfl rfl rfl (by kernel_rfl) (Quiet.indexAddr rfl rfl el_22 (by omega)) ?_
          refine D.gqw [14, 15, 16, 17, 18] (t := 175) rfl rfl rfl (by kernel_rfl) (Quiet.loadSl (v := vstr o) (i := n * 1) rfl ag_9 (by (repeat (first | exact Pick.here | apply Pick.there))) (by rw [Nat.mul_one]; exact eo)) ?_
          refine D.gqw [14, 15, 16, 17, 18] (t := 175) rfl rfl rfl (by kernel_rfl) (Quiet.move rfl) ?_
          refine D.gqw [15, 16, 17, 18] (t := 175) rfl rfl rfl (by kernel_rfl) (Quiet.strFrom rfl rfl Try.underlying9 (by rw [hol]; omega)) ?_
          refine D.gqw [16, 17, 18] (t := 175) rfl rfl rfl (by kernel_rfl) (Quiet.concat rfl rfl (by simp [hll, hol]; omega)) ?_
          refine D.gqw [17, 18] (t := 175) rfl rfl rfl (by kernel_rfl) (Quiet.streq rfl rfl) ?_
          refine D.qw [18] rfl (by kernel_rfl) (Quiet.pickF rfl rfl) ?_
          refine D.qw [] rfl (by kernel_rfl) (Quiet.assign rfl) ?_
          refine D.ph ?_
          refine Phases.fin ?_
          refine G.blk_n ?_
          refine G.then_n ?_
          refine G.region ?_
          refine G.q (Quiet.move rfl) rfl ?_
          refine G.q (Quiet.add rfl rfl (by omega)) rfl ?_
          refine G.q (Quiet.assign rfl) rfl ?_
          refine G.nil ?_
          refine G.then_n ?_
          have e1 := tornTo_succ s t o b
          rw [h46_175] at e1
          refine G.round (b + 1) (by omega) (by omega) ⟨rfl, rfl, rfl, rfl, rfl, (by rw [e1]; rfl), rfl, trivial⟩ (by (repeat (first | exact Picks.nil | (apply Picks.cons; (repeat (first | exact Pick.here | apply Pick.there)))))) (by (repeat (first | exact Suff.here | apply Suff.there)))
      · have hb2 : b = 65 := by omega
        subst hb2
        rw [htn.to]
        refine G.exit ?_
        refine G.then_e ?_
        refine G.then_e ?_
        refine G.blk_e ?_
        refine G.then_n ?_
        refine G.seq ?_
        refine G.region ?_
        refine G.q (Quiet.move rfl) rfl ?_
        refine G.q (Quiet.not rfl) rfl ?_
        refine G.nil ?_
        refine G.then_n ?_
        refine G.condF rfl ?_
        refine G.skip ?_
        refine G.blk_n ?_
        refine G.then_n ?_
        refine G.region ?_
        refine G.q (Quiet.move rfl) rfl ?_
        refine G.q (Quiet.add rfl rfl (by omega)) rfl ?_
        refine G.q (Quiet.assign rfl) rfl ?_
        refine G.nil ?_
        refine G.then_n ?_
        refine G.round (n + 1) (by omega) (by omega) ⟨rfl, rfl, rfl, rfl, trivial⟩ (by (repeat (first | exact Picks.nil | (apply Picks.cons; (repeat (first | exact Pick.here | apply Pick.there)))))) (by (repeat (first | exact Suff.here | apply Suff.there)))
    · refine G.exit ?_
      refine G.then_e ?_
      refine G.then_e ?_
      refine G.blk_e ?_
      refine G.then_n ?_
      refine G.seq ?_
      refine G.region ?_
      refine G.q (Quiet.assign rfl) rfl ?_
      refine G.nil ?_
      refine G.then_n ?_
      refine G.ret ?_
      exact G.done (l := [.tmp 8]) rfl rfl ⟨rfl, rfl⟩ (by (repeat (first | exact Picks.nil | (apply Picks.cons; (repeat (first | exact Pick.here | apply Pick.there)))))) (by (repeat (first | exact Suff.here | apply Suff.there)))

end Go.Proofs.Ytepncdidkjjllaa
