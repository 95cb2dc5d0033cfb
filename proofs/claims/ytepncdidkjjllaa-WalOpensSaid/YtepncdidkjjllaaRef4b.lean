/- Own work, by program: the document's log: records, Open: walked. -/
import Derived.Test.YtepncdidkjjllaaRef4a
namespace Go.Proofs.Ytepncdidkjjllaa
open Go
set_option maxRecDepth 100000 in
theorem rsize_spec (va : Value) (l : List Bs) (p : HP) (hp : ∀ h : Hp, p h → rdS 1 h va l.length (strs l)) (hll : (laidZ l).length ≤ 4000000000000) : Fn Try.prog 116 #[va] [p] fun v L => v = vint (laidZ l).length ∧ L = [p] := by
  refine Fn.intro (vs := [va]) Try.func116 rfl rfl ?_
  intro F W
  have hlm := laidZ_many l
  refine G.rdAny (p := p) hp (by (repeat (first | exact Pick.here | apply Pick.there))) fun aa ca e _ => ?_
  subst e
  refine G.seq ?_
  refine G.region ?_
  refine G.q (Quiet.assign rfl) rfl ?_
  refine G.nil ?_
  refine G.then_n ?_
  refine G.seq ?_
  refine G.region ?_
  refine G.q (Quiet.assign rfl) rfl ?_
  refine G.nil ?_
  refine G.then_n ?_
  refine G.seq ?_
  refine G.seq ?_
  refine G.region ?_
  refine G.q (Quiet.assign rfl) rfl ?_
  refine G.nil ?_
  refine G.then_n ?_
  refine G.block ?_
  refine G.loopK (ι := Nat) (fun q E => (4, vint q) :: (3, vint (laidZ (l.take q)).length) :: E) (fun q => []) (fun q => q ≤ l.length) (fun q => l.length - q) (0) (ts := [0, 2]) (.cons rfl (.cons rfl (.nil))) (Nat.zero_le _) ⟨rfl, rfl, rfl, rfl, trivial⟩ (by (repeat (first | exact Picks.nil | (apply Picks.cons; (repeat (first | exact Pick.here | apply Pick.there)))))) ?_
  rintro i hi
  refine G.seq ?_
  refine G.seq ?_
  refine G.region ?_
  refine G.q (Quiet.move rfl) rfl ?_
  refine G.q (Quiet.move rfl) rfl ?_
  refine G.q (Quiet.slen rfl Try.underlying22 rfl) rfl ?_
  refine G.q (Quiet.int rfl rfl rfl) rfl ?_
  refine G.nil ?_
  refine G.then_n ?_
  refine G.condD rfl (fun h8 => ?_) (fun h8 => ?_)
  · have hi2 : i < l.length := by omega
    refine G.rdShape (p := p) hp (by (repeat (first | exact Pick.here | apply Pick.there))) (by omega) fun ba oa e => ?_
    subst e
    have hts := laidZ_take_len l (i + 1)
    have hsu : (laidZ (l.take (i + 1))).length = (laidZ (l.take i)).length + l[i].length + 6 := by rw [laidZ_succ hi2, List.length_append, recZ_len]; omega
    refine G.skip ?_
    refine G.then_n ?_
    refine G.seq ?_
    refine G.block ?_
    refine G.region ?_
    refine G.q (Quiet.move rfl) rfl ?_
    refine G.q (Quiet.move rfl) rfl ?_
    refine G.q (Quiet.move rfl) rfl ?_
    refine G.q (Quiet.indexAddr rfl rfl el_22 (by omega)) rfl ?_
    refine G.q (Quiet.loadRd (sz := 1) (j := i) (p := p) (v := vstr l[i]) rfl ag_9 (by (repeat (first | exact Pick.here | apply Pick.there))) hp (by simp) (by simp [hi2])) rfl ?_
    refine G.q (Quiet.strlen rfl Try.underlying9 rfl) rfl ?_
    refine G.q (Quiet.add rfl rfl (by omega)) rfl ?_
    refine G.q (Quiet.as (v' := vint (laidZ (l.take (i + 1))).length) (by rw [hsu]; exact congrArg (Value.int .i64) (by omega)) (Quiet.add rfl rfl (by omega))) rfl ?_
    refine G.q (Quiet.assign rfl) rfl ?_
    refine G.nil ?_
    refine G.blk_n ?_
    refine G.then_n ?_
    refine G.region ?_
    refine G.q (Quiet.move rfl) rfl ?_
    refine G.q (Quiet.add rfl rfl (by omega)) rfl ?_
    refine G.q (Quiet.assign rfl) rfl ?_
    refine G.nil ?_
    refine G.then_n ?_
    exact G.roundK (i + 1) (by omega) (by omega) ⟨rfl, rfl, rfl, rfl, trivial⟩ (by (repeat (first | exact Picks.nil | (apply Picks.cons; (repeat (first | exact Pick.here | apply Pick.there)))))) (by ((repeat (apply Have.cons; (repeat (first | exact Pick.here | apply Pick.there)))); apply Have.base; repeat (first | exact Suff.here | apply Suff.there)))
  · refine G.exit ?_
    refine G.then_e ?_
    refine G.then_e ?_
    refine G.blk_e ?_
    refine G.then_n ?_
    refine G.seq ?_
    refine G.region ?_
    refine G.q (Quiet.move rfl) rfl ?_
    refine G.q (Quiet.assign rfl) rfl ?_
    refine G.nil ?_
    refine G.then_n ?_
    refine G.ret ?_
    exact G.done (l := [.tmp 2]) rfl rfl ⟨by have hi3 : i = l.length := (by omega); rw [hi3, List.take_length], rfl⟩ (by (repeat (first | exact Picks.nil | (apply Picks.cons; (repeat (first | exact Pick.here | apply Pick.there)))))) (by (repeat (first | exact Suff.here | apply Suff.there)))

set_option maxRecDepth 100000 in
theorem rrecords_spec (s : Bs) (num : Int) (hs : s.length ≤ 2147483648) : Fn Try.prog 115 #[vstr s, vint num] [] fun v L => (∃ l, partZ s num = some l ∧ (∃ a c, v = .tuple #[.slice a l.length c, .bool true] ∧ L = [strR (.slice a l.length c) l])) ∨ (partZ s num = none ∧ (∃ w, v = .tuple #[w, .bool false]) ∧ L = []) := by
  refine Fn.intro (vs := [vstr s, vint num]) Try.func115 rfl rfl ?_
  intro F W
  refine G.seq ?_
  refine G.region ?_
  refine G.q (Quiet.assign rfl) rfl ?_
  refine G.q (Quiet.assign rfl) rfl ?_
  refine G.nil ?_
  refine G.then_n ?_
  refine G.seq ?_
  refine G.region ?_
  refine G.q (Quiet.assign rfl) rfl ?_
  refine G.nil ?_
  refine G.then_n ?_
  refine G.seq ?_
  refine G.block ?_
  refine G.add (slR_nil 9 1) ?_
  refine G.loopK (ι := Bs × (List Bs) × Nat × Value) (fun q E => (0, vstr q.1) :: (6, q.2.2.2) :: E) (fun q => [strR q.2.2.2 q.2.1]) (fun q => q.1.length < q.2.2.1 ∧ partF q.2.2.1 q.1 q.2.1 num = partZ s num ∧ q.2.1.length + q.1.length ≤ s.length ∧ ∃ a c, q.2.2.2 = .slice a q.2.1.length c) (fun q => q.1.length) (s, [], s.length + 1, .slice none 0 0) (ts := [1]) (.cons rfl (.nil)) (⟨Nat.lt_succ_self _, rfl, by simp, _, _, rfl⟩) ⟨rfl, rfl, rfl, trivial⟩ (by (repeat (first | exact Picks.nil | (apply Picks.cons; (repeat (first | exact Pick.here | apply Pick.there)))))) ?_
  rintro ⟨s2, out, f, u⟩ ⟨hf, hp, hle, au, cu, hu⟩
  dsimp only
  dsimp only at hf hp hle hu
  subst hu
  refine G.seq ?_
  refine G.seq ?_
  refine G.region ?_
  refine G.q (Quiet.move rfl) rfl ?_
  refine G.q (Quiet.strlen rfl Try.underlying9 rfl) rfl ?_
  refine G.q (Quiet.int rfl rfl rfl) rfl ?_
  refine G.nil ?_
  refine G.then_n ?_
  refine G.condD rfl (fun h10 => ?_) (fun h10 => ?_)
  · have h10b : 0 < s2.length := by simpa [bs_size] using h10
    obtain ⟨f, rfl⟩ : ∃ k, f = k + 1 := ⟨f - 1, by omega⟩
    simp only [partF] at hp
    rw [if_neg (by intro h; rw [h] at h10b; exact Nat.lt_irrefl _ h10b)] at hp
    refine G.skip ?_
    refine G.then_n ?_
    refine G.block ?_
    refine G.seq ?_
    refine G.seq ?_
    refine G.region ?_
    refine G.q (Quiet.move rfl) rfl ?_
    refine G.q (Quiet.slen rfl Try.underlying22 rfl) rfl ?_
    refine G.q (Quiet.move rfl) rfl ?_
    refine G.q (Quiet.int rfl rfl rfl) rfl ?_
    refine G.q (Quiet.move rfl) rfl ?_
    refine G.dec (t := 15) rfl (fun h3_15 => ?_) (fun h3_15 => ?_)
    · refine G.kDT (t := 14) rfl h3_15 ?_
      refine G.gskip (t := 15) rfl rfl rfl rfl ?_
      refine G.gskip (t := 15) rfl rfl rfl rfl ?_
      refine G.gskip (t := 15) rfl rfl rfl rfl ?_
      refine G.q (Quiet.pickT rfl rfl) rfl ?_
      refine G.nil ?_
      refine G.then_n ?_
      refine G.condT rfl ?_
      refine G.seq ?_
      refine G.region ?_
      refine G.q (Quiet.assign rfl) rfl ?_
      refine G.q (Quiet.assign rfl) rfl ?_
      refine G.nil ?_
      refine G.then_n ?_
      refine G.ret ?_
      refine G.then_r ?_
      refine G.blk_r ?_
      refine G.then_r ?_
      refine G.blk_r ?_
      refine G.then_r ?_
      rw [if_pos (by first | exact .inl h3_15 | exact .inr (by omega))] at hp
      exact G.done (l := [.tmp 4, .tmp 5]) rfl rfl (.inr ⟨hp.symm, ⟨_, rfl⟩, rfl⟩) (by (repeat (first | exact Picks.nil | (apply Picks.cons; (repeat (first | exact Pick.here | apply Pick.there)))))) (by (repeat (first | exact Suff.here | apply Suff.there)))
    · refine G.kDF (t := 14) rfl h3_15 ?_
      refine G.grun (t := 15) rfl rfl rfl ?_
      refine G.q (Quiet.move rfl) rfl ?_
      refine G.grun (t := 15) rfl rfl rfl ?_
      refine G.q (Quiet.strlen rfl Try.underlying9 rfl) rfl ?_
      refine G.grun (t := 15) rfl rfl rfl ?_
      refine G.q (Quiet.int rfl rfl rfl) rfl ?_
      refine G.q (Quiet.pickF rfl rfl) rfl ?_
      refine G.nil ?_
      refine G.then_n ?_
      refine G.condD rfl (fun h19 => ?_) (fun h19 => ?_)
      · refine G.seq ?_
        refine G.region ?_
        refine G.q (Quiet.assign rfl) rfl ?_
        refine G.q (Quiet.assign rfl) rfl ?_
        refine G.nil ?_
        refine G.then_n ?_
        refine G.ret ?_
        refine G.then_r ?_
        refine G.blk_r ?_
        refine G.then_r ?_
        refine G.blk_r ?_
        refine G.then_r ?_
        rw [if_pos (by first | exact .inl h3_15 | exact .inr (by omega))] at hp
        exact G.done (l := [.tmp 4, .tmp 5]) rfl rfl (.inr ⟨hp.symm, ⟨_, rfl⟩, rfl⟩) (by (repeat (first | exact Picks.nil | (apply Picks.cons; (repeat (first | exact Pick.here | apply Pick.there)))))) (by (repeat (first | exact Suff.here | apply Suff.there)))
      · refine G.skip ?_
        refine G.then_n ?_
        refine G.seq ?_
        have h6 : 6 ≤ s2.length := by omega
        rw [if_neg (by rintro (h | h) <;> omega)] at hp
        refine G.region ?_
        refine G.q (Quiet.move rfl) rfl ?_
        refine G.q (Quiet.to (v' := vstr (s2.take 2)) (Quiet.strTo (j := 2) rfl rfl Try.underlying9 (by omega)) rfl) rfl ?_
        refine G.op (OpSpec.call Try.func113 rfl rfl (vs := [_]) rfl (rsmall_spec (s2.take 2) ?hs21)) (by (repeat (first | exact Picks.nil | (apply Picks.cons; (repeat (first | exact Pick.here | apply Pick.there)))))) rfl ?nx22
        case hs21 => rw [List.length_take]; omega
        rintro v L' ⟨rfl, rfl⟩
        refine G.q (Quiet.assign rfl) rfl ?_
        refine G.nil ?_
        obtain ⟨hn0, hn1, -⟩ := smallZ_nonneg (s := s2.take 2) (by rw [List.length_take]; omega)
        generalize smallZ (s2.take 2) = n at *
        obtain ⟨k, rfl⟩ := Int.eq_ofNat_of_zero_le hn0
        simp only [Int.toNat_natCast] at hp
        have hn1 : k < 65536 := by rw [List.length_take, Nat.min_eq_left (by omega)] at hn1; have e : (256 : Int) ^ 2 = 65536 := rfl; omega
        refine G.then_n ?_
        refine G.seq ?_
        refine G.seq ?_
        refine G.draw [] [[0, 1, 2, 3, 4, 5, 6, 7, 8, 9, 10, 11, 12, 13, 14, 15, 16, 17, 18, 19, 20]] mixed (by kernel_rfl) ?_
        refine Phases.go [] (by (repeat (first | exact Picks.nil | (apply Picks.cons; (repeat (first | exact Pick.here | apply Pick.there)))))) ?_
        refine D.qw [1, 2, 3, 4, 5, 6, 7, 8, 9, 10, 11, 12, 13, 14, 15, 16, 17, 18, 19, 20] rfl (by kernel_rfl) (Quiet.move rfl) ?_
        refine D.qw [2, 3, 4, 5, 6, 7, 8, 9, 10, 11, 12, 13, 14, 15, 16, 17, 18, 19, 20] rfl (by kernel_rfl) (Quiet.int rfl rfl rfl) ?_
        refine D.qw [3, 4, 5, 6, 7, 8, 9, 10, 11, 12, 13, 14, 15, 16, 17, 18, 19, 20] rfl (by kernel_rfl) (Quiet.move rfl) ?_
        refine D.dec (t := 25) rfl (fun h6_25 => ?_) (fun h6_25 => ?_)
        · refine D.kDT (t := 24) rfl h6_25 ?_
          refine D.gs (t := 25) rfl rfl rfl rfl (by kernel_rfl) ?_
          refine D.gs (t := 25) rfl rfl rfl rfl (by kernel_rfl) ?_
          refine D.gs (t := 25) rfl rfl rfl rfl (by kernel_rfl) ?_
          refine D.gs (t := 25) rfl rfl rfl rfl (by kernel_rfl) ?_
          refine D.gs (t := 25) rfl rfl rfl rfl (by kernel_rfl) ?_
          refine D.qw [9, 10, 11, 12, 13, 14, 15, 16, 17, 18, 19, 20] rfl (by kernel_rfl) (Quiet.pickT rfl rfl) ?_
          refine D.qw [10, 11, 12, 13, 14, 15, 16, 17, 18, 19, 20] rfl (by kernel_rfl) (Quiet.move rfl) ?_
          refine D.gs (t := 32) rfl rfl rfl rfl (by kernel_rfl) ?_
          refine D.gs (t := 32) rfl rfl rfl rfl (by kernel_rfl) ?_
          refine D.gs (t := 32) rfl rfl rfl rfl (by kernel_rfl) ?_
          refine D.gs (t := 32) rfl rfl rfl rfl (by kernel_rfl) ?_
          refine D.gs (t := 32) rfl rfl rfl rfl (by kernel_rfl) ?_
          refine D.gs (t := 32) rfl rfl rfl rfl (by kernel_rfl) ?_
          refine D.gs (t := 32) rfl rfl rfl rfl (by kernel_rfl) ?_
          refine D.gs (t := 32) rfl rfl rfl rfl (by kernel_rfl) ?_
          refine D.gs (t := 32) rfl rfl rfl rfl (by kernel_rfl) ?_
          refine D.gs (t := 32) rfl rfl rfl rfl (by kernel_rfl) ?_
          refine D.qw [] rfl (by kernel_rfl) (Quiet.pickT rfl rfl) ?_
          refine D.ph ?_
          refine Phases.fin ?_
          refine G.then_n ?_
          refine G.condT rfl ?_
          refine G.seq ?_
          refine G.region ?_
          refine G.q (Quiet.assign rfl) rfl ?_
          refine G.q (Quiet.assign rfl) rfl ?_
          refine G.nil ?_
          refine G.then_n ?_
          refine G.ret ?_
          refine G.then_r ?_
          refine G.blk_r ?_
          refine G.then_r ?_
          refine G.blk_r ?_
          refine G.then_r ?_
          rw [if_pos (by first | exact .inl h6_25 | exact .inr (by omega))] at hp
          exact G.done (l := [.tmp 4, .tmp 5]) rfl rfl (.inr ⟨hp.symm, ⟨_, rfl⟩, rfl⟩) (by (repeat (first | exact Picks.nil | (apply Picks.cons; (repeat (first | exact Pick.here | apply Pick.there)))))) (by (repeat (first | exact Suff.here | apply Suff.there)))
        · refine D.kDF (t := 24) rfl h6_25 ?_
          refine D.gqw [4, 7, 8, 9, 10, 11, 12, 13, 14, 15, 16, 17, 18, 19, 20] (t := 25) rfl rfl rfl (by kernel_rfl) (Quiet.move rfl) ?_
          refine D.gqw [7, 8, 9, 10, 11, 12, 13, 14, 15, 16, 17, 18, 19, 20] (t := 25) rfl rfl rfl (by kernel_rfl) (Quiet.strlen rfl Try.underlying9 rfl) ?_
          refine D.gqw [6, 7, 8, 9, 10, 11, 12, 13, 14, 15, 16, 17, 18, 19, 20] (t := 25) rfl rfl rfl (by kernel_rfl) (Quiet.move rfl) ?_
          refine D.gqw [7, 8, 9, 10, 11, 12, 13, 14, 15, 16, 17, 18, 19, 20] (t := 25) rfl rfl rfl (by kernel_rfl) (Quiet.add rfl rfl (by omega)) ?_
          refine D.gqw [8, 9, 10, 11, 12, 13, 14, 15, 16, 17, 18, 19, 20] (t := 25) rfl rfl rfl (by kernel_rfl) (Quiet.int rfl rfl rfl) ?_
          refine D.qw [9, 10, 11, 12, 13, 14, 15, 16, 17, 18, 19, 20] rfl (by kernel_rfl) (Quiet.pickF rfl rfl) ?_
          refine D.qw [10, 11, 12, 13, 14, 15, 16, 17, 18, 19, 20] rfl (by kernel_rfl) (Quiet.move rfl) ?_
          refine D.dec (t := 32) rfl (fun h6_32 => ?_) (fun h6_32 => ?_)
          · refine D.kDT (t := 30) rfl h6_32 ?_
            refine D.kDT (t := 31) rfl h6_32 ?_
            refine D.gs (t := 32) rfl rfl rfl rfl (by kernel_rfl) ?_
            refine D.gs (t := 32) rfl rfl rfl rfl (by kernel_rfl) ?_
            refine D.gs (t := 32) rfl rfl rfl rfl (by kernel_rfl) ?_
            refine D.gs (t := 32) rfl rfl rfl rfl (by kernel_rfl) ?_
            refine D.gs (t := 32) rfl rfl rfl rfl (by kernel_rfl) ?_
            refine D.gs (t := 32) rfl rfl rfl rfl (by kernel_rfl) ?_
            refine D.gs (t := 32) rfl rfl rfl rfl (by kernel_rfl) ?_
            refine D.gs (t := 32) rfl rfl rfl rfl (by kernel_rfl) ?_
            refine D.gs (t := 32) rfl rfl rfl rfl (by kernel_rfl) ?_
            refine D.gs (t := 32) rfl rfl rfl rfl (by kernel_rfl) ?_
            refine D.qw [] rfl (by kernel_rfl) (Quiet.pickT rfl rfl) ?_
            refine D.ph ?_
            refine Phases.fin ?_
            refine G.then_n ?_
            refine G.condT rfl ?_
            refine G.seq ?_
            refine G.region ?_
            refine G.q (Quiet.assign rfl) rfl ?_
            refine G.q (Quiet.assign rfl) rfl ?_
            refine G.nil ?_
            refine G.then_n ?_
            refine G.ret ?_
            refine G.then_r ?_
            refine G.blk_r ?_
            refine G.then_r ?_
            refine G.blk_r ?_
            refine G.then_r ?_
            rw [if_pos (by first | exact .inl h6_25 | exact .inr (by omega))] at hp
            exact G.done (l := [.tmp 4, .tmp 5]) rfl rfl (.inr ⟨hp.symm, ⟨_, rfl⟩, rfl⟩) (by (repeat (first | exact Picks.nil | (apply Picks.cons; (repeat (first | exact Pick.here | apply Pick.there)))))) (by (repeat (first | exact Suff.here | apply Suff.there)))
          · have hk4 : k ≤ 4000 := by omega
            have hk6 : k + 6 ≤ s2.length := by omega
            refine D.kDF (t := 30) rfl h6_32 ?_
            refine D.kDF (t := 31) rfl h6_32 ?_
            refine D.gqw [13, 14, 19, 20] (t := 32) rfl rfl rfl (by kernel_rfl) (Quiet.move rfl) ?_
            refine D.gqw [12, 13, 14, 19, 20] (t := 32) rfl rfl rfl (by kernel_rfl) (Quiet.move rfl) ?_
            refine D.gqw [13, 14, 19, 20] (t := 32) rfl rfl rfl (by kernel_rfl) (Quiet.add rfl rfl (by omega)) ?_
            refine D.gqw [14, 19, 20] (t := 32) rfl rfl rfl (by kernel_rfl) (Quiet.to (v' := vstr (sub s2 2 (k + 2))) (Quiet.strMid (i := 2) (j := 2 + (k : Int)) rfl rfl rfl Try.underlying9 (by omega)) (by rw [show (2 + (k : Int)).toNat = k + 2 by omega]; rfl)) ?_
            refine D.gm (t := 32) rfl rfl rfl (by kernel_rfl) (OpSpec.call Try.func131 rfl rfl (vs := [_]) rfl (rrecord_spec (sub s2 2 (k + 2)) (by rw [sub_len (by omega)]; omega))) (by (repeat (first | exact Picks.nil | (apply Picks.cons; (repeat (first | exact Pick.here | apply Pick.there)))))) ?nx39
            refine D.gqw [18, 19, 20] (t := 32) rfl rfl rfl (by kernel_rfl) (Quiet.move rfl) ?_
            refine D.gqw [17, 18, 19, 20] (t := 32) rfl rfl rfl (by kernel_rfl) (Quiet.move rfl) ?_
            refine D.gqw [18, 19, 20] (t := 32) rfl rfl rfl (by kernel_rfl) (Quiet.add rfl rfl (by omega)) ?_
            refine D.gqw [19, 20] (t := 32) rfl rfl rfl (by kernel_rfl) (Quiet.to (v' := vstr (s2.take (k + 6))) (Quiet.strTo (j := (k : Int) + 6) rfl rfl Try.underlying9 (by omega)) (by rw [show ((k : Int) + 6).toNat = k + 6 by omega])) ?_
            refine D.gqw [20] (t := 32) rfl rfl rfl (by kernel_rfl) (Quiet.strne rfl rfl) ?_
            refine D.qw [] rfl (by kernel_rfl) (Quiet.pickF rfl rfl) ?_
            refine D.ph ?_
            refine Phases.fin ?_
            refine G.then_n ?_
            refine G.condN rfl (fun h43 => ?_) (fun h43 => ?_)
            · refine G.seq ?_
              refine G.region ?_
              refine G.q (Quiet.assign rfl) rfl ?_
              refine G.q (Quiet.assign rfl) rfl ?_
              refine G.nil ?_
              refine G.then_n ?_
              refine G.ret ?_
              refine G.then_r ?_
              refine G.blk_r ?_
              refine G.then_r ?_
              refine G.blk_r ?_
              refine G.then_r ?_
              rw [if_neg (by rintro (h | h) <;> omega), if_pos (fun h => h43 h.symm)] at hp
              exact G.done (l := [.tmp 4, .tmp 5]) rfl rfl (.inr ⟨hp.symm, ⟨_, rfl⟩, rfl⟩) (by (repeat (first | exact Picks.nil | (apply Picks.cons; (repeat (first | exact Pick.here | apply Pick.there)))))) (by (repeat (first | exact Suff.here | apply Suff.there)))
            · refine G.skip ?_
              refine G.then_n ?_
              refine G.seq ?_
              rw [if_neg (by rintro (h | h) <;> omega), if_neg (fun hc => hc (Eq.symm (by simpa using h43)))] at hp
              refine G.region ?_
              refine G.q (Quiet.move rfl) rfl ?_
              refine G.q (Quiet.move rfl) rfl ?_
              refine G.q (Quiet.move rfl) rfl ?_
              refine G.q (Quiet.add rfl rfl (by omega)) rfl ?_
              refine G.q (Quiet.to (v' := vstr (sub s2 2 (k + 2))) (Quiet.strMid (i := 2) (j := 2 + (k : Int)) rfl rfl rfl Try.underlying9 (by omega)) (by rw [show (2 + (k : Int)).toNat = k + 2 by omega]; rfl)) rfl ?_
              refine G.op (OpSpec.buildSlice1 (vs := [_]) el_22 ze_9 rfl rfl rfl rfl rfl (by decide)) (by (repeat (first | exact Picks.nil | (apply Picks.cons; (repeat (first | exact Pick.here | apply Pick.there)))))) rfl ?nx51
              rintro v L' ⟨b8_5, rfl, rfl⟩
              refine G.op (OpSpec.append1 rfl rfl rfl el_22 ze_9 rfl rfl ?c53 ?c54 (Nat.le_refl _) ?c55 (by decide)) (by (repeat (first | exact Picks.nil | (apply Picks.cons; (repeat (first | exact Pick.here | apply Pick.there)))))) rfl ?nx56
              case c53 => (first | (simp [isCell]; done) | (simp [isCell, setAll, Value.cells]; done))
              case c54 => rfl
              case c55 => omega
              rintro v L' ⟨⟨a8_6, c8_6, rfl⟩, rfl⟩
              refine G.q (Quiet.assign rfl) rfl ?_
              refine G.nil ?_
              refine G.slCast (m' := (out ++ [sub s2 2 (k + 2)]).length) (xs' := strs (out ++ [sub s2 2 (k + 2)])) (by (repeat (first | exact Pick.here | apply Pick.there))) (by simp) (by simp [strs]) ?_
              refine G.then_n ?_
              refine G.region ?_
              refine G.q (Quiet.move rfl) rfl ?_
              refine G.q (Quiet.move rfl) rfl ?_
              refine G.q (Quiet.add rfl rfl (by omega)) rfl ?_
              refine G.q (Quiet.to (v' := vstr (s2.drop (k + 6))) (Quiet.strFrom (i := (k : Int) + 6) rfl rfl Try.underlying9 (by omega)) (by rw [show ((k : Int) + 6).toNat = k + 6 by omega])) rfl ?_
              refine G.q (Quiet.assign rfl) rfl ?_
              refine G.nil ?_
              refine G.blk_n ?_
              refine G.then_n ?_
              exact G.roundK ((s2.drop (k + 6), out ++ [sub s2 2 (k + 2)], f, .slice a8_6 (out.length + 1) c8_6)) (⟨by dsimp only; rw [List.length_drop]; omega, hp, by dsimp only; rw [List.length_drop, List.length_append, List.length_singleton]; omega, _, _, by rw [List.length_append, List.length_singleton]⟩) (by dsimp only; rw [List.length_drop]; omega) ⟨rfl, rfl, rfl, trivial⟩ (by (repeat (first | exact Picks.nil | (apply Picks.cons; (repeat (first | exact Pick.here | apply Pick.there)))))) (by ((repeat (apply Have.cons; (repeat (first | exact Pick.here | apply Pick.there)))); apply Have.base; repeat (first | exact Suff.here | apply Suff.there)))
  · have h10 : s2 = [] := List.length_eq_zero_iff.1 (by have : ¬ 0 < s2.length := (by simpa [bs_size] using h10); omega)
    subst h10
    obtain ⟨f, rfl⟩ : ∃ k, f = k + 1 := ⟨f - 1, by simp at hf; omega⟩
    simp only [partF, eq_self, if_true] at hp
    refine G.exit ?_
    refine G.then_e ?_
    refine G.then_e ?_
    refine G.blk_e ?_
    refine G.then_n ?_
    refine G.seq ?_
    refine G.region ?_
    refine G.q (Quiet.move rfl) rfl ?_
    refine G.q (Quiet.move rfl) rfl ?_
    refine G.q (Quiet.slen rfl Try.underlying22 rfl) rfl ?_
    refine G.q (Quiet.move rfl) rfl ?_
    refine G.q (Quiet.int rfl rfl rfl) rfl ?_
    refine G.q (Quiet.assign rfl) rfl ?_
    refine G.q (Quiet.assign rfl) rfl ?_
    refine G.nil ?_
    refine G.then_n ?_
    refine G.ret ?_
    split at hp
    · rename_i hq
      exact G.done (l := [.tmp 4, .tmp 5]) rfl rfl (.inl ⟨out, hp.symm, _, _, by rw [decide_eq_true hq], rfl⟩) (by (repeat (first | exact Picks.nil | (apply Picks.cons; (repeat (first | exact Pick.here | apply Pick.there)))))) (by (repeat (first | exact Suff.here | apply Suff.there)))
    · rename_i hq
      exact G.done (l := [.tmp 4, .tmp 5]) rfl rfl (.inr ⟨hp.symm, ⟨_, by rw [decide_eq_false hq]⟩, rfl⟩) (by (repeat (first | exact Picks.nil | (apply Picks.cons; (repeat (first | exact Pick.here | apply Pick.there)))))) (by (repeat (first | exact Suff.here | apply Suff.there)))

set_option maxRecDepth 100000 in
theorem ropen_spec (x : Nat) (ρ : Rk) (δ : Dk) (hL : ρ.L = δ.now) (hd : δ.dead = false) (hg : ρ.Gone = false) (hn : 2 ≤ δ.now.length ∧ δ.now.length ≤ 32768) (hok : δ.Ok) : Fn Try.prog 67 #[vptr x] [rkR x ρ] fun v L => (openZ δ = none ∧ v = .tuple #[.pointer none, vint 31] ∧ L = [rkR x ρ]) ∨ (∃ ω, openZ δ = some ω ∧ ∃ y, v = .tuple #[vptr y, vint 0] ∧ L = [rkR x ρ, rlR y x ω]) := by
  refine Fn.intro (vs := [vptr x]) Try.func67 rfl rfl ?_
  intro F W
  refine G.rkOpen .here fun vL vO vP hrok => ?_
  rw [hL, hg]
  refine G.slAny (v := vL) (by (repeat (first | exact Pick.here | apply Pick.there))) fun aL cL e lL => ?_
  subst e
  refine G.slShape (v := .slice aL _ cL) (by (repeat (first | exact Pick.here | apply Pick.there))) (by omega) fun bL cL' e mL _ => ?_
  simp only [Value.slice.injEq, true_and] at e
  obtain ⟨rfl, rfl⟩ := e
  have hn2 := hn.1
  have hHL : halfZ δ = halfL δ.now := rfl
  refine G.seq ?_
  refine G.region ?_
  refine G.q (Quiet.assign rfl) rfl ?_
  refine G.q (Quiet.assign rfl) rfl ?_
  refine G.nil ?_
  refine G.then_n ?_
  refine G.seq ?_
  refine G.seq ?_
  refine G.region ?_
  refine G.q (Quiet.move rfl) rfl ?_
  refine G.q (Quiet.ptreq rfl rfl Try.underlying28) rfl ?_
  refine G.nil ?_
  refine G.then_n ?_
  refine G.condF rfl ?_
  refine G.skip ?_
  refine G.then_n ?_
  refine G.seq ?_
  refine G.seq ?_
  refine G.region ?_
  refine G.q (Quiet.move rfl) rfl ?_
  refine G.q (Quiet.nilp rfl) rfl ?_
  refine G.q (Quiet.fieldAddr rfl fo_102_5) rfl ?_
  refine G.q (Quiet.load rfl ag_4 (by (repeat (first | exact Pick.here | apply Pick.there))) (rfl)) rfl ?_
  refine G.nil ?_
  refine G.then_n ?_
  refine G.condF rfl ?_
  refine G.skip ?_
  refine G.then_n ?_
  refine G.seq ?_
  refine G.region ?_
  refine G.q (Quiet.move rfl) rfl ?_
  refine G.op (OpSpec.call Try.func112 rfl rfl (vs := [_, _]) rfl (rright_spec x _ vO vP ρ.N ρ.At false δ 0 (by decide) hd hok hn)) (by (repeat (first | exact Picks.nil | (apply Picks.cons; (repeat (first | exact Pick.here | apply Pick.there)))))) rfl ?nx10
  rintro v L' ⟨rfl, rfl⟩
  refine G.q (Quiet.move rfl) rfl ?_
  refine G.q (Quiet.extract rfl rfl) rfl ?_
  refine G.q (Quiet.extract rfl rfl) rfl ?_
  refine G.q (Quiet.assign rfl) rfl ?_
  refine G.q (Quiet.assign rfl) rfl ?_
  refine G.nil ?_
  refine G.then_n ?_
  refine G.seq ?_
  refine G.region ?_
  refine G.q (Quiet.move rfl) rfl ?_
  refine G.op (OpSpec.call Try.func112 rfl rfl (vs := [_, _]) rfl (rright_spec x _ vO vP ρ.N ρ.At false δ 1 (by decide) hd hok hn)) (by (repeat (first | exact Picks.nil | (apply Picks.cons; (repeat (first | exact Pick.here | apply Pick.there)))))) rfl ?nx15
  rintro v L' ⟨rfl, rfl⟩
  refine G.q (Quiet.move rfl) rfl ?_
  refine G.q (Quiet.extract rfl rfl) rfl ?_
  refine G.q (Quiet.extract rfl rfl) rfl ?_
  refine G.q (Quiet.assign rfl) rfl ?_
  refine G.q (Quiet.assign rfl) rfl ?_
  refine G.nil ?_
  refine G.then_n ?_
  refine G.seq ?_
  refine G.joinK (ι := Unit) (fun q E => E) (fun q => []) (fun q => ¬ (foundZ δ 0 = none ∧ foundZ δ 1 = none)) (pre := []) (ts := [0, 4, 5, 6, 7]) (.cons rfl (.cons rfl (.cons rfl (.cons rfl (.cons rfl (.nil)))))) (by (repeat (first | exact Picks.nil | (apply Picks.cons; (repeat (first | exact Pick.here | apply Pick.there)))))) ?_ ?_
  · refine G.seq ?_
    refine G.region ?_
    refine G.q (Quiet.move rfl) rfl ?_
    refine G.q (Quiet.not rfl) rfl ?_
    refine G.q (Quiet.move rfl) rfl ?_
    refine G.bool (t := 33) rfl (fun h7_33 => ?_) (fun h7_33 => ?_)
    · refine G.kB (t := 32) rfl h7_33 ?_
      refine G.grun (t := 33) rfl rfl rfl ?_
      refine G.q (Quiet.move rfl) rfl ?_
      refine G.grun (t := 33) rfl rfl rfl ?_
      refine G.q (Quiet.not rfl) rfl ?_
      refine G.q (Quiet.pickT rfl rfl) rfl ?_
      refine G.nil ?_
      refine G.then_n ?_
      refine G.condB rfl (fun h36 => ?_) (fun h36 => ?_)
      · refine G.seq ?_
        refine G.region ?_
        refine G.q (Quiet.assign rfl) rfl ?_
        refine G.q (Quiet.assign rfl) rfl ?_
        refine G.nil ?_
        refine G.then_n ?_
        refine G.ret ?_
        refine G.then_r ?_
        refine G.rkFold (ρ := ρ) (by (repeat (first | exact Picks.nil | (apply Picks.cons; (repeat (first | exact Pick.here | apply Pick.there)))))) (by rw [hg]) ⟨by rw [hL], by rw [hL]⟩ ⟨rfl, rfl⟩ ⟨rfl, rfl⟩ hrok ?_
        exact G.done (l := [.tmp 2, .tmp 3]) rfl rfl (.inl ⟨openZ_none (by have g1 : foundZ δ 0 = none := (by rcases g : foundZ δ 0 with _ | q; rfl; rw [g] at h7_33; simp at h7_33); have g2 : foundZ δ 1 = none := (by rcases g : foundZ δ 1 with _ | q; rfl; rw [g] at h36; simp at h36); unfold bestZ; rw [g1, g2]), rfl, rfl⟩) (by (repeat (first | exact Picks.nil | (apply Picks.cons; (repeat (first | exact Pick.here | apply Pick.there)))))) (by (repeat (first | exact Suff.here | apply Suff.there)))
      · refine G.skip ?_
        refine G.then_n ?_
        exact G.meetK (()) (by rintro ⟨g1, g2⟩; rw [g2] at h36; simp at h36) ⟨rfl, rfl, rfl, rfl, rfl, trivial⟩ (by (repeat (first | exact Picks.nil | (apply Picks.cons; (repeat (first | exact Pick.here | apply Pick.there)))))) (by ((repeat (apply Have.cons; (repeat (first | exact Pick.here | apply Pick.there)))); apply Have.base; repeat (first | exact Suff.here | apply Suff.there)))
    · refine G.kB (t := 32) rfl h7_33 ?_
      refine G.gskip (t := 33) rfl rfl rfl rfl ?_
      refine G.gskip (t := 33) rfl rfl rfl rfl ?_
      refine G.q (Quiet.pickF rfl rfl) rfl ?_
      refine G.nil ?_
      refine G.then_n ?_
      refine G.condF rfl ?_
      refine G.skip ?_
      refine G.then_n ?_
      exact G.meetK (()) (by rintro ⟨g1, g2⟩; rw [g1] at h7_33; simp at h7_33) ⟨rfl, rfl, rfl, rfl, rfl, trivial⟩ (by (repeat (first | exact Picks.nil | (apply Picks.cons; (repeat (first | exact Pick.here | apply Pick.there)))))) (by ((repeat (apply Have.cons; (repeat (first | exact Pick.here | apply Pick.there)))); apply Have.base; repeat (first | exact Suff.here | apply Suff.there)))
  · rintro u0 hone
    refine G.seq ?_
    refine G.region ?_
    refine G.q (Quiet.assign rfl) rfl ?_
    refine G.nil ?_
    refine G.then_n ?_
    refine G.seq ?_
    refine G.joinK (ι := Mk × Int) (fun q E => (8, vint q.2) :: (4, vint q.1.count) :: E) (fun q => []) (fun q => bestZ δ = some q.1 ∧ foundZ δ q.2 = some q.1 ∧ 0 ≤ q.2 ∧ q.2 ≤ 1) (pre := []) (ts := [0]) (.cons rfl (.nil)) (by (repeat (first | exact Picks.nil | (apply Picks.cons; (repeat (first | exact Pick.here | apply Pick.there)))))) ?_ ?_
    · refine G.seq ?_
      refine G.region ?_
      rcases hf0 : foundZ δ 0 with _ | m0
      · refine G.q (Quiet.move rfl) rfl ?_
        rcases hf1 : foundZ δ 1 with _ | m1
        · exact absurd ⟨hf0, hf1⟩ hone
        · refine G.q (Quiet.not rfl) rfl ?_
          refine G.q (Quiet.move rfl) rfl ?_
          refine G.gskip (t := 39) rfl rfl rfl rfl ?_
          refine G.gskip (t := 39) rfl rfl rfl rfl ?_
          refine G.gskipU (t := 41) rfl rfl rfl ?_
          refine G.gskipU (t := 41) rfl rfl rfl ?_
          refine G.gskipU (t := 41) rfl rfl rfl ?_
          refine G.gskip (t := 39) rfl rfl rfl rfl ?_
          refine G.q (Quiet.pickT rfl rfl) rfl ?_
          refine G.nil ?_
          refine G.then_n ?_
          refine G.condT rfl ?_
          refine G.seq ?_
          refine G.region ?_
          refine G.q (Quiet.assign rfl) rfl ?_
          refine G.nil ?_
          refine G.then_n ?_
          refine G.region ?_
          refine G.q (Quiet.move rfl) rfl ?_
          refine G.q (Quiet.assign rfl) rfl ?_
          refine G.nil ?_
          refine G.then_n ?_
          exact G.meetK ((m1, 1)) (⟨by dsimp only; unfold bestZ; rw [hf0, hf1], hf1, by dsimp only; omega, by dsimp only; omega⟩) ⟨rfl, rfl, rfl, trivial⟩ (by (repeat (first | exact Picks.nil | (apply Picks.cons; (repeat (first | exact Pick.here | apply Pick.there)))))) (by ((repeat (apply Have.cons; (repeat (first | exact Pick.here | apply Pick.there)))); apply Have.base; repeat (first | exact Suff.here | apply Suff.there)))
      · refine G.q (Quiet.move rfl) rfl ?_
        rcases hf1 : foundZ δ 1 with _ | m1
        · refine G.q (Quiet.not rfl) rfl ?_
          refine G.q (Quiet.move rfl) rfl ?_
          refine G.grun (t := 39) rfl rfl rfl ?_
          refine G.q (Quiet.move rfl) rfl ?_
          refine G.grun (t := 39) rfl rfl rfl ?_
          refine G.q (Quiet.move rfl) rfl ?_
          refine G.gskip (t := 41) rfl rfl rfl rfl ?_
          refine G.gskip (t := 41) rfl rfl rfl rfl ?_
          refine G.gskip (t := 41) rfl rfl rfl rfl ?_
          refine G.grun (t := 39) rfl rfl rfl ?_
          refine G.q (Quiet.pickF rfl rfl) rfl ?_
          refine G.q (Quiet.pickF rfl rfl) rfl ?_
          refine G.nil ?_
          refine G.then_n ?_
          refine G.condF rfl ?_
          refine G.skip ?_
          refine G.then_n ?_
          exact G.meetK ((m0, 0)) (⟨by dsimp only; unfold bestZ; rw [hf0, hf1], hf0, by dsimp only; omega, by dsimp only; omega⟩) ⟨rfl, rfl, rfl, trivial⟩ (by (repeat (first | exact Picks.nil | (apply Picks.cons; (repeat (first | exact Pick.here | apply Pick.there)))))) (by ((repeat (apply Have.cons; (repeat (first | exact Pick.here | apply Pick.there)))); apply Have.base; repeat (first | exact Suff.here | apply Suff.there)))
        · refine G.q (Quiet.not rfl) rfl ?_
          refine G.q (Quiet.move rfl) rfl ?_
          refine G.grun (t := 39) rfl rfl rfl ?_
          refine G.q (Quiet.move rfl) rfl ?_
          refine G.grun (t := 39) rfl rfl rfl ?_
          refine G.q (Quiet.move rfl) rfl ?_
          refine G.grun (t := 41) rfl rfl rfl ?_
          refine G.q (Quiet.move rfl) rfl ?_
          refine G.grun (t := 41) rfl rfl rfl ?_
          refine G.q (Quiet.move rfl) rfl ?_
          refine G.grun (t := 41) rfl rfl rfl ?_
          refine G.q (Quiet.int rfl rfl rfl) rfl ?_
          refine G.grun (t := 39) rfl rfl rfl ?_
          refine G.q (Quiet.pickT rfl rfl) rfl ?_
          refine G.q (Quiet.pickF rfl rfl) rfl ?_
          refine G.nil ?_
          refine G.then_n ?_
          refine G.condD rfl (fun h46 => ?_) (fun h46 => ?_)
          · refine G.seq ?_
            refine G.region ?_
            refine G.q (Quiet.assign rfl) rfl ?_
            refine G.nil ?_
            refine G.then_n ?_
            refine G.region ?_
            refine G.q (Quiet.move rfl) rfl ?_
            refine G.q (Quiet.assign rfl) rfl ?_
            refine G.nil ?_
            refine G.then_n ?_
            exact G.meetK ((m1, 1)) (⟨by dsimp only; unfold bestZ; rw [hf0, hf1]; exact congrArg some (if_pos h46), hf1, by dsimp only; omega, by dsimp only; omega⟩) ⟨rfl, rfl, rfl, trivial⟩ (by (repeat (first | exact Picks.nil | (apply Picks.cons; (repeat (first | exact Pick.here | apply Pick.there)))))) (by ((repeat (apply Have.cons; (repeat (first | exact Pick.here | apply Pick.there)))); apply Have.base; repeat (first | exact Suff.here | apply Suff.there)))
          · refine G.skip ?_
            refine G.then_n ?_
            exact G.meetK ((m0, 0)) (⟨by dsimp only; unfold bestZ; rw [hf0, hf1]; exact congrArg some (if_neg h46), hf0, by dsimp only; omega, by dsimp only; omega⟩) ⟨rfl, rfl, rfl, trivial⟩ (by (repeat (first | exact Picks.nil | (apply Picks.cons; (repeat (first | exact Pick.here | apply Pick.there)))))) (by ((repeat (apply Have.cons; (repeat (first | exact Pick.here | apply Pick.there)))); apply Have.base; repeat (first | exact Suff.here | apply Suff.there)))
    · rintro ⟨m, n⟩ ⟨hbest, hfm, hn01⟩
      dsimp only
      dsimp only at hbest hfm hn01
      refine G.seq ?_
      have hm := bestZ_some hok hbest
      obtain ⟨e1, e2, e3, e4⟩ := bytesZ_len hok hn2 hm
      have hml := hm.len
      have hma := hm.area
      have hmn := hm.num
      have hhalf : halfZ δ ≤ 16383 := by unfold halfZ; omega
      have hpm := found_parse hd hn2 hn01 hfm
      have hnn : n.toNat < δ.now.length := by omega
      have hsl : (δ.now[n.toNat]).length = 64 := hok.sec _ (List.getElem_mem _)
      generalize hsE0 : δ.now[n.toNat] = s at hsl
      have hsE : δ.now.getD n.toNat [] = s := by rw [← hsE0]; simp [hnn]
      rw [hsE] at hpm
      have hz1 : smallZ (sub s 7 11) = m.len := by rw [hpm]; rfl
      have hz2 : smallZ (sub s 11 15) = m.num := by rw [hpm]; rfl
      have hz3 : smallZ (sub s 15 23) = m.a := by rw [hpm]; rfl
      have hz4 : smallZ (sub s 23 31) = m.b := by rw [hpm]; rfl
      have hz5 : m.area = ((s.getD 6 0).toNat : Int) := by rw [hpm]; exact small_area (by omega)
      have hq1 : (sub s 7 11).length = 4 := by rw [sub_len (by omega)]
      have hq2 : (sub s 11 15).length = 4 := by rw [sub_len (by omega)]
      have hq3 : (sub s 15 23).length = 8 := by rw [sub_len (by omega)]
      have hq4 : (sub s 23 31).length = 8 := by rw [sub_len (by omega)]
      refine G.region ?_
      refine G.q (Quiet.move rfl) rfl ?_
      refine G.q (Quiet.nilp rfl) rfl ?_
      refine G.q (Quiet.fieldAddr rfl fo_102_0) rfl ?_
      refine G.q (Quiet.load rfl ag_22 (by (repeat (first | exact Pick.here | apply Pick.there))) (rfl)) rfl ?_
      refine G.q (Quiet.move rfl) rfl ?_
      refine G.q (Quiet.indexAddr rfl rfl el_22 (by omega)) rfl ?_
      refine G.q (Quiet.to (v' := vstr s) (Quiet.loadSl (v := vstr δ.now[n.toNat]) (i := n.toNat * 1) rfl ag_9 (by (repeat (first | exact Pick.here | apply Pick.there))) (by simp [hnn])) (by rw [hsE0])) rfl ?_
      refine G.q (Quiet.assign rfl) rfl ?_
      refine G.nil ?_
      refine G.then_n ?_
      refine G.seq ?_
      refine G.region ?_
      refine G.q (Quiet.move rfl) rfl ?_
      refine G.q (Quiet.strIndex (c := s.getD 6 0) rfl rfl Try.underlying9 (by omega) (by simp [hsl])) rfl ?_
      refine G.q (Quiet.as (v' := vint m.area) (by rw [hz5]; exact congrArg (Value.int .i64) (i64w (by omega))) (Quiet.conv rfl Try.underlying5 Try.underlying3)) rfl ?_
      refine G.q (Quiet.assign rfl) rfl ?_
      refine G.nil ?_
      refine G.then_n ?_
      refine G.seq ?_
      refine G.region ?_
      refine G.q (Quiet.assign rfl) rfl ?_
      refine G.nil ?_
      refine G.then_n ?_
      refine G.seq ?_
      refine G.seq ?_
      refine G.region ?_
      refine G.q (Quiet.assign rfl) rfl ?_
      refine G.nil ?_
      refine G.then_n ?_
      refine G.block ?_
      refine G.add (slR_nil 5 1) ?_
      refine G.loopK (ι := Nat × Value) (fun q E => (11, q.2) :: (12, vint q.1) :: E) (fun q => [bytR q.2 (areaZ δ m.area q.1)]) (fun q => q.1 ≤ secs m ∧ ∃ a c, q.2 = .slice a (areaZ δ m.area q.1).length c) (fun q => secs m - q.1) (0, .slice none 0 0) (ts := [0, 4, 9, 10]) (.cons rfl (.cons rfl (.cons rfl (.cons rfl (.nil))))) (⟨Nat.zero_le _, _, _, rfl⟩) ⟨rfl, rfl, rfl, rfl, rfl, rfl, trivial⟩ (by (repeat (first | exact Picks.nil | (apply Picks.cons; (repeat (first | exact Pick.here | apply Pick.there)))))) ?_
      rintro ⟨i, u⟩ ⟨hi, au, cu, hu⟩
      dsimp only
      dsimp only at hi hu
      subst hu
      have hal := areaZ_len hok hn2 hma i (by omega)
      refine G.seq ?_
      refine G.seq ?_
      refine G.region ?_
      refine G.q (Quiet.move rfl) rfl ?_
      refine G.q (Quiet.slen rfl Try.underlying31 rfl) rfl ?_
      refine G.q (Quiet.move rfl) rfl ?_
      refine G.q (Quiet.to (v' := vstr (sub s 7 11)) (Quiet.strMid (i := 7) (j := 11) rfl rfl rfl Try.underlying9 (by omega)) rfl) rfl ?_
      refine G.op (OpSpec.call Try.func113 rfl rfl (vs := [_]) rfl (rsmall_spec (sub s 7 11) (by omega))) (by (repeat (first | exact Picks.nil | (apply Picks.cons; (repeat (first | exact Pick.here | apply Pick.there)))))) rfl ?nx56
      rintro v L' ⟨rfl, rfl⟩; rw [hz1]
      refine G.q (Quiet.int rfl rfl rfl) rfl ?_
      refine G.nil ?_
      refine G.then_n ?_
      refine G.condD rfl (fun h63 => ?_) (fun h63 => ?_)
      · have hi2 : i < secs m := by unfold secs; omega
        have hix := area_idx hn2 hma (i := i) (by omega)
        have hixn : (2 + m.area * halfZ δ + i).toNat < δ.now.length := by omega
        have hslx := getD_mem64' hok.sec (i := (2 + m.area * halfZ δ + i).toNat) (by omega)
        have hmul : 0 ≤ m.area * halfZ δ ∧ m.area * halfZ δ ≤ 16383 := by rcases (by omega : m.area = 0 ∨ m.area = 1) with h | h <;> rw [h] <;> unfold halfZ <;> omega
        refine G.skip ?_
        refine G.then_n ?_
        refine G.seq ?_
        refine G.block ?_
        refine G.draw [14] [[0, 1, 2, 3, 4, 5, 6, 7, 8, 9, 10, 11, 12, 13, 14], [15]] mixed (by kernel_rfl) ?_
        refine Phases.go [rkC x _ vO vP ρ.N ρ.At false, strR _ δ.now] (by (repeat (first | exact Picks.nil | (apply Picks.cons; (repeat (first | exact Pick.here | apply Pick.there)))))) ?_
        refine D.qw [14] rfl (by kernel_rfl) (Quiet.move rfl) ?_
        refine D.qw [2, 3, 4, 12, 13, 14] rfl (by kernel_rfl) (Quiet.move rfl) ?_
        refine D.qw [3, 4, 12, 13, 14] rfl (by kernel_rfl) (Quiet.nilp rfl) ?_
        refine D.qw [4, 12, 13, 14] rfl (by kernel_rfl) (Quiet.fieldAddr rfl fo_102_0) ?_
        refine D.qw [12, 13, 14] rfl (by kernel_rfl) (Quiet.load rfl ag_22 (by (repeat (first | exact Pick.here | apply Pick.there))) (rfl)) ?_
        refine D.qw [8, 9, 11, 12, 13, 14] rfl (by kernel_rfl) (Quiet.move rfl) ?_
        refine D.qw [7, 8, 9, 11, 12, 13, 14] rfl (by kernel_rfl) (Quiet.move rfl) ?_
        refine D.m rfl (by kernel_rfl) (OpSpec.call Try.func114 rfl rfl (vs := [_]) rfl (rhalf_spec x _ vO vP ρ.N ρ.At false δ.now hn)) (by (repeat (first | exact Picks.nil | (apply Picks.cons; (repeat (first | exact Pick.here | apply Pick.there)))))) ?nx66
        rw [← hHL]
        refine D.qw [9, 11, 12, 13, 14] rfl (by kernel_rfl) (Quiet.mul rfl rfl (by omega)) ?_
        refine D.qw [11, 12, 13, 14] rfl (by kernel_rfl) (Quiet.add rfl rfl (by omega)) ?_
        refine D.qw [11, 12, 13, 14] rfl (by kernel_rfl) (Quiet.move rfl) ?_
        refine D.qw [12, 13, 14] rfl (by kernel_rfl) (Quiet.add rfl rfl (by omega)) ?_
        refine D.qw [13, 14] rfl (by kernel_rfl) (Quiet.indexAddr rfl rfl el_22 (by omega)) ?_
        refine D.qw [14] rfl (by kernel_rfl) (Quiet.to (v' := vstr (δ.now.getD (2 + m.area * halfZ δ + i).toNat [])) (Quiet.loadSl (v := vstr δ.now[(2 + m.area * halfZ δ + i).toNat]) (i := (2 + m.area * halfZ δ + i).toNat * 1) rfl ag_9 (by (repeat (first | exact Pick.here | apply Pick.there))) (by simp [hixn])) (by simp [hixn])) ?_
        refine D.h rfl (by kernel_rfl) (OpSpec.appendS rfl rfl rfl el_31 Try.underlying9 ze_5 rfl rfl ?hb74 (by decide)) (by (repeat (first | exact Picks.nil | (apply Picks.cons; (repeat (first | exact Pick.here | apply Pick.there)))))) ?nx75
        case hb74 => omega
        rintro v L' ⟨⟨a16, c16, rfl⟩, rfl⟩
        refine D.ph ?_
        refine Phases.go [] (by (repeat (first | exact Picks.nil | (apply Picks.cons; (repeat (first | exact Pick.here | apply Pick.there)))))) ?_
        refine D.qw [] rfl (by kernel_rfl) (Quiet.assign rfl) ?_
        refine D.ph ?_
        refine Phases.fin ?_
        refine G.blk_n ?_
        refine G.then_n ?_
        refine G.region ?_
        refine G.q (Quiet.move rfl) rfl ?_
        refine G.q (Quiet.add rfl rfl (by omega)) rfl ?_
        refine G.q (Quiet.assign rfl) rfl ?_
        refine G.nil ?_
        refine G.then_n ?_
        rw [show bysL (areaZ δ m.area i) ++ (δ.now.getD (2 + m.area * halfZ δ + i).toNat []).map vbyte = bysL (areaZ δ m.area (i + 1)) by rw [areaZ_succ, bysL_append]; rfl, show (areaZ δ m.area i).length + (δ.now.getD (2 + m.area * halfZ δ + i).toNat []).length = (areaZ δ m.area (i + 1)).length by rw [areaZ_succ, List.length_append]]
        exact G.roundK ((i + 1, .slice a16 (areaZ δ m.area (i + 1)).length c16)) (⟨by dsimp only; omega, _, _, rfl⟩) (by dsimp only; omega) ⟨rfl, rfl, rfl, rfl, rfl, rfl, trivial⟩ (by (repeat (first | exact Picks.nil | (apply Picks.cons; (repeat (first | exact Pick.here | apply Pick.there)))))) (by ((repeat (apply Have.cons; (repeat (first | exact Pick.here | apply Pick.there)))); apply Have.base; repeat (first | exact Suff.here | apply Suff.there)))
      · have hi3 : i = secs m := by unfold secs; unfold secs at hi; omega
        subst hi3
        refine G.slAddr (a := au) (c := cu) (by (repeat (first | exact Pick.here | apply Pick.there))) fun hcap hadr => ?_
        refine G.slTo (m := (areaZ δ m.area (secs m)).length) (k := m.len.toNat) (by omega) (by (repeat (first | exact Pick.here | apply Pick.there))) ?_
        refine G.slCast (m' := (bytesZ δ m).length) (xs' := bysL (bytesZ δ m)) (by (repeat (first | exact Pick.here | apply Pick.there))) e3.symm (by rw [show bytesZ δ m = (areaZ δ m.area (secs m)).take m.len.toNat from rfl]; simp [bysL, List.map_take]) ?_
        rw [← e3]
        refine G.exit ?_
        refine G.then_e ?_
        refine G.then_e ?_
        refine G.blk_e ?_
        refine G.then_n ?_
        refine G.seq ?_
        refine G.draw [9] [[0, 1, 2, 3, 4, 5, 6, 7, 8, 9], [10, 11, 12, 13, 14]] mixed (by kernel_rfl) ?_
        refine Phases.go [] (by (repeat (first | exact Picks.nil | (apply Picks.cons; (repeat (first | exact Pick.here | apply Pick.there)))))) ?_
        refine D.qw [4, 5, 9] rfl (by kernel_rfl) (Quiet.move rfl) ?_
        refine D.qw [2, 3, 4, 5, 8, 9] rfl (by kernel_rfl) (Quiet.move rfl) ?_
        refine D.qw [3, 4, 5, 8, 9] rfl (by kernel_rfl) (Quiet.to (v' := vstr (sub s 7 11)) (Quiet.strMid (i := 7) (j := 11) rfl rfl rfl Try.underlying9 (by omega)) rfl) ?_
        refine D.m rfl (by kernel_rfl) (OpSpec.call Try.func113 rfl rfl (vs := [_]) rfl (rsmall_spec (sub s 7 11) (by omega))) (by (repeat (first | exact Picks.nil | (apply Picks.cons; (repeat (first | exact Pick.here | apply Pick.there)))))) ?nx82
        rw [hz1]
        refine D.qw [5, 9] rfl (by kernel_rfl) (Quiet.to (v' := .slice au (bytesZ δ m).length cu) (Quiet.slTo (j := m.len) rfl el_31 rfl (by omega) hadr) (by rw [e3])) ?_
        refine D.qw [9] rfl (by kernel_rfl) (Quiet.bytesBy (cs := bytesZ δ m) (n := (bytesZ δ m).length) (p := bytR (.slice au (bytesZ δ m).length cu) (bytesZ δ m)) rfl Try.underlying31 Try.underlying5 Try.underlying9 (fun h hp => slR_rd hp) (by (repeat (first | exact Pick.here | apply Pick.there)))) ?_
        refine D.qw [7, 8, 9] rfl (by kernel_rfl) (Quiet.move rfl) ?_
        refine D.qw [8, 9] rfl (by kernel_rfl) (Quiet.to (v' := vstr (sub s 11 15)) (Quiet.strMid (i := 11) (j := 15) rfl rfl rfl Try.underlying9 (by omega)) rfl) ?_
        refine D.m rfl (by kernel_rfl) (OpSpec.call Try.func113 rfl rfl (vs := [_]) rfl (rsmall_spec (sub s 11 15) (by omega))) (by (repeat (first | exact Picks.nil | (apply Picks.cons; (repeat (first | exact Pick.here | apply Pick.there)))))) ?nx88
        rw [hz2]
        refine D.h rfl (by kernel_rfl) (OpSpec.call Try.func115 rfl rfl (vs := [_, _]) rfl (rrecords_spec (bytesZ δ m) m.num ?hs90)) (by (repeat (first | exact Picks.nil | (apply Picks.cons; (repeat (first | exact Pick.here | apply Pick.there)))))) ?nx91
        case hs90 => omega
        rintro v L' (⟨l, hpart, ap, cp, rfl, rfl⟩ | ⟨hpart, ⟨w, rfl⟩, rfl⟩)
        · obtain ⟨hl1, hl2⟩ := partZ_laid hpart
          have hlm := laidZ_many l
          rw [hl1] at hlm
          refine D.ph ?_
          refine Phases.go [] (by (repeat (first | exact Picks.nil | (apply Picks.cons; (repeat (first | exact Pick.here | apply Pick.there)))))) ?_
          refine D.qw [11, 12, 13, 14] rfl (by kernel_rfl) (Quiet.move rfl) ?_
          refine D.qw [13, 14] rfl (by kernel_rfl) (Quiet.extract rfl rfl) ?_
          refine D.qw [14] rfl (by kernel_rfl) (Quiet.extract rfl rfl) ?_
          refine D.qw [14] rfl (by kernel_rfl) (Quiet.assign rfl) ?_
          refine D.qw [] rfl (by kernel_rfl) (Quiet.assign rfl) ?_
          refine D.ph ?_
          refine Phases.fin ?_
          refine G.then_n ?_
          refine G.seq ?_
          refine G.seq ?_
          refine G.region ?_
          refine G.q (Quiet.move rfl) rfl ?_
          refine G.q (Quiet.not rfl) rfl ?_
          refine G.nil ?_
          refine G.then_n ?_
          refine G.condF rfl ?_
          refine G.skip ?_
          refine G.then_n ?_
          refine G.seq ?_
          refine G.draw [13] [[0, 1, 2, 3, 4, 5, 6, 7, 8, 9, 10, 11, 12, 13], [14, 15]] mixed (by kernel_rfl) ?_
          refine Phases.go [] (by (repeat (first | exact Picks.nil | (apply Picks.cons; (repeat (first | exact Pick.here | apply Pick.there)))))) ?_
          refine D.qw [12, 13] rfl (by kernel_rfl) (Quiet.move rfl) ?_
          refine D.qw [12, 13] rfl (by kernel_rfl) (Quiet.move rfl) ?_
          refine D.qw [3, 12, 13] rfl (by kernel_rfl) (Quiet.move rfl) ?_
          refine D.qw [12, 13] rfl (by kernel_rfl) (Quiet.slen rfl Try.underlying22 rfl) ?_
          refine D.qw [12, 13] rfl (by kernel_rfl) (Quiet.move rfl) ?_
          refine D.qw [12, 13] rfl (by kernel_rfl) (Quiet.move rfl) ?_
          refine D.qw [7, 8, 11, 12, 13] rfl (by kernel_rfl) (Quiet.move rfl) ?_
          refine D.qw [8, 11, 12, 13] rfl (by kernel_rfl) (Quiet.to (v' := vstr (sub s 15 23)) (Quiet.strMid (i := 15) (j := 23) rfl rfl rfl Try.underlying9 (by omega)) rfl) ?_
          refine D.m rfl (by kernel_rfl) (OpSpec.call Try.func113 rfl rfl (vs := [_]) rfl (rsmall_spec (sub s 15 23) (by omega))) (by (repeat (first | exact Picks.nil | (apply Picks.cons; (repeat (first | exact Pick.here | apply Pick.there)))))) ?nx102
          rw [hz3]
          refine D.qw [10, 11, 12, 13] rfl (by kernel_rfl) (Quiet.move rfl) ?_
          refine D.qw [11, 12, 13] rfl (by kernel_rfl) (Quiet.to (v' := vstr (sub s 23 31)) (Quiet.strMid (i := 23) (j := 31) rfl rfl rfl Try.underlying9 (by omega)) rfl) ?_
          refine D.m rfl (by kernel_rfl) (OpSpec.call Try.func113 rfl rfl (vs := [_]) rfl (rsmall_spec (sub s 23 31) (by omega))) (by (repeat (first | exact Picks.nil | (apply Picks.cons; (repeat (first | exact Pick.here | apply Pick.there)))))) ?nx106
          rw [hz4]
          refine D.qw [13] rfl (by kernel_rfl) (Quiet.build (us := [(0, _), (1, _), (2, _), (3, _), (4, _), (5, _), (6, _)]) fl_113 ze_113 rfl rfl (by simp [isCell])) ?_
          refine D.h rfl (by kernel_rfl) (OpSpec.box rfl) (by (repeat (first | exact Picks.nil | (apply Picks.cons; (repeat (first | exact Pick.here | apply Pick.there)))))) ?nx109
          rintro v L' ⟨y, rfl, rfl⟩
          refine D.ph ?_
          refine Phases.go [] (by (repeat (first | exact Picks.nil | (apply Picks.cons; (repeat (first | exact Pick.here | apply Pick.there)))))) ?_
          refine D.qw [15] rfl (by kernel_rfl) (Quiet.assign rfl) ?_
          refine D.qw [] rfl (by kernel_rfl) (Quiet.assign rfl) ?_
          refine D.ph ?_
          refine Phases.fin ?_
          refine G.then_n ?_
          refine G.ret ?_
          refine G.rlFold (y := y) (x := x) (ω := ⟨l, l.length, m.area, m.count, m.a, m.b, false⟩) (by (repeat (first | exact Picks.nil | (apply Picks.cons; (repeat (first | exact Pick.here | apply Pick.there)))))) rfl rfl rfl ?_
          refine G.rkFold (ρ := ρ) (by (repeat (first | exact Picks.nil | (apply Picks.cons; (repeat (first | exact Pick.here | apply Pick.there)))))) (by rw [hg]) ⟨by rw [hL], by rw [hL]⟩ ⟨rfl, rfl⟩ ⟨rfl, rfl⟩ hrok ?_
          exact G.done (l := [.tmp 2, .tmp 3]) rfl rfl (.inr ⟨_, by rw [openZ_some hbest]; unfold openB; rw [hpart], _, rfl, rfl⟩) (by (repeat (first | exact Picks.nil | (apply Picks.cons; (repeat (first | exact Pick.here | apply Pick.there)))))) (by (repeat (first | exact Suff.here | apply Suff.there)))
        · refine D.ph ?_
          refine Phases.go [] (by (repeat (first | exact Picks.nil | (apply Picks.cons; (repeat (first | exact Pick.here | apply Pick.there)))))) ?_
          refine D.qw [11, 12, 13, 14] rfl (by kernel_rfl) (Quiet.move rfl) ?_
          refine D.qw [13, 14] rfl (by kernel_rfl) (Quiet.extract rfl rfl) ?_
          refine D.qw [14] rfl (by kernel_rfl) (Quiet.extract rfl rfl) ?_
          refine D.qw [14] rfl (by kernel_rfl) (Quiet.assign rfl) ?_
          refine D.qw [] rfl (by kernel_rfl) (Quiet.assign rfl) ?_
          refine D.ph ?_
          refine Phases.fin ?_
          refine G.then_n ?_
          refine G.seq ?_
          refine G.seq ?_
          refine G.region ?_
          refine G.q (Quiet.move rfl) rfl ?_
          refine G.q (Quiet.not rfl) rfl ?_
          refine G.nil ?_
          refine G.then_n ?_
          refine G.condT rfl ?_
          refine G.seq ?_
          refine G.region ?_
          refine G.q (Quiet.assign rfl) rfl ?_
          refine G.q (Quiet.assign rfl) rfl ?_
          refine G.nil ?_
          refine G.then_n ?_
          refine G.ret ?_
          refine G.then_r ?_
          refine G.rkFold (ρ := ρ) (by (repeat (first | exact Picks.nil | (apply Picks.cons; (repeat (first | exact Pick.here | apply Pick.there)))))) (by rw [hg]) ⟨by rw [hL], by rw [hL]⟩ ⟨rfl, rfl⟩ ⟨rfl, rfl⟩ hrok ?_
          exact G.done (l := [.tmp 2, .tmp 3]) rfl rfl (.inl ⟨by rw [openZ_some hbest]; unfold openB; rw [hpart], rfl, rfl⟩) (by (repeat (first | exact Picks.nil | (apply Picks.cons; (repeat (first | exact Pick.here | apply Pick.there)))))) (by (repeat (first | exact Suff.here | apply Suff.there)))

end Go.Proofs.Ytepncdidkjjllaa
