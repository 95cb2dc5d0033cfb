/- Own work, by program: parted: walked. -/
import Derived.Test.YtepncdidkjjllaaWalFound
namespace Go.Proofs.Ytepncdidkjjllaa
open Go
set_option maxRecDepth 100000 in
theorem parted_spec (s : Bs) (num : Int) (hs : s.length ≤ 2147483648) : Fn Try.prog 89 #[vstr s, vint num] [] fun v L => (∃ l, partZ s num = some l ∧ (∃ a c, v = .tuple #[.slice a l.length c, .bool true] ∧ L = [strR (.slice a l.length c) l])) ∨ (partZ s num = none ∧ (∃ w, v = .tuple #[w, .bool false]) ∧ L = []) := by
  refine Fn.intro (vs := [vstr s, vint num]) Try.func89 rfl rfl ?_
  intro F W
  refine G.seq ?_
  refine G.region ?_
  refine G.q (Quiet.assign rfl) rfl ?_
  refine G.q (Quiet.assign rfl) rfl ?_
  refine G.nil ?_
  refine G.then_n ?_
  refine G.seq ?_
  refine G.region ?_
  refine G.q (Quiet.assign rfl) rfl ?_
  refine G.nil ?_
  refine G.then_n ?_
  refine G.seq ?_
  refine G.block ?_
  refine G.add (slR_nil 9 1) ?_
  refine G.loopK (ι := Bs × (List Bs) × Nat × Value) (fun q E => (0, vstr q.1) :: (6, q.2.2.2) :: E) (fun q => [strR q.2.2.2 q.2.1]) (fun q => q.1.length < q.2.2.1 ∧ partF q.2.2.1 q.1 q.2.1 num = partZ s num ∧ q.2.1.length + q.1.length ≤ s.length ∧ ∃ a c, q.2.2.2 = .slice a q.2.1.length c) (fun q => q.1.length) (s, [], s.length + 1, .slice none 0 0) (ts := [1]) (.cons rfl (.nil)) (⟨Nat.lt_succ_self _, rfl, by simp, _, _, rfl⟩) ⟨rfl, rfl, rfl, trivial⟩ (by (repeat (first | exact Picks.nil | (apply Picks.cons; (repeat (first | exact Pick.here | apply Pick.there)))))) ?_
  rintro ⟨s2, out, f, u⟩ ⟨hf, hp, hle, au, cu, hu⟩
  dsimp only
  dsimp only at hf hp hle hu
  subst hu
  refine G.seq ?_
  refine G.seq ?_
  refine G.region ?_
  refine G.q (Quiet.move rfl) rfl ?_
  refine G.q (Quiet.strne rfl rfl) rfl ?_
  refine G.nil ?_
  refine G.then_n ?_
  refine G.condN rfl (fun h10 => ?_) (fun h10 => ?_)
  · obtain ⟨f, rfl⟩ : ∃ k, f = k + 1 := ⟨f - 1, by omega⟩
    simp only [partF] at hp
    rw [if_neg h10] at hp
    refine G.skip ?_
    refine G.then_n ?_
    refine G.block ?_
    refine G.seq ?_
    refine G.seq ?_
    refine G.region ?_
    refine G.q (Quiet.move rfl) rfl ?_
    refine G.q (Quiet.slen rfl Try.underlying22 rfl) rfl ?_
    refine G.q (Quiet.move rfl) rfl ?_
    refine G.q (Quiet.int rfl rfl rfl) rfl ?_
    refine G.q (Quiet.move rfl) rfl ?_
    refine G.dec (t := 15) rfl (fun h3_15 => ?_) (fun h3_15 => ?_)
    · refine G.kDT (t := 14) rfl h3_15 ?_
      refine G.gskip (t := 15) rfl rfl rfl rfl ?_
      refine G.gskip (t := 15) rfl rfl rfl rfl ?_
      refine G.gskip (t := 15) rfl rfl rfl rfl ?_
      refine G.q (Quiet.pickT rfl rfl) rfl ?_
      refine G.nil ?_
      refine G.then_n ?_
      refine G.condT rfl ?_
      refine G.seq ?_
      refine G.region ?_
      refine G.q (Quiet.assign rfl) rfl ?_
      refine G.q (Quiet.assign rfl) rfl ?_
      refine G.nil ?_
      refine G.then_n ?_
      refine G.ret ?_
      refine G.then_r ?_
      refine G.blk_r ?_
      refine G.then_r ?_
      refine G.blk_r ?_
      refine G.then_r ?_
      rw [if_pos (by first | exact .inl h3_15 | exact .inr (by omega))] at hp
      exact G.done (l := [.tmp 4, .tmp 5]) rfl rfl (.inr ⟨hp.symm, ⟨_, rfl⟩, rfl⟩) (by (repeat (first | exact Picks.nil | (apply Picks.cons; (repeat (first | exact Pick.here | apply Pick.there)))))) (by (repeat (first | exact Suff.here | apply Suff.there)))
    · refine G.kDF (t := 14) rfl h3_15 ?_
      refine G.grun (t := 15) rfl rfl rfl ?_
      refine G.q (Quiet.move rfl) rfl ?_
      refine G.grun (t := 15) rfl rfl rfl ?_
      refine G.q (Quiet.strlen rfl Try.underlying9 rfl) rfl ?_
      refine G.grun (t := 15) rfl rfl rfl ?_
      refine G.q (Quiet.int rfl rfl rfl) rfl ?_
      refine G.q (Quiet.pickF rfl rfl) rfl ?_
      refine G.nil ?_
      refine G.then_n ?_
      refine G.condD rfl (fun h19 => ?_) (fun h19 => ?_)
      · refine G.seq ?_
        refine G.region ?_
        refine G.q (Quiet.assign rfl) rfl ?_
        refine G.q (Quiet.assign rfl) rfl ?_
        refine G.nil ?_
        refine G.then_n ?_
        refine G.ret ?_
        refine G.then_r ?_
        refine G.blk_r ?_
        refine G.then_r ?_
        refine G.blk_r ?_
        refine G.then_r ?_
        rw [if_pos (by first | exact .inl h3_15 | exact .inr (by omega))] at hp
        exact G.done (l := [.tmp 4, .tmp 5]) rfl rfl (.inr ⟨hp.symm, ⟨_, rfl⟩, rfl⟩) (by (repeat (first | exact Picks.nil | (apply Picks.cons; (repeat (first | exact Pick.here | apply Pick.there)))))) (by (repeat (first | exact Suff.here | apply Suff.there)))
      · refine G.skip ?_
        refine G.then_n ?_
        refine G.seq ?_
        have h6 : 6 ≤ s2.length := by omega
        rw [if_neg (by rintro (h | h) <;> omega)] at hp
        refine G.region ?_
        refine G.q (Quiet.move rfl) rfl ?_
        refine G.q (Quiet.to (v' := vstr (s2.take 2)) (Quiet.strTo (j := 2) rfl rfl Try.underlying9 (by omega)) rfl) rfl ?_
        refine G.op (OpSpec.call Try.func123 rfl rfl (vs := [_]) rfl (small_spec (s2.take 2) ?hs20)) (by (repeat (first | exact Picks.nil | (apply Picks.cons; (repeat (first | exact Pick.here | apply Pick.there)))))) rfl ?nx21
        case hs20 => rw [List.length_take]; omega
        rintro v L' ⟨rfl, rfl⟩
        refine G.q (Quiet.assign rfl) rfl ?_
        refine G.nil ?_
        obtain ⟨hn0, hn1, -⟩ := smallZ_nonneg (s := s2.take 2) (by rw [List.length_take]; omega)
        generalize smallZ (s2.take 2) = n at *
        obtain ⟨k, rfl⟩ := Int.eq_ofNat_of_zero_le hn0
        simp only [Int.toNat_natCast] at hp
        have hn1 : k < 65536 := by rw [List.length_take, Nat.min_eq_left (by omega)] at hn1; have e : (256 : Int) ^ 2 = 65536 := rfl; omega
        refine G.then_n ?_
        refine G.seq ?_
        refine G.seq ?_
        refine G.region ?_
        refine G.q (Quiet.move rfl) rfl ?_
        refine G.q (Quiet.int rfl rfl rfl) rfl ?_
        refine G.q (Quiet.move rfl) rfl ?_
        refine G.dec (t := 25) rfl (fun h6_25 => ?_) (fun h6_25 => ?_)
        · refine G.kDT (t := 24) rfl h6_25 ?_
          refine G.gskip (t := 25) rfl rfl rfl rfl ?_
          refine G.gskip (t := 25) rfl rfl rfl rfl ?_
          refine G.gskip (t := 25) rfl rfl rfl rfl ?_
          refine G.gskip (t := 25) rfl rfl rfl rfl ?_
          refine G.gskip (t := 25) rfl rfl rfl rfl ?_
          refine G.q (Quiet.pickT rfl rfl) rfl ?_
          refine G.nil ?_
          refine G.then_n ?_
          refine G.condT rfl ?_
          refine G.seq ?_
          refine G.region ?_
          refine G.q (Quiet.assign rfl) rfl ?_
          refine G.q (Quiet.assign rfl) rfl ?_
          refine G.nil ?_
          refine G.then_n ?_
          refine G.ret ?_
          refine G.then_r ?_
          refine G.blk_r ?_
          refine G.then_r ?_
          refine G.blk_r ?_
          refine G.then_r ?_
          rw [if_pos (by first | exact .inl h6_25 | exact .inr (by omega))] at hp
          exact G.done (l := [.tmp 4, .tmp 5]) rfl rfl (.inr ⟨hp.symm, ⟨_, rfl⟩, rfl⟩) (by (repeat (first | exact Picks.nil | (apply Picks.cons; (repeat (first | exact Pick.here | apply Pick.there)))))) (by (repeat (first | exact Suff.here | apply Suff.there)))
        · refine G.kDF (t := 24) rfl h6_25 ?_
          refine G.grun (t := 25) rfl rfl rfl ?_
          refine G.q (Quiet.move rfl) rfl ?_
          refine G.grun (t := 25) rfl rfl rfl ?_
          refine G.q (Quiet.add rfl rfl (by omega)) rfl ?_
          refine G.grun (t := 25) rfl rfl rfl ?_
          refine G.q (Quiet.move rfl) rfl ?_
          refine G.grun (t := 25) rfl rfl rfl ?_
          refine G.q (Quiet.strlen rfl Try.underlying9 rfl) rfl ?_
          refine G.grun (t := 25) rfl rfl rfl ?_
          refine G.q (Quiet.int rfl rfl rfl) rfl ?_
          refine G.q (Quiet.pickF rfl rfl) rfl ?_
          refine G.nil ?_
          refine G.then_n ?_
          refine G.condD rfl (fun h31 => ?_) (fun h31 => ?_)
          · refine G.seq ?_
            refine G.region ?_
            refine G.q (Quiet.assign rfl) rfl ?_
            refine G.q (Quiet.assign rfl) rfl ?_
            refine G.nil ?_
            refine G.then_n ?_
            refine G.ret ?_
            refine G.then_r ?_
            refine G.blk_r ?_
            refine G.then_r ?_
            refine G.blk_r ?_
            refine G.then_r ?_
            rw [if_pos (by first | exact .inl h6_25 | exact .inr (by omega))] at hp
            exact G.done (l := [.tmp 4, .tmp 5]) rfl rfl (.inr ⟨hp.symm, ⟨_, rfl⟩, rfl⟩) (by (repeat (first | exact Picks.nil | (apply Picks.cons; (repeat (first | exact Pick.here | apply Pick.there)))))) (by (repeat (first | exact Suff.here | apply Suff.there)))
          · refine G.skip ?_
            refine G.then_n ?_
            refine G.seq ?_
            have hk4 : k ≤ 4000 := by omega
            have hk6 : k + 6 ≤ s2.length := by omega
            rw [if_neg (by rintro (h | h) <;> omega)] at hp
            refine G.region ?_
            refine G.q (Quiet.move rfl) rfl ?_
            refine G.q (Quiet.move rfl) rfl ?_
            refine G.q (Quiet.add rfl rfl (by omega)) rfl ?_
            refine G.q (Quiet.to (v' := vstr (sub s2 2 (k + 2))) (Quiet.strMid (i := 2) (j := (k : Int) + 2) rfl rfl rfl Try.underlying9 (by omega)) (by rw [show ((k : Int) + 2).toNat = k + 2 by omega]; rfl)) rfl ?_
            refine G.q (Quiet.assign rfl) rfl ?_
            refine G.nil ?_
            refine G.then_n ?_
            refine G.seq ?_
            refine G.seq ?_
            refine G.draw [5] [[0, 1, 2, 3, 4, 5, 6], [7]] mixed (by kernel_rfl) ?_
            refine Phases.go [] (by (repeat (first | exact Picks.nil | (apply Picks.cons; (repeat (first | exact Pick.here | apply Pick.there)))))) ?_
            refine D.q rfl (by kernel_rfl) (Quiet.move rfl) ?_
            refine D.q rfl (by kernel_rfl) (Quiet.move rfl) ?_
            refine D.q rfl (by kernel_rfl) (Quiet.add rfl rfl (by omega)) ?_
            refine D.q rfl (by kernel_rfl) (Quiet.to (v' := vstr (s2.take (k + 6))) (Quiet.strTo (j := (k : Int) + 6) rfl rfl Try.underlying9 (by omega)) (by rw [show ((k : Int) + 6).toNat = k + 6 by omega])) ?_
            refine D.qw [5, 6] rfl (by kernel_rfl) (Quiet.move rfl) ?_
            refine D.h rfl (by kernel_rfl) (OpSpec.call Try.func84 rfl rfl (vs := [_]) rfl (record_spec (sub s2 2 (k + 2)) (by rw [sub_len (by omega)]; omega))) (by (repeat (first | exact Picks.nil | (apply Picks.cons; (repeat (first | exact Pick.here | apply Pick.there)))))) ?nx39
            rintro v L' ⟨⟨ar, cr, rfl⟩, rfl⟩
            refine D.qw [] rfl (by kernel_rfl) (Quiet.bytesBy (cs := recZ (sub s2 2 (k + 2))) (n := (recZ (sub s2 2 (k + 2))).length) (p := bytR (.slice ar (recZ (sub s2 2 (k + 2))).length cr) (recZ (sub s2 2 (k + 2)))) rfl Try.underlying31 Try.underlying5 Try.underlying9 (fun h hp => slR_rd hp) (by (repeat (first | exact Pick.here | apply Pick.there)))) ?_
            refine D.ph ?_
            refine Phases.go [] (by (repeat (first | exact Picks.nil | (apply Picks.cons; (repeat (first | exact Pick.here | apply Pick.there)))))) ?_
            refine D.qw [] rfl (by kernel_rfl) (Quiet.strne rfl rfl) ?_
            refine D.ph ?_
            refine Phases.fin ?_
            refine G.then_n ?_
            refine G.condN rfl (fun h43 => ?_) (fun h43 => ?_)
            · refine G.seq ?_
              refine G.region ?_
              refine G.q (Quiet.assign rfl) rfl ?_
              refine G.q (Quiet.assign rfl) rfl ?_
              refine G.nil ?_
              refine G.then_n ?_
              refine G.ret ?_
              refine G.then_r ?_
              refine G.blk_r ?_
              refine G.then_r ?_
              refine G.blk_r ?_
              refine G.then_r ?_
              rw [if_pos h43] at hp
              exact G.done (l := [.tmp 4, .tmp 5]) rfl rfl (.inr ⟨hp.symm, ⟨_, rfl⟩, rfl⟩) (by (repeat (first | exact Picks.nil | (apply Picks.cons; (repeat (first | exact Pick.here | apply Pick.there)))))) (by (repeat (first | exact Suff.here | apply Suff.there)))
            · refine G.skip ?_
              refine G.then_n ?_
              refine G.seq ?_
              rw [if_neg (fun hc => hc h43)] at hp
              refine G.region ?_
              refine G.q (Quiet.move rfl) rfl ?_
              refine G.q (Quiet.move rfl) rfl ?_
              refine G.op (OpSpec.buildSlice1 (vs := [_]) el_22 ze_9 rfl rfl rfl rfl rfl (by decide)) (by (repeat (first | exact Picks.nil | (apply Picks.cons; (repeat (first | exact Pick.here | apply Pick.there)))))) rfl ?nx46
              rintro v L' ⟨b11_2, rfl, rfl⟩
              refine G.op (OpSpec.append1 rfl rfl rfl el_22 ze_9 rfl rfl ?c48 ?c49 (Nat.le_refl _) ?c50 (by decide)) (by (repeat (first | exact Picks.nil | (apply Picks.cons; (repeat (first | exact Pick.here | apply Pick.there)))))) rfl ?nx51
              case c48 => (first | (simp [isCell]; done) | (simp [isCell, setAll, Value.cells]; done))
              case c49 => rfl
              case c50 => omega
              rintro v L' ⟨⟨a11_3, c11_3, rfl⟩, rfl⟩
              refine G.q (Quiet.assign rfl) rfl ?_
              refine G.nil ?_
              refine G.slCast (m' := (out ++ [sub s2 2 (k + 2)]).length) (xs' := strs (out ++ [sub s2 2 (k + 2)])) (by (repeat (first | exact Pick.here | apply Pick.there))) (by simp) (by simp [strs]) ?_
              refine G.then_n ?_
              refine G.region ?_
              refine G.q (Quiet.move rfl) rfl ?_
              refine G.q (Quiet.move rfl) rfl ?_
              refine G.q (Quiet.add rfl rfl (by omega)) rfl ?_
              refine G.q (Quiet.to (v' := vstr (s2.drop (k + 6))) (Quiet.strFrom (i := (k : Int) + 6) rfl rfl Try.underlying9 (by omega)) (by rw [show ((k : Int) + 6).toNat = k + 6 by omega])) rfl ?_
              refine G.q (Quiet.assign rfl) rfl ?_
              refine G.nil ?_
              refine G.blk_n ?_
              refine G.then_n ?_
              exact G.roundK ((s2.drop (k + 6), out ++ [sub s2 2 (k + 2)], f, .slice a11_3 (out.length + 1) c11_3)) (⟨by dsimp only; rw [List.length_drop]; omega, hp, by dsimp only; rw [List.length_drop, List.length_append, List.length_singleton]; omega, _, _, by rw [List.length_append, List.length_singleton]⟩) (by dsimp only; rw [List.length_drop]; omega) ⟨rfl, rfl, rfl, trivial⟩ (by (repeat (first | exact Picks.nil | (apply Picks.cons; (repeat (first | exact Pick.here | apply Pick.there)))))) (by ((repeat (apply Have.cons; (repeat (first | exact Pick.here | apply Pick.there)))); apply Have.base; repeat (first | exact Suff.here | apply Suff.there)))
  · have h10 : s2 = [] := by simpa using h10
    subst h10
    obtain ⟨f, rfl⟩ : ∃ k, f = k + 1 := ⟨f - 1, by simp at hf; omega⟩
    simp only [partF, eq_self, if_true] at hp
    refine G.exit ?_
    refine G.then_e ?_
    refine G.then_e ?_
    refine G.blk_e ?_
    refine G.then_n ?_
    refine G.seq ?_
    refine G.region ?_
    refine G.q (Quiet.move rfl) rfl ?_
    refine G.q (Quiet.move rfl) rfl ?_
    refine G.q (Quiet.slen rfl Try.underlying22 rfl) rfl ?_
    refine G.q (Quiet.move rfl) rfl ?_
    refine G.q (Quiet.int rfl rfl rfl) rfl ?_
    refine G.q (Quiet.assign rfl) rfl ?_
    refine G.q (Quiet.assign rfl) rfl ?_
    refine G.nil ?_
    refine G.then_n ?_
    refine G.ret ?_
    split at hp
    · rename_i hq
      exact G.done (l := [.tmp 4, .tmp 5]) rfl rfl (.inl ⟨out, hp.symm, _, _, by rw [decide_eq_true hq], rfl⟩) (by (repeat (first | exact Picks.nil | (apply Picks.cons; (repeat (first | exact Pick.here | apply Pick.there)))))) (by (repeat (first | exact Suff.here | apply Suff.there)))
    · rename_i hq
      exact G.done (l := [.tmp 4, .tmp 5]) rfl rfl (.inr ⟨hp.symm, ⟨_, by rw [decide_eq_false hq]⟩, rfl⟩) (by (repeat (first | exact Picks.nil | (apply Picks.cons; (repeat (first | exact Pick.here | apply Pick.there)))))) (by (repeat (first | exact Suff.here | apply Suff.there)))

end Go.Proofs.Ytepncdidkjjllaa
