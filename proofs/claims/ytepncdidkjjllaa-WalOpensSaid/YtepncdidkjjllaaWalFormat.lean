/- Own work, by program: Format: walked. -/
import Derived.Test.YtepncdidkjjllaaWalRenew
namespace Go.Proofs.Ytepncdidkjjllaa
open Go
theorem fmtZ_keeps (δ : Dk) (i : Nat) : (fmtZ δ i).1.now.length = δ.now.length ∧ (fmtZ δ i).1.acts ≤ δ.acts + 3 := by
  have h1 := write_keeps δ 0 zs
  have h2 := write_keeps (δ.write 0 zs).1 1 mark1.sec
  have h3 := sync_keeps ((δ.write 0 zs).1.write 1 mark1.sec).1
  match i with
  | 0 => exact ⟨rfl, by show δ.acts ≤ _; omega⟩
  | 1 => exact ⟨h1.1, by show (δ.write 0 zs).1.acts ≤ _; omega⟩
  | 2 => exact ⟨by show ((δ.write 0 zs).1.write 1 mark1.sec).1.now.length = _; omega, by show ((δ.write 0 zs).1.write 1 mark1.sec).1.acts ≤ _; omega⟩
  | (n + 3) => exact ⟨by show (((δ.write 0 zs).1.write 1 mark1.sec).1.sync).1.now.length = _; rw [h3.1]; omega, by show (((δ.write 0 zs).1.write 1 mark1.sec).1.sync).1.acts ≤ _; omega⟩
theorem ze_52 : zeroOf Try.prog 52 = some .nilFunc := by kernel_rfl
theorem ag_52 : aggOf Try.prog 52 = some none := by kernel_rfl
theorem sz_52 : sizeOf' Try.prog 52 = some 1 := by kernel_rfl
set_option maxRecDepth 100000 in
theorem format_spec (d : Nat) (δ : Dk) (hA : δ.acts + 10 < 4611686018427387904) : Fn Try.prog 23 #[vptr d] [dkR d δ] fun v L => ((formatZ δ).2 = none ∧ v = .tuple #[.pointer none, vint 2] ∧ L = [dkR d (formatZ δ).1]) ∨
    ((formatZ δ).2 = some newW ∧ ∃ x, v = .tuple #[vptr x, vint 0] ∧ L = [dkR d (formatZ δ).1, wlR x d newW]) := by
  refine Fn.intro (vs := [vptr d]) Try.func23 rfl rfl ?_
  intro F W
  have hk := fmtZ_keeps δ
  refine G.seq ?_
  refine G.region ?_
  refine G.op (OpSpec.box rfl) (by (repeat (first | exact Picks.nil | (apply Picks.cons; (repeat (first | exact Pick.here | apply Pick.there)))))) rfl ?nx1
  rintro v L' ⟨b1, rfl, rfl⟩
  refine G.q (Quiet.assign rfl) rfl ?_
  refine G.q (Quiet.assign rfl) rfl ?_
  refine G.nil ?_
  refine G.ptCast (b := b1) (l' := [vptr d]) (by (repeat (first | exact Pick.here | apply Pick.there))) rfl ?_
  refine G.then_n ?_
  refine G.seq ?_
  refine G.seq ?_
  refine G.region ?_
  refine G.q (Quiet.load rfl ag_24 (by (repeat (first | exact Pick.here | apply Pick.there))) (rfl)) rfl ?_
  refine G.q (Quiet.ptreq rfl rfl Try.underlying24) rfl ?_
  refine G.nil ?_
  refine G.then_n ?_
  refine G.condF rfl ?_
  refine G.skip ?_
  refine G.then_n ?_
  refine G.seq ?_
  refine G.seq ?_
  refine G.region ?_
  refine G.q (Quiet.func (us := []) (vs := [_]) rfl rfl) rfl ?_
  refine G.q (Quiet.func (us := []) (vs := [_]) rfl rfl) rfl ?_
  refine G.q (Quiet.load rfl ag_24 (by (repeat (first | exact Pick.here | apply Pick.there))) (rfl)) rfl ?_
  refine G.q (Quiet.func (us := [_]) (vs := []) rfl rfl) rfl ?_
  refine G.op (OpSpec.buildSlice1 (vs := [_, _, _]) el_116 ze_52 rfl rfl rfl rfl rfl (by decide)) (by (repeat (first | exact Picks.nil | (apply Picks.cons; (repeat (first | exact Pick.here | apply Pick.there)))))) rfl ?nx11
  rintro v L' ⟨b3_4, rfl, rfl⟩
  refine G.q (Quiet.slen rfl Try.underlying116 rfl) rfl ?_
  refine G.q (Quiet.move rfl) rfl ?_
  refine G.nil ?_
  refine G.then_n ?_
  refine G.block ?_
  refine G.loopK (ι := Nat) (fun q E => (14, vint q) :: E) (fun q => [dkR d (fmtZ δ q).1]) (fun q => q ≤ 3 ∧ ∀ j, j < q → (fmtZ δ (j + 1)).2 = 0) (fun q => 3 - q) (0) (ts := [1, 12, 13]) (.cons rfl (.cons rfl (.cons rfl (.nil)))) (⟨Nat.zero_le _, fun j hj => by omega⟩) ⟨rfl, rfl, rfl, rfl, trivial⟩ (by (repeat (first | exact Picks.nil | (apply Picks.cons; (repeat (first | exact Pick.here | apply Pick.there)))))) ?_
  rintro i ⟨hi, hb⟩
  refine G.seq ?_
  refine G.region ?_
  refine G.q (Quiet.int rfl rfl rfl) rfl ?_
  refine G.nil ?_
  refine G.then_n ?_
  refine G.seq ?_
  refine G.condD rfl (fun h15 => ?_) (fun h15 => ?_)
  · refine G.skip ?_
    refine G.then_n ?_
    refine G.seq ?_
    refine G.block ?_
    refine G.seq ?_
    refine G.region ?_
    rcases (show i = 0 ∨ i = 1 ∨ i = 2 by omega) with rfl | rfl | rfl
    · refine G.q (Quiet.indexAddr rfl rfl el_116 (by omega)) rfl ?_
      refine G.q (Quiet.load rfl ag_52 (by (repeat (first | exact Pick.here | apply Pick.there))) (rfl)) rfl ?_
      refine G.q (Quiet.assign rfl) rfl ?_
      refine G.nil ?_
      refine G.then_n ?_
      refine G.seq ?_
      refine G.region ?_
      refine G.q (Quiet.move rfl) rfl ?_
      refine G.op (OpSpec.callV Try.func72 rfl rfl (us := []) (vs := []) (ws := [_]) rfl rfl (fmt1_spec b1 d δ (by omega))) (by (repeat (first | exact Picks.nil | (apply Picks.cons; (repeat (first | exact Pick.here | apply Pick.there)))))) rfl ?nx18
      rintro v L' ⟨rfl, rfl⟩
      refine G.q (Quiet.int rfl rfl rfl) rfl ?_
      refine G.nil ?_
      refine G.then_n ?_
      refine G.condN rfl (fun h20 => ?_) (fun h20 => ?_)
      · refine G.seq ?_
        refine G.region ?_
        refine G.q (Quiet.assign rfl) rfl ?_
        refine G.q (Quiet.assign rfl) rfl ?_
        refine G.nil ?_
        refine G.then_n ?_
        refine G.ret ?_
        refine G.blk_r ?_
        refine G.then_r ?_
        refine G.then_r ?_
        refine G.blk_r ?_
        refine G.then_r ?_
        have hF : formatZ δ = ((fmtZ δ 1).1, none) := by unfold formatZ; rw [if_pos (show (fmtZ δ 1).2 ≠ 0 from h20)]
        exact G.done (l := [.tmp 2, .tmp 3]) rfl rfl (.inl ⟨by rw [hF], rfl, by rw [hF]⟩) (by (repeat (first | exact Picks.nil | (apply Picks.cons; (repeat (first | exact Pick.here | apply Pick.there)))))) (by (repeat (first | exact Suff.here | apply Suff.there)))
      · refine G.skip ?_
        refine G.blk_n ?_
        refine G.then_n ?_
        refine G.region ?_
        refine G.q (Quiet.add rfl rfl (by omega)) rfl ?_
        refine G.q (Quiet.move rfl) rfl ?_
        refine G.nil ?_
        refine G.then_n ?_
        exact G.roundK (1) (⟨by omega, fun j hj => by rcases Nat.lt_or_ge j 0 with h | h; exact hb j h; obtain rfl : j = 0 := (by omega); exact h20⟩) (by omega) ⟨rfl, rfl, rfl, rfl, trivial⟩ (by (repeat (first | exact Picks.nil | (apply Picks.cons; (repeat (first | exact Pick.here | apply Pick.there)))))) (by ((repeat (apply Have.cons; (repeat (first | exact Pick.here | apply Pick.there)))); apply Have.base; repeat (first | exact Suff.here | apply Suff.there)))
    · refine G.q (Quiet.indexAddr rfl rfl el_116 (by omega)) rfl ?_
      refine G.q (Quiet.load rfl ag_52 (by (repeat (first | exact Pick.here | apply Pick.there))) (rfl)) rfl ?_
      refine G.q (Quiet.assign rfl) rfl ?_
      refine G.nil ?_
      refine G.then_n ?_
      refine G.seq ?_
      refine G.region ?_
      refine G.q (Quiet.move rfl) rfl ?_
      refine G.op (OpSpec.callV Try.func73 rfl rfl (us := []) (vs := []) (ws := [_]) rfl rfl (fmt2_spec b1 d (fmtZ δ 1).1 (by have := (fmtZ_keeps δ 1).2; omega))) (by (repeat (first | exact Picks.nil | (apply Picks.cons; (repeat (first | exact Pick.here | apply Pick.there)))))) rfl ?nx26
      rintro v L' ⟨rfl, rfl⟩
      refine G.q (Quiet.int rfl rfl rfl) rfl ?_
      refine G.nil ?_
      refine G.then_n ?_
      refine G.condN rfl (fun h20 => ?_) (fun h20 => ?_)
      · refine G.seq ?_
        refine G.region ?_
        refine G.q (Quiet.assign rfl) rfl ?_
        refine G.q (Quiet.assign rfl) rfl ?_
        refine G.nil ?_
        refine G.then_n ?_
        refine G.ret ?_
        refine G.blk_r ?_
        refine G.then_r ?_
        refine G.then_r ?_
        refine G.blk_r ?_
        refine G.then_r ?_
        have hF : formatZ δ = ((fmtZ δ 2).1, none) := by unfold formatZ; rw [if_neg (by rw [hb 0 (by omega)]; decide), if_pos (show (fmtZ δ 2).2 ≠ 0 from h20)]
        exact G.done (l := [.tmp 2, .tmp 3]) rfl rfl (.inl ⟨by rw [hF], rfl, by rw [hF]⟩) (by (repeat (first | exact Picks.nil | (apply Picks.cons; (repeat (first | exact Pick.here | apply Pick.there)))))) (by (repeat (first | exact Suff.here | apply Suff.there)))
      · refine G.skip ?_
        refine G.blk_n ?_
        refine G.then_n ?_
        refine G.region ?_
        refine G.q (Quiet.add rfl rfl (by omega)) rfl ?_
        refine G.q (Quiet.move rfl) rfl ?_
        refine G.nil ?_
        refine G.then_n ?_
        exact G.roundK (2) (⟨by omega, fun j hj => by rcases Nat.lt_or_ge j 1 with h | h; exact hb j h; obtain rfl : j = 1 := (by omega); exact h20⟩) (by omega) ⟨rfl, rfl, rfl, rfl, trivial⟩ (by (repeat (first | exact Picks.nil | (apply Picks.cons; (repeat (first | exact Pick.here | apply Pick.there)))))) (by ((repeat (apply Have.cons; (repeat (first | exact Pick.here | apply Pick.there)))); apply Have.base; repeat (first | exact Suff.here | apply Suff.there)))
    · refine G.q (Quiet.indexAddr rfl rfl el_116 (by omega)) rfl ?_
      refine G.q (Quiet.load rfl ag_52 (by (repeat (first | exact Pick.here | apply Pick.there))) (rfl)) rfl ?_
      refine G.q (Quiet.assign rfl) rfl ?_
      refine G.nil ?_
      refine G.then_n ?_
      refine G.seq ?_
      refine G.region ?_
      refine G.q (Quiet.move rfl) rfl ?_
      refine G.op (OpSpec.callV Try.func50 rfl rfl (us := [_]) (vs := []) (ws := []) rfl rfl (sync_spec d (fmtZ δ 2).1 ?hA34)) (by (repeat (first | exact Picks.nil | (apply Picks.cons; (repeat (first | exact Pick.here | apply Pick.there)))))) rfl ?nx35
      case hA34 => have := (fmtZ_keeps δ 2).2; omega
      rintro v L' ⟨rfl, rfl⟩
      refine G.q (Quiet.int rfl rfl rfl) rfl ?_
      refine G.nil ?_
      refine G.then_n ?_
      refine G.condN rfl (fun h20 => ?_) (fun h20 => ?_)
      · refine G.seq ?_
        refine G.region ?_
        refine G.q (Quiet.assign rfl) rfl ?_
        refine G.q (Quiet.assign rfl) rfl ?_
        refine G.nil ?_
        refine G.then_n ?_
        refine G.ret ?_
        refine G.blk_r ?_
        refine G.then_r ?_
        refine G.then_r ?_
        refine G.blk_r ?_
        refine G.then_r ?_
        have hF : formatZ δ = ((fmtZ δ 3).1, none) := by unfold formatZ; rw [if_neg (by rw [hb 0 (by omega)]; decide), if_neg (by rw [hb 1 (by omega)]; decide), if_pos (show (fmtZ δ 3).2 ≠ 0 from h20)]
        exact G.done (l := [.tmp 2, .tmp 3]) rfl rfl (.inl ⟨by rw [hF], rfl, by rw [hF]⟩) (by (repeat (first | exact Picks.nil | (apply Picks.cons; (repeat (first | exact Pick.here | apply Pick.there)))))) (by (repeat (first | exact Suff.here | apply Suff.there)))
      · refine G.skip ?_
        refine G.blk_n ?_
        refine G.then_n ?_
        refine G.region ?_
        refine G.q (Quiet.add rfl rfl (by omega)) rfl ?_
        refine G.q (Quiet.move rfl) rfl ?_
        refine G.nil ?_
        refine G.then_n ?_
        exact G.roundK (3) (⟨by omega, fun j hj => by rcases Nat.lt_or_ge j 2 with h | h; exact hb j h; obtain rfl : j = 2 := (by omega); exact h20⟩) (by omega) ⟨rfl, rfl, rfl, rfl, trivial⟩ (by (repeat (first | exact Picks.nil | (apply Picks.cons; (repeat (first | exact Pick.here | apply Pick.there)))))) (by ((repeat (apply Have.cons; (repeat (first | exact Pick.here | apply Pick.there)))); apply Have.base; repeat (first | exact Suff.here | apply Suff.there)))
  · refine G.exit ?_
    refine G.then_e ?_
    refine G.then_e ?_
    refine G.blk_e ?_
    refine G.then_n ?_
    refine G.seq ?_
    obtain rfl : i = 3 := by omega
    refine G.add (slR_nil 9 1) ?_
    refine G.add (slR_nil 5 1) ?_
    refine G.region ?_
    refine G.q (Quiet.load rfl ag_24 (by (repeat (first | exact Pick.here | apply Pick.there))) (rfl)) rfl ?_
    refine G.q (Quiet.build (us := [(0, _), (5, _)]) fl_118 ze_118 rfl rfl (by simp [isCell])) rfl ?_
    refine G.op (OpSpec.box rfl) (by (repeat (first | exact Picks.nil | (apply Picks.cons; (repeat (first | exact Pick.here | apply Pick.there)))))) rfl ?nx43
    rintro v L' ⟨x, rfl, rfl⟩
    refine G.q (Quiet.assign rfl) rfl ?_
    refine G.q (Quiet.assign rfl) rfl ?_
    refine G.nil ?_
    refine G.ptCast (b := x) (l' := [vptr d, .slice none 0 0, vint 0, .slice none 0 0, vint 0, vint 1, vint 0, vint 0, .bool false]) (by (repeat (first | exact Pick.here | apply Pick.there))) rfl ?_
    refine G.then_n ?_
    refine G.ret ?_
    have hF : formatZ δ = ((fmtZ δ 3).1, some newW) := by unfold formatZ; rw [if_neg (by rw [hb 0 (by omega)]; decide), if_neg (by rw [hb 1 (by omega)]; decide), if_neg (by rw [hb 2 (by omega)]; decide)]
    refine G.wlFold (x := x) (d := d) (ω := newW) (by (repeat (first | exact Picks.nil | (apply Picks.cons; (repeat (first | exact Pick.here | apply Pick.there)))))) rfl rfl rfl rfl rfl ?_
    exact G.done (l := [.tmp 2, .tmp 3]) rfl rfl (.inr ⟨by rw [hF], x, rfl, by rw [hF]⟩) (by (repeat (first | exact Picks.nil | (apply Picks.cons; (repeat (first | exact Pick.here | apply Pick.there)))))) (by (repeat (first | exact Suff.here | apply Suff.there)))

end Go.Proofs.Ytepncdidkjjllaa
