/- Own work, by program: lay, fits, next, seal, doubts: walked. -/
import Derived.Test.YtepncdidkjjllaaWal3
namespace Go.Proofs.Ytepncdidkjjllaa
open Go
set_option maxRecDepth 100000 in
theorem fits_spec (x d : Nat) (vr : Value) (sy : Int) (vb : Value) (ar ct a b : Int) (db : Bool) (δ : Dk) (n : Int) (hn : 2 ≤ δ.now.length ∧ δ.now.length ≤ 32768) : Fn Try.prog 82 #[vptr x, vint n] [ptc x (wc d vr sy vb ar ct a b db) 118, dkR d δ] fun v L => v = .bool (decide (n ≤ 64 * halfZ δ)) ∧ L = [ptc x (wc d vr sy vb ar ct a b db) 118, dkR d δ] := by
  refine Fn.intro (vs := [vptr x, vint n]) Try.func82 rfl rfl ?_
  intro F W
  have hh := half_le hn
  refine G.seq ?_
  refine G.region ?_
  refine G.q (Quiet.assign rfl) rfl ?_
  refine G.nil ?_
  refine G.then_n ?_
  refine G.seq ?_
  refine G.region ?_
  refine G.q (Quiet.move rfl) rfl ?_
  refine G.q (Quiet.move rfl) rfl ?_
  refine G.q (Quiet.nilp rfl) rfl ?_
  refine G.q (Quiet.fieldAddr rfl fo_118_0) rfl ?_
  refine G.q (Quiet.load rfl ag_24 (by (repeat (first | exact Pick.here | apply Pick.there))) (rfl)) rfl ?_
  refine G.op (OpSpec.call Try.func80 rfl rfl (vs := [_]) rfl (half_spec d δ hn)) (by (repeat (first | exact Picks.nil | (apply Picks.cons; (repeat (first | exact Pick.here | apply Pick.there)))))) rfl ?nx7
  rintro v L' ⟨rfl, rfl⟩
  refine G.q (Quiet.mul rfl rfl (by omega)) rfl ?_
  refine G.q (Quiet.int rfl rfl rfl) rfl ?_
  refine G.q (Quiet.assign rfl) rfl ?_
  refine G.nil ?_
  refine G.then_n ?_
  refine G.ret ?_
  exact G.done (l := [.tmp 4]) rfl rfl ⟨rfl, rfl⟩ (by (repeat (first | exact Picks.nil | (apply Picks.cons; (repeat (first | exact Pick.here | apply Pick.there)))))) (by (repeat (first | exact Suff.here | apply Suff.there)))

set_option maxRecDepth 100000 in
theorem doubts_spec (x d : Nat) (vr : Value) (sy : Int) (vb : Value) (ar ct a b : Int) (db : Bool) (e : Nat) (er : Int) : FnD Try.prog 81 #[vptr x, vptr e] [ptc x (wc d vr sy vb ar ct a b db) 118, ptc e [vint er] 25] fun v L => v = .tuple #[] ∧ L = [ptc x (wc d vr sy vb ar ct a b (if er = 2 then true else db)) 118, ptc e [vint er] 25] := by
  refine FnD.intro (vs := [vptr x, vptr e]) Try.func81 rfl rfl ?_
  intro F W
  refine G.seq ?_
  refine G.region ?_
  refine G.q (Quiet.move rfl) rfl ?_
  refine G.q (Quiet.nilp rfl) rfl ?_
  refine G.q (Quiet.load rfl ag_25 (by (repeat (first | exact Pick.here | apply Pick.there))) (rfl)) rfl ?_
  refine G.q (Quiet.int rfl rfl rfl) rfl ?_
  refine G.nil ?_
  refine G.then_n ?_
  refine G.condD rfl (fun h7 => ?_) (fun h7 => ?_)
  · refine G.region ?_
    refine G.q (Quiet.move rfl) rfl ?_
    refine G.q (Quiet.nilp rfl) rfl ?_
    refine G.q (Quiet.fieldAddr rfl fo_118_8) rfl ?_
    refine G.op (OpSpec.store rfl rfl rfl sz_4 ?c8 ?c9) (by (repeat (first | exact Picks.nil | (apply Picks.cons; (repeat (first | exact Pick.here | apply Pick.there)))))) rfl ?nx10
    case c8 => first | decide | (simp; omega) | simp
    case c9 => exact nfz0 _ _
    rintro v L' rfl
    refine G.nil ?_
    refine G.done_n ?_
    rw [if_pos h7]
    exact G.done (l := []) rfl rfl ⟨rfl, rfl⟩ (by (repeat (first | exact Picks.nil | (apply Picks.cons; (repeat (first | exact Pick.here | apply Pick.there)))))) (by (repeat (first | exact Suff.here | apply Suff.there)))
  · refine G.skip ?_
    refine G.done_n ?_
    rw [if_neg h7]
    exact G.done (l := []) rfl rfl ⟨rfl, rfl⟩ (by (repeat (first | exact Picks.nil | (apply Picks.cons; (repeat (first | exact Pick.here | apply Pick.there)))))) (by (repeat (first | exact Suff.here | apply Suff.there)))

set_option maxRecDepth 100000 in
theorem lay_spec4 (x d : Nat) (vr : Value) (sy : Int) (vb : Value) (ar ct a b : Int) (db : Bool) (va : Value) (δ : Dk) (area : Int) (all : Bs) (frm : Nat) (p : HP) (hn : 2 ≤ δ.now.length ∧ δ.now.length ≤ 32768) (ha : 0 ≤ area ∧ area ≤ 1) (hA : δ.acts + 70000 < 4611686018427387904) (hr : ∀ h : Hp, p h → rdS 1 h va all.length (bysL all)) (hl0 : all.length ≤ 2000000) (hfrm : frm ≤ all.length) : Fn Try.prog 85 #[vptr x, vint area, va, vint frm] [ptc x (wc d vr sy vb ar ct a b db) 118, dkR d δ, p] fun v L => v = vint (layZ δ area all frm).2 ∧ L = [ptc x (wc d vr sy vb ar ct a b db) 118, dkR d (layZ δ area all frm).1, p] := by
  refine Fn.intro (vs := [vptr x, vint area, va, vint frm]) Try.func85 rfl rfl ?_
  intro F W
  have hh := half_le hn
  refine G.rdAny (p := p) hr (by (repeat (first | exact Pick.here | apply Pick.there))) fun aa ca e _ => ?_
  subst e
  refine G.seq ?_
  refine G.region ?_
  refine G.q (Quiet.assign rfl) rfl ?_
  refine G.nil ?_
  refine G.then_n ?_
  refine G.seq ?_
  refine G.seq ?_
  refine G.region ?_
  refine G.q (Quiet.move rfl) rfl ?_
  refine G.q (Quiet.as (v' := vint ((frm / 64 : Nat) : Int)) (by exact congrArg vint (by omega)) (Quiet.quoE rfl rfl (by omega) (by omega))) rfl ?_
  refine G.q (Quiet.assign rfl) rfl ?_
  refine G.nil ?_
  refine G.then_n ?_
  refine G.block ?_
  refine G.loopK (ι := Nat × Dk × Nat) (fun q E => (9, vint q.1) :: E) (fun q => [dkR d q.2.1]) (fun q => all.length < q.2.2 + q.1 * 64 ∧ layF q.2.2 q.2.1 area all q.1 = layZ δ area all frm ∧ q.2.1.now.length = δ.now.length ∧ q.2.1.acts ≤ δ.acts + q.1 ∧ q.1 ≤ all.length / 64 + frm + 1) (fun q => all.length - q.1 * 64) (frm / 64, δ, all.length + 1) (ts := [0, 1, 2]) (.cons rfl (.cons rfl (.cons rfl (.nil)))) (⟨by dsimp only; omega, rfl, rfl, by dsimp only; omega, by dsimp only; omega⟩) ⟨rfl, rfl, rfl, rfl, trivial⟩ (by (repeat (first | exact Picks.nil | (apply Picks.cons; (repeat (first | exact Pick.here | apply Pick.there)))))) ?_
  rintro ⟨i, δ2, f⟩ ⟨hf, hl, hnl, hac, hib⟩
  dsimp only
  dsimp only at hf hl hnl hac hib
  have hhz := halfZ_of hnl
  refine G.seq ?_
  refine G.seq ?_
  refine G.region ?_
  refine G.q (Quiet.move rfl) rfl ?_
  refine G.q (Quiet.mul rfl rfl (by omega)) rfl ?_
  refine G.q (Quiet.move rfl) rfl ?_
  refine G.q (Quiet.slen rfl Try.underlying31 rfl) rfl ?_
  refine G.q (Quiet.int rfl rfl rfl) rfl ?_
  refine G.nil ?_
  refine G.then_n ?_
  refine G.condD rfl (fun h18 => ?_) (fun h18 => ?_)
  · obtain ⟨f, rfl⟩ : ∃ k, f = k + 1 := ⟨f - 1, by omega⟩
    have hi2 : i * 64 < all.length := by omega
    simp only [layF] at hl
    rw [if_pos hi2, hhz] at hl
    refine G.rdShapeC (p := p) hr (by (repeat (first | exact Pick.here | apply Pick.there))) (by omega) fun ba oa e hac2 => ?_
    subst e
    have hmul : 0 ≤ area * halfZ δ ∧ area * halfZ δ ≤ 16383 := by rcases (by omega : area = 0 ∨ area = 1) with h | h <;> rw [h] <;> omega
    refine G.skip ?_
    refine G.then_n ?_
    refine G.seq ?_
    refine G.block ?_
    refine G.seq ?_
    refine G.region ?_
    refine G.op (OpSpec.make rfl rfl el_31 ze_5 rfl ⟨by simp, by simp; rfl⟩ ?hc9) (by (repeat (first | exact Picks.nil | (apply Picks.cons; (repeat (first | exact Pick.here | apply Pick.there)))))) rfl ?nx10
    case hc9 => omega
    rintro v L' ⟨bs, rfl, rfl⟩; rw [show (64 : Int).toNat = 64 from rfl]
    refine G.q (Quiet.assign rfl) rfl ?_
    refine G.nil ?_
    refine G.then_n ?_
    refine G.seq ?_
    refine G.region ?_
    refine G.q (Quiet.move rfl) rfl ?_
    refine G.q (Quiet.move rfl) rfl ?_
    refine G.q (Quiet.move rfl) rfl ?_
    refine G.q (Quiet.mul rfl rfl (by omega)) rfl ?_
    refine G.q (Quiet.to (v' := .slice (some ⟨ba, oa + i * 64 * 1, none⟩) (all.length - i * 64) (ca - i * 64)) (Quiet.slSlice (i := (i : Int) * 64) (j := all.length) rfl el_31 (by exact rfl) (by exact rfl) (by omega)) (by rw [show ((i : Int) * 64).toNat = i * 64 by omega, if_neg (by omega)]; simp)) rfl ?_
    refine G.op (OpSpec.copy (m := all.length - i * 64) (ys := (bysL all).drop (i * 64 * 1)) (p := p) rfl rfl rfl el_31 ?h116 ?h217 ?h318 ?h419) (by (repeat (first | exact Picks.nil | (apply Picks.cons; (repeat (first | exact Pick.here | apply Pick.there)))))) rfl ?nx20
    case h116 => exact fun h hp => rdS_drop (hr h hp) hi2
    case h217 => exact fun y hy => bysL_cell _ y (List.mem_of_mem_drop hy)
    case h318 => simp
    case h419 => exact nfz0 _ _
    rintro v L' ⟨rfl, rfl⟩
    refine G.nil ?_
    refine G.ptCast (b := bs) (l' := bysL (laySec all i)) (by (repeat (first | exact Pick.here | apply Pick.there))) (by rw [show (bysL all).drop (i * 64 * 1) = bysL (all.drop (i * 64)) from by rw [Nat.mul_one]; exact List.map_drop.symm]; exact lay_cells all i _ rfl) ?_
    refine G.then_n ?_
    refine G.seq ?_
    refine G.draw [16] [[0, 1, 2, 3, 4, 5, 6, 7, 8, 9, 10, 11, 12, 13, 14, 15, 16], [17]] mixed (by kernel_rfl) ?_
    refine Phases.go [ptc x _ _, ptc bs _ _] (by (repeat (first | exact Picks.nil | (apply Picks.cons; (repeat (first | exact Pick.here | apply Pick.there)))))) ?_
    refine D.qw [1, 2, 3, 16] rfl (by kernel_rfl) (Quiet.move rfl) ?_
    refine D.qw [2, 3, 16] rfl (by kernel_rfl) (Quiet.nilp rfl) ?_
    refine D.qw [3, 16] rfl (by kernel_rfl) (Quiet.fieldAddr rfl fo_118_0) ?_
    refine D.qw [16] rfl (by kernel_rfl) (Quiet.load rfl ag_24 (by (repeat (first | exact Pick.here | apply Pick.there))) (rfl)) ?_
    refine D.qw [10, 11, 13, 16] rfl (by kernel_rfl) (Quiet.move rfl) ?_
    refine D.qw [6, 7, 8, 9, 10, 11, 13, 16] rfl (by kernel_rfl) (Quiet.move rfl) ?_
    refine D.qw [7, 8, 9, 10, 11, 13, 16] rfl (by kernel_rfl) (Quiet.nilp rfl) ?_
    refine D.qw [8, 9, 10, 11, 13, 16] rfl (by kernel_rfl) (Quiet.fieldAddr rfl fo_118_0) ?_
    refine D.qw [9, 10, 11, 13, 16] rfl (by kernel_rfl) (Quiet.load rfl ag_24 (by (repeat (first | exact Pick.here | apply Pick.there))) (rfl)) ?_
    refine D.mw [10, 11, 13, 16] rfl (by kernel_rfl) (OpSpec.call Try.func80 rfl rfl (vs := [_]) rfl (half_spec d δ2 (by omega))) (by (repeat (first | exact Picks.nil | (apply Picks.cons; (repeat (first | exact Pick.here | apply Pick.there)))))) ?nx31
    rw [hhz]
    refine D.qw [11, 13, 16] rfl (by kernel_rfl) (Quiet.mul rfl rfl (by omega)) ?_
    refine D.qw [13, 16] rfl (by kernel_rfl) (Quiet.add rfl rfl (by omega)) ?_
    refine D.qw [13, 16] rfl (by kernel_rfl) (Quiet.move rfl) ?_
    refine D.qw [16] rfl (by kernel_rfl) (Quiet.add rfl rfl (by omega)) ?_
    refine D.qw [15, 16] rfl (by kernel_rfl) (Quiet.move rfl) ?_
    refine D.qw [16] rfl (by kernel_rfl) (Quiet.bytesPt (cs := laySec all i) rfl Try.underlying31 Try.underlying5 Try.underlying9 (by (repeat (first | exact Pick.here | apply Pick.there))) (by rw [List.drop_zero]; exact List.take_of_length_le (by simp [bysL_len, laySec_len])) (by simp [bysL_len, laySec_len]) (by decide)) ?_
    refine D.h rfl (by kernel_rfl) (OpSpec.call Try.func17 rfl rfl (vs := [_, _, _]) rfl (write_spec d δ2 (2 + area * halfZ δ + i) (laySec all i) (by omega))) (by (repeat (first | exact Picks.nil | (apply Picks.cons; (repeat (first | exact Pick.here | apply Pick.there)))))) ?nx38
    rintro v L' ⟨rfl, rfl⟩
    refine D.ph ?_
    refine Phases.go [] (by (repeat (first | exact Picks.nil | (apply Picks.cons; (repeat (first | exact Pick.here | apply Pick.there)))))) ?_
    refine D.qw [] rfl (by kernel_rfl) (Quiet.assign rfl) ?_
    refine D.ph ?_
    refine Phases.fin ?_
    refine G.then_n ?_
    refine G.seq ?_
    refine G.region ?_
    refine G.q (Quiet.move rfl) rfl ?_
    refine G.q (Quiet.int rfl rfl rfl) rfl ?_
    refine G.nil ?_
    refine G.then_n ?_
    refine G.condN rfl (fun h46 => ?_) (fun h46 => ?_)
    · refine G.seq ?_
      have h46 : (δ2.write (2 + area * halfZ δ + i) (laySec all i)).2 ≠ 0 := by simpa using h46
      rw [if_pos h46] at hl
      rw [← hl]
      refine G.region ?_
      refine G.q (Quiet.assign rfl) rfl ?_
      refine G.nil ?_
      refine G.then_n ?_
      refine G.ret ?_
      refine G.blk_r ?_
      refine G.then_r ?_
      refine G.then_r ?_
      refine G.blk_r ?_
      refine G.then_r ?_
      exact G.done (l := [.tmp 8]) rfl rfl ⟨rfl, rfl⟩ (by (repeat (first | exact Picks.nil | (apply Picks.cons; (repeat (first | exact Pick.here | apply Pick.there)))))) (by (repeat (first | exact Suff.here | apply Suff.there)))
    · have h46 : ¬ (δ2.write (2 + area * halfZ δ + i) (laySec all i)).2 ≠ 0 := by simpa using h46
      rw [if_neg h46] at hl
      refine G.skip ?_
      refine G.blk_n ?_
      refine G.then_n ?_
      refine G.region ?_
      refine G.q (Quiet.move rfl) rfl ?_
      refine G.q (Quiet.add rfl rfl (by omega)) rfl ?_
      refine G.q (Quiet.assign rfl) rfl ?_
      refine G.nil ?_
      refine G.then_n ?_
      exact G.roundK ((i + 1, (δ2.write (2 + area * halfZ δ + i) (laySec all i)).1, f)) (⟨by dsimp only; omega, hl, by rw [(write_keeps _ _ _).1]; exact hnl, by have := (write_keeps δ2 (2 + area * halfZ δ + i) (laySec all i)).2; dsimp only; omega, by dsimp only; omega⟩) (by dsimp only; omega) ⟨rfl, rfl, rfl, rfl, trivial⟩ (by (repeat (first | exact Picks.nil | (apply Picks.cons; (repeat (first | exact Pick.here | apply Pick.there)))))) (by ((repeat (apply Have.cons; (repeat (first | exact Pick.here | apply Pick.there)))); apply Have.base; repeat (first | exact Suff.here | apply Suff.there)))
  · have hq := layF_end (f := f) (δ := δ2) (area := area) (all := all) (i := i) (by omega)
    rw [hq] at hl
    rw [← hl]
    refine G.exit ?_
    refine G.then_e ?_
    refine G.then_e ?_
    refine G.blk_e ?_
    refine G.then_n ?_
    refine G.seq ?_
    refine G.region ?_
    refine G.q (Quiet.assign rfl) rfl ?_
    refine G.nil ?_
    refine G.then_n ?_
    refine G.ret ?_
    exact G.done (l := [.tmp 8]) rfl rfl ⟨rfl, rfl⟩ (by (repeat (first | exact Picks.nil | (apply Picks.cons; (repeat (first | exact Pick.here | apply Pick.there)))))) (by (repeat (first | exact Suff.here | apply Suff.there)))

end Go.Proofs.Ytepncdidkjjllaa
