/- Own work, some of it printed by program, texts that were built one by one and are laid one behind the other here: lay, fits, next, seal, doubts: walked. | next, seal: walked. | Append, Sync, Cut, Mark, what asks a log: walked. | Append, Renew, Records, Room ..: walked. | Renew, Format: walked. | Format: walked. | a ledger as plain data, in memory, and what its calls do. | package ledger: walked. | package ledger: Append, Sync, Accept, Adopt: walked. | the helpers of law 04, as plain data. | nothing: stands for the walks of law 04, in a seat that has none. | what a call of a log does, what a log tells, as plain data. | nothing: stands for the walks of law 04, in a seat that has none. | the first example of law 04, reckoned. | nothing: stands for the walks of law 04, in a seat that has none. | a disk that does not die: what the calls of a log do there. | a ledger as plain data: read out of its records; Cut, Install, Compact, Entries; on a disk that lives. | package ledger: Format, parse, Open, Marks, Entries: walked. -/
import Derived.Test.YtidjhgbdokcphaaGreatCLLastsP1
set_option linter.unusedSimpArgs false
set_option linter.unusedVariables false
set_option maxRecDepth 100000
/- Own work, by program: lay, fits, next, seal, doubts: walked. -/

namespace Go.Proofs.YtidjhgbdokcphaaGreat
open Go
theorem fits_spec (x d : Nat) (vr : Value) (sy : Int) (vb : Value) (ar ct a b : Int) (db : Bool) (δ : Dk) (n : Int) (hn : 2 ≤ δ.now.length ∧ δ.now.length ≤ 32768) : Fn Tryz.prog 97 #[vptr x, vint n] [ptc x (wc d vr sy vb ar ct a b db) 142, dkR d δ] fun v L => v = .bool (decide (n ≤ 64 * halfZ δ)) ∧ L = [ptc x (wc d vr sy vb ar ct a b db) 142, dkR d δ] := by
 refine Fn.intro (vs := [vptr x, vint n]) Tryz.func97 rfl rfl ?_
 intro F W
 have hh := half_le hn
 refine G.seq (G.region (G.ag rfl rfl (G.nil (G.then_n (G.seq (G.region (G.mv rfl rfl (G.mv rfl rfl (G.q (Quiet.nilp rfl) rfl (G.q (Quiet.fieldAddr rfl fo_142_0) rfl ?_))))))))))
 refine G.q (Quiet.ld rfl ag_24) rfl ?_
 refine G.oq (OpSpec.call Tryz.func109 rfl rfl (vs := [_]) rfl (half_spec d δ hn)) ?nx7
 rintro v L' ⟨rfl, rfl⟩
 refine G.q (Quiet.mul rfl rfl (by omega)) rfl ?_
 refine G.q (Quiet.int rfl rfl rfl) rfl (G.ag rfl rfl (G.nil (G.then_n (G.ret ?_))))
 exact G.dn (l := [.tmp 4]) rfl rfl ⟨rfl, rfl⟩

theorem doubts_spec (x d : Nat) (vr : Value) (sy : Int) (vb : Value) (ar ct a b : Int) (db : Bool) (e : Nat) (er : Int) : FnD Tryz.prog 96 #[vptr x, vptr e] [ptc x (wc d vr sy vb ar ct a b db) 142, ptc e [vint er] 25] fun v L => v = .tuple #[] ∧ L = [ptc x (wc d vr sy vb ar ct a b (if er = 2 then true else db)) 142, ptc e [vint er] 25] := by
 refine FnD.intro (vs := [vptr x, vptr e]) Tryz.func96 rfl rfl ?_
 intro F W
 refine G.seq (G.region (G.mv rfl rfl (G.q (Quiet.nilp rfl) rfl ?_)))
 refine G.q (Quiet.ld rfl ag_25) rfl ?_
 refine G.q (Quiet.int rfl rfl rfl) rfl (G.nil (G.then_n ?_))
 refine G.condD rfl (fun h7 => ?_) (fun h7 => ?_)
 ·refine G.region (G.mv rfl rfl (G.q (Quiet.nilp rfl) rfl (G.q (Quiet.fieldAddr rfl fo_142_8) rfl ?_)))
  refine G.oq (OpSpec.store rfl rfl rfl sz_4 ?c8 ?c9) ?nx10
  case c8 => first | decide | (simp; omega) | simp
  case c9 => exact nfz0 _ _
  rintro v L' rfl
  refine G.nil (G.done_n ?_)
  rw [if_pos h7]
  exact G.dn (l := []) rfl rfl ⟨rfl, rfl⟩
 ·refine G.skip (G.done_n ?_)
  rw [if_neg h7]
  exact G.dn (l := []) rfl rfl ⟨rfl, rfl⟩

theorem lay_spec4 (x d : Nat) (vr : Value) (sy : Int) (vb : Value) (ar ct a b : Int) (db : Bool) (va : Value) (δ : Dk) (area : Int) (all : Bs) (frm : Nat) (p : HP) (hn : 2 ≤ δ.now.length ∧ δ.now.length ≤ 32768) (ha : 0 ≤ area ∧ area ≤ 1) (hA : δ.acts + 70000 < 4611686018427387904) (hr : ∀ h : Hp, p h → rdS 1 h va all.length (bysL all)) (hl0 : all.length ≤ 2000000) (hfrm : frm ≤ all.length) : Fn Tryz.prog 100 #[vptr x, vint area, va, vint frm] [ptc x (wc d vr sy vb ar ct a b db) 142, dkR d δ, p] fun v L => v = vint (layZ δ area all frm).2 ∧ L = [ptc x (wc d vr sy vb ar ct a b db) 142, dkR d (layZ δ area all frm).1, p] := by
 refine Fn.intro (vs := [vptr x, vint area, va, vint frm]) Tryz.func100 rfl rfl ?_
 intro F W
 have hh := half_le hn
 refine G.rdAny (p := p) hr (by (repeat' constructor)) fun aa ca e _ => ?_
 subst e
 refine G.seq (G.region (G.ag rfl rfl (G.nil (G.then_n (G.seq (G.seq (G.region (G.mv rfl rfl ?_))))))))
 refine G.q (Quiet.as (v' := vint ((frm / 64 : Nat) : Int)) (by exact congrArg vint (by omega)) (Quiet.quoE rfl rfl (by omega) (by omega))) rfl ?_
 refine G.ag rfl rfl (G.nil (G.then_n (G.block ?_)))
 refine G.loopK (ι := Nat × Dk × Nat) (fun q E => (9, vint q.1) :: E) (fun q => [dkR d q.2.1]) (fun q => all.length < q.2.2 + q.1 * 64 ∧ layF q.2.2 q.2.1 area all q.1 = layZ δ area all frm ∧ q.2.1.now.length = δ.now.length ∧ q.2.1.acts ≤ δ.acts + q.1 ∧ q.1 ≤ all.length / 64 + frm + 1) (fun q => all.length - q.1 * 64) (frm / 64, δ, all.length + 1) (ts := [0, 1, 2]) (.cons rfl (.cons rfl (.cons rfl (.nil)))) (⟨by dsimp only; omega, rfl, rfl, by dsimp only; omega, by dsimp only; omega⟩) ⟨rfl, rfl, rfl, rfl, trivial⟩ (by (repeat' constructor)) ?_
 rintro ⟨i, δ2, f⟩ ⟨hf, hl, hnl, hac, hib⟩
 dsimp only
 dsimp only at hf hl hnl hac hib
 have hhz := halfZ_of hnl
 refine G.seq (G.seq (G.region (G.mv rfl rfl ?_)))
 refine G.q (Quiet.mul rfl rfl (by omega)) rfl ?_
 refine G.mv rfl rfl (G.q (Quiet.slen rfl Tryz.underlying125 rfl) rfl (G.q (Quiet.int rfl rfl rfl) rfl (G.nil (G.then_n ?_))))
 refine G.condD rfl (fun h18 => ?_) (fun h18 => ?_)
 ·obtain ⟨f, rfl⟩ : ∃ k, f = k + 1 := ⟨f - 1, by omega⟩
  have hi2 : i * 64 < all.length := by omega
  simp only [layF] at hl
  rw [if_pos hi2, hhz] at hl
  refine G.rdShapeC (p := p) hr (by (repeat' constructor)) (by omega) fun ba oa e hac2 => ?_
  subst e
  have hmul : 0 ≤ area * halfZ δ ∧ area * halfZ δ ≤ 16383 := by rcases (by omega : area = 0 ∨ area = 1) with h | h <;> rw [h] <;> omega
  refine G.skip (G.then_n (G.seq (G.block (G.seq (G.region ?_)))))
  refine G.oq (OpSpec.make rfl rfl el_125 ze_5 rfl ⟨by simp, by simp; rfl⟩ ?hc9) ?nx10
  case hc9 => omega
  rintro v L' ⟨bs, rfl, rfl⟩; rw [show (64 : Int).toNat = 64 from rfl]
  refine G.ag rfl rfl (G.nil (G.then_n (G.seq (G.region (G.mv rfl rfl (G.mv rfl rfl (G.mv rfl rfl ?_)))))))
  refine G.q (Quiet.mul rfl rfl (by omega)) rfl ?_
  refine G.q (Quiet.to (v' := .slice (some ⟨ba, oa + i * 64 * 1, none⟩) (all.length - i * 64) (ca - i * 64)) (Quiet.slSlice (i := (i : Int) * 64) (j := all.length) rfl el_125 (by exact rfl) (by exact rfl) (by omega)) (by rw [show ((i : Int) * 64).toNat = i * 64 by omega, if_neg (by omega)]; simp)) rfl ?_
  refine G.oq (OpSpec.copy (m := all.length - i * 64) (ys := (bysL all).drop (i * 64 * 1)) (p := p) rfl rfl rfl el_125 ?h116 ?h217 ?h318 ?h419) ?nx20
  case h116 => exact fun h hp => rdS_drop (hr h hp) hi2
  case h217 => exact fun y hy => bysL_cell _ y (List.mem_of_mem_drop hy)
  case h318 => simp
  case h419 => exact nfz0 _ _
  rintro v L' ⟨rfl, rfl⟩
  refine G.nil ?_
  refine G.ptCast (b := bs) (l' := bysL (laySec all i)) (by (repeat' constructor)) (by rw [show (bysL all).drop (i * 64 * 1) = bysL (all.drop (i * 64)) from by rw [Nat.mul_one]; exact List.map_drop.symm]; exact lay_cells all i _ rfl) ?_
  refine G.then_n (G.seq ?_)
  refine G.draw [16] [[0, 1, 2, 3, 4, 5, 6, 7, 8, 9, 10, 11, 12, 13, 14, 15, 16], [17]] mixed (by kernel_rfl) ?_
  refine Phases.go [ptc x _ _, ptc bs _ _] (by (repeat' constructor)) ?_
  refine D.kw [1, 2, 3, 16] rfl (Quiet.move rfl) ?_
  refine D.kw [2, 3, 16] rfl (Quiet.nilp rfl) ?_
  refine D.kw [3, 16] rfl (Quiet.fieldAddr rfl fo_142_0) ?_
  refine D.kw [16] rfl (Quiet.ld rfl ag_24) ?_
  refine D.kw [10, 11, 13, 16] rfl (Quiet.move rfl) ?_
  refine D.kw [6, 7, 8, 9, 10, 11, 13, 16] rfl (Quiet.move rfl) ?_
  refine D.kw [7, 8, 9, 10, 11, 13, 16] rfl (Quiet.nilp rfl) ?_
  refine D.kw [8, 9, 10, 11, 13, 16] rfl (Quiet.fieldAddr rfl fo_142_0) ?_
  refine D.kw [9, 10, 11, 13, 16] rfl (Quiet.ld rfl ag_24) ?_
  refine D.mw [10, 11, 13, 16] rfl (by kernel_rfl) (OpSpec.call Tryz.func109 rfl rfl (vs := [_]) rfl (half_spec d δ2 (by omega))) (by (repeat' constructor)) ?nx31
  rw [hhz]
  refine D.kw [11, 13, 16] rfl (Quiet.mul rfl rfl (by omega)) ?_
  refine D.kw [13, 16] rfl (Quiet.add rfl rfl (by omega)) ?_
  refine D.kw [13, 16] rfl (Quiet.move rfl) ?_
  refine D.kw [16] rfl (Quiet.add rfl rfl (by omega)) ?_
  refine D.kw [15, 16] rfl (Quiet.move rfl) ?_
  refine D.kw [16] rfl (Quiet.bytesPt (cs := laySec all i) rfl Tryz.underlying125 Tryz.underlying5 Tryz.underlying9 (by (repeat' constructor)) (by rw [List.drop_zero]; exact List.take_of_length_le (by simp [bysL_len, laySec_len])) (by simp [bysL_len, laySec_len]) (by decide)) ?_
  refine D.h rfl (by kernel_rfl) (OpSpec.call Tryz.func23 rfl rfl (vs := [_, _, _]) rfl (write_spec d δ2 (2 + area * halfZ δ + i) (laySec all i) (by omega))) (by (repeat' constructor)) ?nx38
  rintro v L' ⟨rfl, rfl⟩
  refine D.ph ?_
  refine Phases.go [] (by (repeat' constructor)) ?_
  refine D.kw [] rfl (Quiet.assign rfl) ?_
  refine D.ph (Phases.fin (G.then_n (G.seq (G.region (G.mv rfl rfl (G.q (Quiet.int rfl rfl rfl) rfl (G.nil (G.then_n ?_))))))))
  refine G.condN rfl (fun h46 => ?_) (fun h46 => ?_)
  ·refine G.seq ?_
   have h46 : (δ2.write (2 + area * halfZ δ + i) (laySec all i)).2 ≠ 0 := by simpa using h46
   rw [if_pos h46] at hl
   rw [← hl]
   refine G.region (G.ag rfl rfl (G.nil (G.then_n (G.ret (G.blk_r (G.then_r (G.then_r (G.blk_r (G.then_r ?_)))))))))
   exact G.dn (l := [.tmp 8]) rfl rfl ⟨rfl, rfl⟩
  ·have h46 : ¬ (δ2.write (2 + area * halfZ δ + i) (laySec all i)).2 ≠ 0 := by simpa using h46
   rw [if_neg h46] at hl
   refine G.skip (G.blk_n (G.then_n (G.region (G.mv rfl rfl ?_))))
   refine G.q (Quiet.add rfl rfl (by omega)) rfl ?_
   refine G.ag rfl rfl (G.nil (G.then_n ?_))
   exact G.roundK ((i + 1, (δ2.write (2 + area * halfZ δ + i) (laySec all i)).1, f)) (⟨by dsimp only; omega, hl, by rw [(write_keeps _ _ _).1]; exact hnl, by have := (write_keeps δ2 (2 + area * halfZ δ + i) (laySec all i)).2; dsimp only; omega, by dsimp only; omega⟩) (by dsimp only; omega) ⟨rfl, rfl, rfl, rfl, trivial⟩ (by (repeat' constructor)) (by ((repeat (apply Have.cons; (repeat (first | exact Pick.here | apply Pick.there)))); apply Have.base; repeat' constructor))
 ·have hq := layF_end (f := f) (δ := δ2) (area := area) (all := all) (i := i) (by omega)
  rw [hq] at hl
  rw [← hl]
  refine G.exit (G.then_e (G.then_e (G.blk_e (G.then_n (G.seq (G.region (G.ag rfl rfl (G.nil (G.then_n (G.ret ?_))))))))))
  exact G.dn (l := [.tmp 8]) rfl rfl ⟨rfl, rfl⟩

end Go.Proofs.YtidjhgbdokcphaaGreat

/- Own work, by program: next, seal: walked. -/

namespace Go.Proofs.YtidjhgbdokcphaaGreat
open Go
theorem next_spec (x d : Nat) (vr : Value) (sy : Int) (vb : Value) (ar ct a b : Int) (db : Bool) (m : Mk) (δ : Dk) (hc : 0 ≤ ct ∧ ct ≤ 4294967295) (hA : δ.acts + 2 < 4611686018427387904) : Fn Tryz.prog 140 #[vptr x, .agg (mkC m).toArray] [ptc x (wc d vr sy vb ar ct a b db) 142, dkR d δ] fun v L => v = vint (nextZ δ (⟨ct + 1, m.area, m.len, m.num, m.a, m.b⟩ : Mk)).2 ∧ L = [ptc x (wc d vr sy vb ar (if (nextZ δ (⟨ct + 1, m.area, m.len, m.num, m.a, m.b⟩ : Mk)).2 = 0 then ct + 1 else ct) a b db) 142, dkR d (nextZ δ (⟨ct + 1, m.area, m.len, m.num, m.a, m.b⟩ : Mk)).1] := by
 refine Fn.intro (vs := [vptr x, .agg (mkC m).toArray]) Tryz.func140 rfl rfl ?_
 intro F W
 generalize hM : (⟨ct + 1, m.area, m.len, m.num, m.a, m.b⟩ : Mk) = M
 have hMc : M.count = ct + 1 := by rw [← hM]
 have hwk := write_keeps δ (M.count % 2) M.sec
 refine G.seq (G.region ?_)
 refine G.oq (OpSpec.box rfl) ?nx1
 rintro v L' ⟨b3, rfl, rfl⟩
 refine G.ag rfl rfl (G.nil (G.then_n (G.seq (G.region (G.mv rfl rfl (G.q (Quiet.nilp rfl) rfl (G.q (Quiet.fieldAddr rfl fo_142_5) rfl ?_)))))))
 refine G.q (Quiet.ld rfl ag_3) rfl ?_
 refine G.q (Quiet.add rfl rfl (by omega)) rfl ?_
 refine G.q (Quiet.fieldAddr rfl fo_139_0) rfl ?_
 refine G.oq (OpSpec.store rfl rfl rfl sz_3 ?c10 ?c11) ?nx12
 case c10 => simp [Value.cells, mkC]
 case c11 => exact nfz0 _ _
 rintro v L' rfl
 refine G.nil ?_
 refine G.ptCast (b := b3) (l' := mkC M) (by (repeat' constructor)) (by rw [← hM]; rfl) ?_
 refine G.then_n (G.seq (G.seq ?_))
 refine G.draw [9, 16] [[0, 1, 2, 3, 4, 5, 6, 7, 8, 9], [10, 11, 12, 13, 14, 15, 16], [17, 18]] mixed (by kernel_rfl) ?_
 refine Phases.go [ptc x _ _, ptc b3 _ _] (by (repeat' constructor)) ?_
 refine D.kw [1, 2, 3, 9] rfl (Quiet.move rfl) ?_
 refine D.kw [2, 3, 9] rfl (Quiet.nilp rfl) ?_
 refine D.kw [3, 9] rfl (Quiet.fieldAddr rfl fo_142_0) ?_
 refine D.kw [9] rfl (Quiet.ld rfl ag_24) ?_
 refine D.kw [5, 6, 9] rfl (Quiet.fieldAddr rfl fo_139_0) ?_
 refine D.kw [6, 9] rfl (Quiet.ld rfl ag_3) ?_
 refine D.kw [9] rfl (Quiet.remE (a := M.count) rfl rfl (by rw [hMc]; omega) (by decide)) ?_
 refine D.kw [8, 9] rfl (Quiet.loadAs (vs := mkC M) rfl ag_139 (by (repeat' constructor)) (by simp [mkC]) rfl) ?_
 refine D.m rfl (by kernel_rfl) (OpSpec.call Tryz.func95 rfl rfl (vs := [_]) rfl (sector_spec M)) (by (repeat' constructor)) ?nx21
 refine D.h rfl (by kernel_rfl) (OpSpec.call Tryz.func23 rfl rfl (vs := [_, _, _]) rfl (write_spec d δ (M.count % 2) M.sec (by omega))) (by (repeat' constructor)) ?nx23
 rintro v L' ⟨rfl, rfl⟩
 refine D.ph ?_
 refine Phases.go [] (by (repeat' constructor)) ?_
 refine D.kw [11, 12, 13, 14, 15, 16] rfl (Quiet.int rfl rfl rfl) ?_
 refine D.kw [12, 13, 14, 15, 16] rfl (Quiet.move rfl) ?_
 refine D.ndec (t := 22) rfl (fun h2_22 => ?_) (fun h2_22 => ?_)
 ·refine D.kNT (t := 21) rfl h2_22 ?_
  refine D.gs (t := 22) rfl rfl rfl rfl (by kernel_rfl) ?_
  refine D.gs (t := 22) rfl rfl rfl rfl (by kernel_rfl) ?_
  refine D.gs (t := 22) rfl rfl rfl rfl (by kernel_rfl) ?_
  refine D.gs (t := 22) rfl rfl rfl rfl (by kernel_rfl) ?_
  refine D.gs (t := 22) rfl rfl rfl rfl (by kernel_rfl) ?_
  refine D.ph ?_
  refine Phases.go [] (by (repeat' constructor)) ?_
  refine D.gs (t := 22) rfl rfl rfl rfl (by kernel_rfl) ?_
  refine D.kw [] rfl (Quiet.pickT rfl rfl) ?_
  refine D.ph (Phases.fin (G.then_n (G.condT rfl (G.seq (G.region (G.ag rfl rfl (G.nil (G.then_n (G.ret (G.then_r ?_))))))))))
  have e : nextZ δ M = ((δ.write (M.count % 2) M.sec).1, 2) := by unfold nextZ; rw [if_pos (by simpa using h2_22)]
  rw [e]
  rw [if_neg (show ¬ (2 : Int) = 0 by decide)]
  exact G.dn (l := [.tmp 4]) rfl rfl ⟨rfl, rfl⟩
 ·refine D.kNF (t := 21) rfl h2_22 ?_
  refine D.gqw [13, 14, 15, 16] (t := 22) rfl rfl rfl (by kernel_rfl) (Quiet.move rfl) ?_
  refine D.gqw [14, 15, 16] (t := 22) rfl rfl rfl (by kernel_rfl) (Quiet.nilp rfl) ?_
  refine D.gqw [15, 16] (t := 22) rfl rfl rfl (by kernel_rfl) (Quiet.fieldAddr rfl fo_142_0) ?_
  refine D.gqw [16] (t := 22) rfl rfl rfl (by kernel_rfl) (Quiet.ld rfl ag_24) ?_
  refine D.gh (t := 22) rfl rfl rfl (by kernel_rfl) (OpSpec.call Tryz.func86 rfl rfl (vs := [_]) rfl (sync_spec d (δ.write (M.count % 2) M.sec).1 (by omega))) (by (repeat' constructor)) ?nx32
  rintro v L' ⟨rfl, rfl⟩
  refine D.ph ?_
  refine Phases.go [] (by (repeat' constructor)) ?_
  refine D.gqw [18] (t := 22) rfl rfl rfl (by kernel_rfl) (Quiet.int rfl rfl rfl) ?_
  refine D.kw [] rfl (Quiet.pickF rfl rfl) ?_
  refine D.ph (Phases.fin (G.then_n ?_))
  refine G.condN rfl (fun h29 => ?_) (fun h29 => ?_)
  ·refine G.seq (G.region (G.ag rfl rfl (G.nil (G.then_n (G.ret (G.then_r ?_))))))
   have e : nextZ δ M = ((δ.write (M.count % 2) M.sec).1.sync.1, 2) := by unfold nextZ; rw [if_neg (by simpa using h2_22), if_pos (by simpa using h29)]
   rw [e]
   rw [if_neg (show ¬ (2 : Int) = 0 by decide)]
   exact G.dn (l := [.tmp 4]) rfl rfl ⟨rfl, rfl⟩
  ·refine G.skip (G.then_n (G.seq (G.region (G.mv rfl rfl (G.q (Quiet.fieldAddr rfl fo_139_0) rfl ?_)))))
   refine G.q (Quiet.ld rfl ag_3) rfl ?_
   refine G.q (Quiet.nilp rfl) rfl (G.q (Quiet.fieldAddr rfl fo_142_5) rfl ?_)
   refine G.oq (OpSpec.store rfl rfl rfl sz_3 ?c41 ?c42) ?nx43
   case c41 => first | decide | (simp; omega) | simp
   case c42 => exact nfz0 _ _
   rintro v L' rfl
   refine G.nil (G.then_n (G.seq (G.region (G.ag rfl rfl (G.nil (G.then_n (G.ret ?_)))))))
   have e : nextZ δ M = ((δ.write (M.count % 2) M.sec).1.sync.1, 0) := by unfold nextZ; rw [if_neg (by simpa using h2_22), if_neg (by simpa using h29)]
   rw [e]
   rw [if_pos rfl, ← hMc]
   exact G.dn (l := [.tmp 4]) rfl rfl ⟨rfl, rfl⟩

theorem strs_cell (l : List Bs) : ∀ y ∈ strs l, isCell y = true := by
  intro y hy; obtain ⟨c, -, rfl⟩ := List.mem_map.1 hy; rfl
theorem seal_spec (x d : Nat) (vr vb : Value) (ω : Wl) (δ : Dk) (area : Int) (v1 v2 : Value) (l : List Bs) (p q : HP) (hc : 0 ≤ ω.count ∧ ω.count ≤ 4294967295) (hA : δ.acts + 10 < 4611686018427387904) (hl : (laidZ l).length ≤ 4000000) (hp : ∀ h : Hp, p h → rdS 1 h v1 l.length (strs l)) (hq : ∀ h : Hp, q h → rdS 1 h v2 (laidZ l).length (bysL (laidZ l))) :
    Fn Tryz.prog 105 #[vptr x, vint area, v1, v2] [ptc x (wc d vr ω.synced vb ω.area ω.count ω.a ω.b ω.doubt) 142, dkR d δ, p, q] fun v L => (∃ δ', sealZ δ ω area l = (δ', ω, 2) ∧ v = vint 2 ∧ L = [ptc x (wc d vr ω.synced vb ω.area ω.count ω.a ω.b ω.doubt) 142, dkR d δ', p, q]) ∨
      (∃ δ', sealZ δ ω area l = (δ', { ω with recs := l, synced := l.length, area := area, count := ω.count + 1 }, 0) ∧ v = vint 0 ∧ ∃ vr' vb', L = [ptc x (wc d vr' l.length vb' area (ω.count + 1) ω.a ω.b ω.doubt) 142, dkR d δ', strR vr' l, bytR vb' (laidZ l), p, q]) := by
 refine Fn.intro (vs := [vptr x, vint area, v1, v2]) Tryz.func105 rfl rfl ?_
 intro F W
 have hsk := sync_keeps δ
 have hll := laidZ_many l
 refine G.rdAny (p := p) hp (by (repeat' constructor)) fun ap cp e _ => ?_
 subst e
 refine G.rdAny (p := q) hq (by (repeat' constructor)) fun aq cq e _ => ?_
 subst e
 refine G.seq (G.region (G.ag rfl rfl (G.nil (G.then_n (G.seq (G.seq (G.region (G.mv rfl rfl (G.q (Quiet.nilp rfl) rfl (G.q (Quiet.fieldAddr rfl fo_142_0) rfl ?_))))))))))
 refine G.q (Quiet.ld rfl ag_24) rfl ?_
 refine G.oq (OpSpec.call Tryz.func86 rfl rfl (vs := [_]) rfl (sync_spec d δ (by omega))) ?nx6
 rintro v L' ⟨rfl, rfl⟩
 refine G.q (Quiet.int rfl rfl rfl) rfl (G.nil (G.then_n ?_))
 refine G.condN rfl (fun h15 => ?_) (fun h15 => ?_)
 ·refine G.seq (G.region (G.ag rfl rfl (G.nil (G.then_n (G.ret (G.then_r ?_))))))
  have e : sealZ δ ω area l = (δ.sync.1, ω, 2) := by unfold sealZ; rw [if_pos (by simpa using h15)]
  exact G.dn (l := [.tmp 8]) rfl rfl (.inl ⟨_, e, rfl, rfl⟩)
 ·refine G.skip (G.then_n (G.seq (G.seq ?_)))
  refine G.draw [15] [[0, 1, 2, 3, 4, 5, 6, 7, 8, 9, 10, 11, 12, 13, 14, 15], [16]] mixed (by kernel_rfl) ?_
  refine Phases.go [] (by (repeat' constructor)) ?_
  refine D.kw [15] rfl (Quiet.move rfl) ?_
  refine D.kw [14, 15] rfl (Quiet.move rfl) ?_
  refine D.kw [3, 14, 15] rfl (Quiet.move rfl) ?_
  refine D.kw [14, 15] rfl (Quiet.slen rfl Tryz.underlying125 rfl) ?_
  refine D.kw [5, 14, 15] rfl (Quiet.move rfl) ?_
  refine D.kw [14, 15] rfl (Quiet.slen rfl Tryz.underlying46 rfl) ?_
  refine D.kw [7, 8, 9, 14, 15] rfl (Quiet.move rfl) ?_
  refine D.kw [8, 9, 14, 15] rfl (Quiet.nilp rfl) ?_
  refine D.kw [9, 14, 15] rfl (Quiet.fieldAddr rfl fo_142_6) ?_
  refine D.kw [14, 15] rfl (Quiet.ld rfl ag_3) ?_
  refine D.kw [11, 12, 13, 14, 15] rfl (Quiet.move rfl) ?_
  refine D.kw [12, 13, 14, 15] rfl (Quiet.nilp rfl) ?_
  refine D.kw [13, 14, 15] rfl (Quiet.fieldAddr rfl fo_142_7) ?_
  refine D.kw [14, 15] rfl (Quiet.ld rfl ag_3) ?_
  refine D.kw [15] rfl (Quiet.to (v' := .agg (mkC ⟨0, area, (laidZ l).length, l.length, ω.a, ω.b⟩).toArray) (Quiet.build (us := [(1, _), (2, _), (3, _), (4, _), (5, _)]) fl_139 ze_139 rfl rfl (by simp [isCell])) rfl) ?_
  refine D.h rfl (by kernel_rfl) (OpSpec.call Tryz.func140 rfl rfl (vs := [_, _]) rfl (next_spec x d vr ω.synced vb ω.area ω.count ω.a ω.b ω.doubt ⟨0, area, (laidZ l).length, l.length, ω.a, ω.b⟩ δ.sync.1 hc (by omega))) (by (repeat' constructor)) ?nx25
  rintro v L' ⟨rfl, rfl⟩; rw [show (⟨ω.count + 1, area, ((laidZ l).length : Int), (l.length : Int), ω.a, ω.b⟩ : Mk) = ω.mark area l ω.a ω.b from rfl]
  refine D.ph ?_
  refine Phases.go [] (by (repeat' constructor)) ?_
  refine D.kw [] rfl (Quiet.assign rfl) ?_
  refine D.ph (Phases.fin (G.then_n (G.seq (G.region (G.mv rfl rfl (G.q (Quiet.int rfl rfl rfl) rfl (G.nil (G.then_n ?_))))))))
  refine G.condN rfl (fun h33 => ?_) (fun h33 => ?_)
  ·refine G.seq (G.region (G.mv rfl rfl (G.ag rfl rfl (G.nil (G.then_n (G.ret (G.then_r ?_)))))))
   have e : sealZ δ ω area l = ((nextZ δ.sync.1 (ω.mark area l ω.a ω.b)).1, ω, 2) := by unfold sealZ; rw [if_neg (by simpa using h15), if_pos (by simpa using h33)]
   have hn2 : (nextZ δ.sync.1 (ω.mark area l ω.a ω.b)).2 = 2 := by rcases (nextZ_keeps δ.sync.1 (ω.mark area l ω.a ω.b)).2.2 with h | h; exact absurd h (by simpa using h33); exact h
   rw [hn2, if_neg (show ¬ (2 : Int) = 0 by decide)]
   exact G.dn (l := [.tmp 8]) rfl rfl (.inl ⟨_, e, rfl, rfl⟩)
  ·refine G.skip (G.then_n (G.seq ?_))
   have h33b : (nextZ δ.sync.1 (ω.mark area l ω.a ω.b)).2 = 0 := by simpa using h33
   rw [if_pos h33b]
   refine G.region (G.mv rfl rfl (G.mv rfl rfl (G.mv rfl rfl (G.mv rfl rfl (G.mv rfl rfl (G.mv rfl rfl ?_))))))
   refine G.oq (OpSpec.call Tryz.func116 rfl rfl (vs := [_]) rfl (cloneT_spec _ l.length (strs l) p hp ?h134 ?h235)) ?nx36
   case h134 => exact strs_cell l
   case h235 => omega
   rintro v L' ⟨⟨ar', cr', rfl⟩, rfl⟩
   refine G.mv rfl rfl ?_
   refine G.oq (OpSpec.call Tryz.func98 rfl rfl (vs := [_]) rfl (cloneB_spec _ (laidZ l).length (bysL (laidZ l)) q hq ?h139 ?h240)) ?nx41
   case h139 => exact bysL_cell _
   case h240 => omega
   rintro v L' ⟨⟨ab', cb', rfl⟩, rfl⟩
   refine G.mv rfl rfl (G.q (Quiet.slen rfl Tryz.underlying46 rfl) rfl (G.q (Quiet.nilp rfl) rfl (G.q (Quiet.fieldAddr rfl fo_142_4) rfl ?_)))
   refine G.oq (OpSpec.store rfl rfl rfl sz_3 ?c47 ?c48) ?nx49
   case c47 => first | decide | (simp; omega) | simp
   case c48 => exact nfz0 _ _
   rintro v L' rfl
   refine G.q (Quiet.nilp rfl) rfl (G.q (Quiet.fieldAddr rfl fo_142_1) rfl ?_)
   refine G.oq (OpSpec.store rfl rfl rfl sz_46 ?c52 ?c53) ?nx54
   case c52 => first | decide | (simp; omega) | simp
   case c53 => exact nfz0 _ _
   rintro v L' rfl
   refine G.q (Quiet.nilp rfl) rfl (G.q (Quiet.fieldAddr rfl fo_142_3) rfl ?_)
   refine G.oq (OpSpec.store rfl rfl rfl sz_125 ?c57 ?c58) ?nx59
   case c57 => first | decide | (simp; omega) | simp
   case c58 => exact nfz0 _ _
   rintro v L' rfl
   refine G.q (Quiet.nilp rfl) rfl (G.q (Quiet.fieldAddr rfl fo_142_2) rfl ?_)
   refine G.oq (OpSpec.store rfl rfl rfl sz_3 ?c62 ?c63) ?nx64
   case c62 => first | decide | (simp; omega) | simp
   case c63 => exact nfz0 _ _
   rintro v L' rfl
   refine G.nil (G.then_n (G.seq (G.region (G.ag rfl rfl (G.nil (G.then_n (G.ret ?_)))))))
   have e : sealZ δ ω area l = ((nextZ δ.sync.1 (ω.mark area l ω.a ω.b)).1, { ω with recs := l, synced := l.length, area := area, count := ω.count + 1 }, 0) := by unfold sealZ; rw [if_neg (by simpa using h15), if_neg (by simpa using h33)]
   exact G.dn (l := [.tmp 8]) rfl rfl (.inr ⟨_, e, rfl, _, _, rfl⟩)

end Go.Proofs.YtidjhgbdokcphaaGreat

/- Own work, by program: Append, Sync, Cut, Mark, what asks a log: walked. -/

namespace Go.Proofs.YtidjhgbdokcphaaGreat
open Go
theorem rd_take {arr : Option Addr} {n crr k : Nat} {T : TypeId} {l : List Bs} (hk : k ≤ n) (hn : n = l.length) : ∀ h : Hp, slR T 1 (.slice arr n crr) n (strs l) h → rdS 1 h (.slice arr k crr) (l.take k).length (strs (l.take k)) := by
  intro h hp
  have := slR_rd (slR_to hk hp)
  rw [show (l.take k).length = k by rw [List.length_take]; omega, show strs (l.take k) = (strs l).take k from List.map_take]
  exact this
theorem wsync_spec (x d : Nat) (ω : Wl) (δ : Dk) (hI : WlI δ ω) : Fn Tryz.prog 47 #[vptr x] [wlR x d ω, dkR d δ] fun v L => v = vint (syncZ δ ω).2.2 ∧ L = [wlR x d (syncZ δ ω).2.1, dkR d (syncZ δ ω).1] := by
 refine Fn.introD (vs := [vptr x]) Tryz.func47 rfl rfl ?_
 intro F W
 refine G.wlOpen (ω := ω) (by (repeat' constructor)) fun vr vb => ?_
 refine G.slAny (v := vr) (by (repeat' constructor)) fun arr crr e _ => ?_
 subst e
 refine G.slAny (v := vb) (by (repeat' constructor)) fun abb cbb e _ => ?_
 subst e
 refine G.slAddr (T := 9) (by (repeat' constructor)) fun hrc hra => ?_
 obtain ⟨hn, hA, har, hct, hsy, hfit⟩ := hI
 have hh := half_le hn
 have hll := laidZ_many ω.recs
 refine G.seq (G.region ?_)
 refine G.oq (OpSpec.alloc ze_25) ?nx1
 rintro v L' ⟨be, rfl, rfl⟩
 refine G.nil ?_
 refine G.ptCast (b := be) (l' := [vint 0]) (by (repeat' constructor)) rfl ?_
 refine G.then_n (G.seq (G.region (G.mv rfl rfl (G.defer (vs := [_, _]) rfl (G.nil (G.then_n (G.seq (G.block (G.seq (G.region (G.mv rfl rfl (G.q (Quiet.nilp rfl) rfl (G.q (Quiet.fieldAddr rfl fo_142_8) rfl ?_)))))))))))))
 refine G.q (Quiet.ld rfl ag_4) rfl ?_
 refine G.ag rfl rfl (G.nil (G.then_n ?_))
 refine G.condB rfl (fun h4 => ?_) (fun h4 => ?_)
 ·refine G.seq (G.region ?_)
  refine G.oq (OpSpec.store rfl rfl rfl sz_25 ?c8 ?c9) ?nx10
  case c8 => first | decide | (simp; omega) | simp
  case c9 => exact nfz0 _ _
  rintro v L' rfl
  refine G.nil ?_
  refine G.ptCast (b := be) (l' := [vint 34]) (by (repeat' constructor)) rfl ?_
  refine G.then_n (G.ret (G.blk_r (G.then_r ?_)))
  refine G.doneD Tryz.func96 rfl rfl (doubts_spec x d (.slice arr ω.recs.length crr) ω.synced (.slice abb (laidZ ω.recs).length cbb) ω.area ω.count ω.a ω.b ω.doubt be 34) (by (repeat' constructor)) ?_
  rintro u L' ⟨rfl, rfl⟩
  have e : syncZ δ ω = (δ, ω, 34) := by unfold syncZ; rw [if_pos h4]
  rw [e, if_neg (show ¬ (34 : Int) = 2 by decide)]
  refine G.wlFold (x := x) (d := d) (ω := ω) (by (repeat' constructor)) rfl rfl rfl rfl rfl ?_
  exact G.done1 rfl (.cell rfl ag_25 (by (repeat' constructor)) rfl) ⟨rfl, rfl⟩ (by (repeat' constructor)) (by (repeat' constructor))
 ·have hdb : ¬ ω.doubt = true := by rw [h4]; decide
  refine G.seq ?_
  refine G.draw [] [[0, 1, 2, 3, 4, 5, 6, 7, 8, 9, 10]] mixed (by kernel_rfl) ?_
  refine Phases.go [] (by (repeat' constructor)) ?_
  refine D.kw [1, 2, 3, 9, 10] rfl (Quiet.move rfl) ?_
  refine D.kw [2, 3, 9, 10] rfl (Quiet.nilp rfl) ?_
  refine D.kw [3, 9, 10] rfl (Quiet.fieldAddr rfl fo_142_2) ?_
  refine D.kw [9, 10] rfl (Quiet.ld rfl ag_3) ?_
  refine D.kw [5, 6, 7, 8, 9, 10] rfl (Quiet.move rfl) ?_
  refine D.kw [6, 7, 8, 9, 10] rfl (Quiet.nilp rfl) ?_
  refine D.kw [7, 8, 9, 10] rfl (Quiet.fieldAddr rfl fo_142_1) ?_
  refine D.kw [8, 9, 10] rfl (Quiet.ld rfl ag_46) ?_
  refine D.kw [9, 10] rfl (Quiet.slen rfl Tryz.underlying46 rfl) ?_
  refine D.kw [10] rfl (Quiet.int rfl rfl rfl) ?_
  refine D.kw [] rfl (Quiet.assign rfl) ?_
  refine D.ph (Phases.fin (G.then_n ?_))
  refine G.condD rfl (fun h9 => ?_) (fun h9 => ?_)
  ·refine G.seq (G.region ?_)
   refine G.oq (OpSpec.store rfl rfl rfl sz_25 ?c21 ?c22) ?nx23
   case c21 => first | decide | (simp; omega) | simp
   case c22 => exact nfz0 _ _
   rintro v L' rfl
   refine G.nil ?_
   refine G.ptCast (b := be) (l' := [vint 0]) (by (repeat' constructor)) rfl ?_
   refine G.then_n (G.ret (G.blk_r (G.then_r ?_)))
   refine G.doneD Tryz.func96 rfl rfl (doubts_spec x d (.slice arr ω.recs.length crr) ω.synced (.slice abb (laidZ ω.recs).length cbb) ω.area ω.count ω.a ω.b ω.doubt be 0) (by (repeat' constructor)) ?_
   rintro u L' ⟨rfl, rfl⟩
   have e : syncZ δ ω = (δ, ω, 0) := by unfold syncZ; rw [if_neg hdb, if_pos h9]
   rw [e, if_neg (show ¬ (0 : Int) = 2 by decide)]
   refine G.wlFold (x := x) (d := d) (ω := ω) (by (repeat' constructor)) rfl rfl rfl rfl rfl ?_
   exact G.done1 rfl (.cell rfl ag_25 (by (repeat' constructor)) rfl) ⟨rfl, rfl⟩ (by (repeat' constructor)) (by (repeat' constructor))
  ·refine G.seq (G.region (G.mv rfl rfl (G.q (Quiet.nilp rfl) rfl (G.q (Quiet.fieldAddr rfl fo_142_5) rfl ?_))))
   refine G.q (Quiet.ld rfl ag_3) rfl ?_
   refine G.q (Quiet.int rfl rfl rfl) rfl (G.ag rfl rfl (G.nil (G.then_n ?_)))
   refine G.condD rfl (fun h20 => ?_) (fun h20 => ?_)
   ·refine G.seq (G.region ?_)
    refine G.oq (OpSpec.store rfl rfl rfl sz_25 ?c29 ?c30) ?nx31
    case c29 => first | decide | (simp; omega) | simp
    case c30 => exact nfz0 _ _
    rintro v L' rfl
    refine G.nil ?_
    refine G.ptCast (b := be) (l' := [vint 30]) (by (repeat' constructor)) rfl ?_
    refine G.then_n (G.ret (G.blk_r (G.then_r ?_)))
    refine G.doneD Tryz.func96 rfl rfl (doubts_spec x d (.slice arr ω.recs.length crr) ω.synced (.slice abb (laidZ ω.recs).length cbb) ω.area ω.count ω.a ω.b ω.doubt be 30) (by (repeat' constructor)) ?_
    rintro u L' ⟨rfl, rfl⟩
    have e : syncZ δ ω = (δ, ω, 30) := by unfold syncZ; rw [if_neg hdb, if_neg h9, if_pos h20]
    rw [e, if_neg (show ¬ (30 : Int) = 2 by decide)]
    refine G.wlFold (x := x) (d := d) (ω := ω) (by (repeat' constructor)) rfl rfl rfl rfl rfl ?_
    exact G.done1 rfl (.cell rfl ag_25 (by (repeat' constructor)) rfl) ⟨rfl, rfl⟩ (by (repeat' constructor)) (by (repeat' constructor))
   ·refine G.skip (G.blk_n (G.then_n (G.seq ?_)))
    refine G.draw [13, 14] [[0, 1, 2, 3, 4, 5, 6, 7, 8, 9, 10, 11, 12, 13], [14]] mixed (by kernel_rfl) ?_
    refine Phases.go [] (by (repeat' constructor)) ?_
    refine D.kw [13] rfl (Quiet.move rfl) ?_
    refine D.kw [2, 3, 4, 13] rfl (Quiet.move rfl) ?_
    refine D.kw [3, 4, 13] rfl (Quiet.nilp rfl) ?_
    refine D.kw [4, 13] rfl (Quiet.fieldAddr rfl fo_142_4) ?_
    refine D.kw [13] rfl (Quiet.ld rfl ag_3) ?_
    refine D.kw [6, 7, 8, 13] rfl (Quiet.move rfl) ?_
    refine D.kw [7, 8, 13] rfl (Quiet.nilp rfl) ?_
    refine D.kw [8, 13] rfl (Quiet.fieldAddr rfl fo_142_1) ?_
    refine D.kw [13] rfl (Quiet.ld rfl ag_46) ?_
    refine D.kw [10, 11, 12, 13] rfl (Quiet.move rfl) ?_
    refine D.kw [11, 12, 13] rfl (Quiet.nilp rfl) ?_
    refine D.kw [12, 13] rfl (Quiet.fieldAddr rfl fo_142_3) ?_
    refine D.kw [13] rfl (Quiet.ld rfl ag_125) ?_
    refine D.h rfl (by kernel_rfl) (OpSpec.call Tryz.func105 rfl rfl (vs := [_, _, _, _]) rfl (seal_spec x d (.slice arr ω.recs.length crr) (.slice abb (laidZ ω.recs).length cbb) ω δ ω.area (.slice arr ω.recs.length crr) (.slice abb (laidZ ω.recs).length cbb) ω.recs (strR (.slice arr ω.recs.length crr) ω.recs) (bytR (.slice abb (laidZ ω.recs).length cbb) (laidZ ω.recs)) hct (by omega) ?hl45 ?hp46 ?hq47)) (by (repeat' constructor)) ?nx48
    case hl45 => omega
    case hp46 => exact fun h hp => slR_rd hp
    case hq47 => exact fun h hp => slR_rd hp
    rintro v L' (⟨δ', hs, rfl, rfl⟩ | ⟨δ', hs, rfl, vr', vb', rfl⟩)
    ·refine D.ph ?_
     refine Phases.go [] (by (repeat' constructor)) ?_
     refine D.h rfl (by kernel_rfl) (OpSpec.store rfl rfl rfl sz_25 ?c50 ?c51) (by (repeat' constructor)) ?nx52
     case c50 => first | decide | (simp; omega) | simp
     case c51 => exact nfz0 _ _
     rintro v L' rfl
     refine D.ph (Phases.fin ?_)
     refine G.ptCast (b := be) (l' := [vint 2]) (by (repeat' constructor)) rfl ?_
     refine G.then_n (G.ret ?_)
     refine G.doneD Tryz.func96 rfl rfl (doubts_spec x d (.slice arr ω.recs.length crr) ω.synced (.slice abb (laidZ ω.recs).length cbb) ω.area ω.count ω.a ω.b ω.doubt be 2) (by (repeat' constructor)) ?_
     rintro u L' ⟨rfl, rfl⟩
     have e : syncZ δ ω = (δ', { ω with doubt := true }, 2) := by unfold syncZ; rw [if_neg hdb, if_neg h9, if_neg h20, hs]; rfl
     rw [e, if_pos rfl]
     refine G.wlFold (x := x) (d := d) (ω := { ω with doubt := true }) (by (repeat' constructor)) rfl rfl rfl rfl rfl ?_
     exact G.done1 rfl (.cell rfl ag_25 (by (repeat' constructor)) rfl) ⟨rfl, rfl⟩ (by (repeat' constructor)) (by (repeat' constructor))
    ·refine D.ph ?_
     refine Phases.go [] (by (repeat' constructor)) ?_
     refine D.h rfl (by kernel_rfl) (OpSpec.store rfl rfl rfl sz_25 ?c54 ?c55) (by (repeat' constructor)) ?nx56
     case c54 => first | decide | (simp; omega) | simp
     case c55 => exact nfz0 _ _
     rintro v L' rfl
     refine D.ph (Phases.fin ?_)
     refine G.ptCast (b := be) (l' := [vint 0]) (by (repeat' constructor)) rfl ?_
     refine G.then_n (G.ret ?_)
     refine G.doneD Tryz.func96 rfl rfl (doubts_spec x d vr' _ vb' _ _ _ _ _ be 0) (by (repeat' constructor)) ?_
     rintro u L' ⟨rfl, rfl⟩
     have e : syncZ δ ω = (δ', { ω with synced := ω.recs.length, count := ω.count + 1 }, 0) := by unfold syncZ; rw [if_neg hdb, if_neg h9, if_neg h20, hs]; rfl
     rw [e, if_neg (show ¬ (0 : Int) = 2 by decide)]
     refine G.wlFold (x := x) (d := d) (ω := { ω with synced := ω.recs.length, count := ω.count + 1 }) (by (repeat' constructor)) rfl rfl rfl rfl rfl ?_
     exact G.done1 rfl (.cell rfl ag_25 (by (repeat' constructor)) rfl) ⟨rfl, rfl⟩ (by (repeat' constructor)) (by (repeat' constructor))

theorem wcut_spec (x d : Nat) (ω : Wl) (δ : Dk) (n : Int) (hI : WlI δ ω) : Fn Tryz.prog 75 #[vptr x, vint n] [wlR x d ω, dkR d δ] fun v L => v = vint (cutZ δ ω n).2.2 ∧ L = [wlR x d (cutZ δ ω n).2.1, dkR d (cutZ δ ω n).1] := by
 refine Fn.introD (vs := [vptr x, vint n]) Tryz.func75 rfl rfl ?_
 intro F W
 refine G.wlOpen (ω := ω) (by (repeat' constructor)) fun vr vb => ?_
 refine G.slAny (v := vr) (by (repeat' constructor)) fun arr crr e _ => ?_
 subst e
 refine G.slAny (v := vb) (by (repeat' constructor)) fun abb cbb e _ => ?_
 subst e
 refine G.slAddr (T := 9) (by (repeat' constructor)) fun hrc hra => ?_
 obtain ⟨hn, hA, har, hct, hsy, hfit⟩ := hI
 have hh := half_le hn
 have hll := laidZ_many ω.recs
 refine G.seq (G.region ?_)
 refine G.oq (OpSpec.alloc ze_25) ?nx1
 rintro v L' ⟨be, rfl, rfl⟩
 refine G.nil ?_
 refine G.ptCast (b := be) (l' := [vint 0]) (by (repeat' constructor)) rfl ?_
 refine G.then_n (G.seq (G.region (G.mv rfl rfl (G.defer (vs := [_, _]) rfl (G.nil (G.then_n (G.seq (G.block (G.seq (G.region (G.mv rfl rfl (G.q (Quiet.nilp rfl) rfl (G.q (Quiet.fieldAddr rfl fo_142_8) rfl ?_)))))))))))))
 refine G.q (Quiet.ld rfl ag_4) rfl ?_
 refine G.ag rfl rfl (G.nil (G.then_n ?_))
 refine G.condB rfl (fun h6 => ?_) (fun h6 => ?_)
 ·refine G.seq (G.region ?_)
  refine G.oq (OpSpec.store rfl rfl rfl sz_25 ?c8 ?c9) ?nx10
  case c8 => first | decide | (simp; omega) | simp
  case c9 => exact nfz0 _ _
  rintro v L' rfl
  refine G.nil ?_
  refine G.ptCast (b := be) (l' := [vint 34]) (by (repeat' constructor)) rfl ?_
  refine G.then_n (G.ret (G.blk_r (G.then_r ?_)))
  refine G.doneD Tryz.func96 rfl rfl (doubts_spec x d (.slice arr ω.recs.length crr) ω.synced (.slice abb (laidZ ω.recs).length cbb) ω.area ω.count ω.a ω.b ω.doubt be 34) (by (repeat' constructor)) ?_
  rintro u L' ⟨rfl, rfl⟩
  have e : cutZ δ ω n = (δ, ω, 34) := by unfold cutZ; rw [if_pos h6]
  rw [e, if_neg (show ¬ (34 : Int) = 2 by decide)]
  refine G.wlFold (x := x) (d := d) (ω := ω) (by (repeat' constructor)) rfl rfl rfl rfl rfl ?_
  exact G.done1 rfl (.cell rfl ag_25 (by (repeat' constructor)) rfl) ⟨rfl, rfl⟩ (by (repeat' constructor)) (by (repeat' constructor))
 ·have hdb : ¬ ω.doubt = true := by rw [h6]; decide
  refine G.seq (G.region (G.mv rfl rfl (G.q (Quiet.int rfl rfl rfl) rfl (G.mv rfl rfl ?_))))
  refine G.dec (t := 14) rfl (fun h4_14 => ?_) (fun h4_14 => ?_)
  ·refine G.kDT (t := 13) rfl h4_14 (G.gskip (t := 14) rfl rfl rfl rfl (G.gskip (t := 14) rfl rfl rfl rfl (G.gskip (t := 14) rfl rfl rfl rfl (G.gskip (t := 14) rfl rfl rfl rfl (G.gskip (t := 14) rfl rfl rfl rfl (G.gskip (t := 14) rfl rfl rfl rfl (G.gskip (t := 14) rfl rfl rfl rfl (G.q (Quiet.pickT rfl rfl) rfl (G.ag rfl rfl (G.nil (G.then_n (G.condT rfl (G.seq (G.region ?_))))))))))))))
   refine G.oq (OpSpec.store rfl rfl rfl sz_25 ?c14 ?c15) ?nx16
   case c14 => first | decide | (simp; omega) | simp
   case c15 => exact nfz0 _ _
   rintro v L' rfl
   refine G.nil ?_
   refine G.ptCast (b := be) (l' := [vint 32]) (by (repeat' constructor)) rfl ?_
   refine G.then_n (G.ret (G.blk_r (G.then_r ?_)))
   refine G.doneD Tryz.func96 rfl rfl (doubts_spec x d (.slice arr ω.recs.length crr) ω.synced (.slice abb (laidZ ω.recs).length cbb) ω.area ω.count ω.a ω.b ω.doubt be 32) (by (repeat' constructor)) ?_
   rintro u L' ⟨rfl, rfl⟩
   have e : cutZ δ ω n = (δ, ω, 32) := by unfold cutZ; rw [if_neg hdb, if_pos (by first | exact .inl h4_14 | exact .inr h11)]
   rw [e, if_neg (show ¬ (32 : Int) = 2 by decide)]
   refine G.wlFold (x := x) (d := d) (ω := ω) (by (repeat' constructor)) rfl rfl rfl rfl rfl ?_
   exact G.done1 rfl (.cell rfl ag_25 (by (repeat' constructor)) rfl) ⟨rfl, rfl⟩ (by (repeat' constructor)) (by (repeat' constructor))
  ·refine G.kDF (t := 13) rfl h4_14 (G.grun (t := 14) rfl rfl rfl (G.mv rfl rfl (G.grun (t := 14) rfl rfl rfl (G.mv rfl rfl (G.grun (t := 14) rfl rfl rfl (G.q (Quiet.nilp rfl) rfl (G.grun (t := 14) rfl rfl rfl (G.q (Quiet.fieldAddr rfl fo_142_1) rfl (G.grun (t := 14) rfl rfl rfl ?_)))))))))
   refine G.q (Quiet.ld rfl ag_46) rfl ?_
   refine G.grun (t := 14) rfl rfl rfl (G.q (Quiet.slen rfl Tryz.underlying46 rfl) rfl (G.grun (t := 14) rfl rfl rfl (G.q (Quiet.int rfl rfl rfl) rfl (G.q (Quiet.pickF rfl rfl) rfl (G.ag rfl rfl (G.nil (G.then_n ?_)))))))
   refine G.condD rfl (fun h11 => ?_) (fun h11 => ?_)
   ·refine G.seq (G.region ?_)
    refine G.oq (OpSpec.store rfl rfl rfl sz_25 ?c24 ?c25) ?nx26
    case c24 => first | decide | (simp; omega) | simp
    case c25 => exact nfz0 _ _
    rintro v L' rfl
    refine G.nil ?_
    refine G.ptCast (b := be) (l' := [vint 32]) (by (repeat' constructor)) rfl ?_
    refine G.then_n (G.ret (G.blk_r (G.then_r ?_)))
    refine G.doneD Tryz.func96 rfl rfl (doubts_spec x d (.slice arr ω.recs.length crr) ω.synced (.slice abb (laidZ ω.recs).length cbb) ω.area ω.count ω.a ω.b ω.doubt be 32) (by (repeat' constructor)) ?_
    rintro u L' ⟨rfl, rfl⟩
    have e : cutZ δ ω n = (δ, ω, 32) := by unfold cutZ; rw [if_neg hdb, if_pos (by first | exact .inl h4_14 | exact .inr h11)]
    rw [e, if_neg (show ¬ (32 : Int) = 2 by decide)]
    refine G.wlFold (x := x) (d := d) (ω := ω) (by (repeat' constructor)) rfl rfl rfl rfl rfl ?_
    exact G.done1 rfl (.cell rfl ag_25 (by (repeat' constructor)) rfl) ⟨rfl, rfl⟩ (by (repeat' constructor)) (by (repeat' constructor))
   ·refine G.seq ?_
    have hin : ¬ (n < 0 ∨ n > ω.recs.length) := by rintro (h | h) <;> omega
    have htl := laidZ_take_len ω.recs n.toNat
    have hkl : (ω.recs.take n.toNat).length = n.toNat := by rw [List.length_take]; omega
    refine G.region (G.mv rfl rfl (G.q (Quiet.nilp rfl) rfl (G.q (Quiet.fieldAddr rfl fo_142_5) rfl ?_)))
    refine G.q (Quiet.ld rfl ag_3) rfl ?_
    refine G.q (Quiet.int rfl rfl rfl) rfl (G.ag rfl rfl (G.nil (G.then_n ?_)))
    refine G.condD rfl (fun h23 => ?_) (fun h23 => ?_)
    ·refine G.seq (G.region ?_)
     refine G.oq (OpSpec.store rfl rfl rfl sz_25 ?c32 ?c33) ?nx34
     case c32 => first | decide | (simp; omega) | simp
     case c33 => exact nfz0 _ _
     rintro v L' rfl
     refine G.nil ?_
     refine G.ptCast (b := be) (l' := [vint 30]) (by (repeat' constructor)) rfl ?_
     refine G.then_n (G.ret (G.blk_r (G.then_r ?_)))
     refine G.doneD Tryz.func96 rfl rfl (doubts_spec x d (.slice arr ω.recs.length crr) ω.synced (.slice abb (laidZ ω.recs).length cbb) ω.area ω.count ω.a ω.b ω.doubt be 30) (by (repeat' constructor)) ?_
     rintro u L' ⟨rfl, rfl⟩
     have e : cutZ δ ω n = (δ, ω, 30) := by unfold cutZ; rw [if_neg hdb, if_neg hin, if_pos h23]
     rw [e, if_neg (show ¬ (30 : Int) = 2 by decide)]
     refine G.wlFold (x := x) (d := d) (ω := ω) (by (repeat' constructor)) rfl rfl rfl rfl rfl ?_
     exact G.done1 rfl (.cell rfl ag_25 (by (repeat' constructor)) rfl) ⟨rfl, rfl⟩ (by (repeat' constructor)) (by (repeat' constructor))
    ·refine G.skip (G.blk_n (G.then_n (G.seq ?_)))
     refine G.draw [17, 18, 19] [[0, 1, 2, 3, 4, 5, 6, 7, 8, 9, 10, 11, 12, 13, 14, 15, 16, 17], [18], [19]] mixed (by kernel_rfl) ?_
     refine Phases.go [ptc x _ _] (by (repeat' constructor)) ?_
     refine D.k rfl (Quiet.move rfl) ?_
     refine D.k rfl (Quiet.move rfl) ?_
     refine D.k rfl (Quiet.nilp rfl) ?_
     refine D.k rfl (Quiet.fieldAddr rfl fo_142_4) ?_
     refine D.k rfl (Quiet.ld rfl ag_3) ?_
     refine D.k rfl (Quiet.move rfl) ?_
     refine D.k rfl (Quiet.nilp rfl) ?_
     refine D.k rfl (Quiet.fieldAddr rfl fo_142_1) ?_
     refine D.k rfl (Quiet.ld rfl ag_46) ?_
     refine D.k rfl (Quiet.move rfl) ?_
     refine D.k rfl (Quiet.slTo (j := n) rfl el_46 rfl (by omega) hra) ?_
     refine D.kw [12, 13, 14, 16, 17] rfl (Quiet.move rfl) ?_
     refine D.kw [13, 14, 16, 17] rfl (Quiet.nilp rfl) ?_
     refine D.kw [14, 16, 17] rfl (Quiet.fieldAddr rfl fo_142_1) ?_
     refine D.kw [16, 17] rfl (Quiet.ld rfl ag_46) ?_
     refine D.kw [16, 17] rfl (Quiet.move rfl) ?_
     refine D.kw [17] rfl (Quiet.slTo (j := n) rfl el_46 rfl (by omega) hra) ?_
     refine D.h rfl (by kernel_rfl) (OpSpec.call Tryz.func134 rfl rfl (vs := [_]) rfl (laid_spec (.slice arr n.toNat crr) (ω.recs.take n.toNat) (strR (.slice arr ω.recs.length crr) ω.recs) ?hr52 ?hl53)) (by (repeat' constructor)) ?nx54
     case hr52 => exact rd_take (by omega) rfl
     case hl53 => omega
     rintro v L' ⟨⟨al, cl, rfl⟩, rfl⟩
     refine D.ph ?_
     refine Phases.go [] (by (repeat' constructor)) ?_
     refine D.h rfl (by kernel_rfl) (OpSpec.call Tryz.func105 rfl rfl (vs := [_, _, _, _]) rfl (seal_spec x d (.slice arr ω.recs.length crr) (.slice abb (laidZ ω.recs).length cbb) ω δ ω.area (.slice arr n.toNat crr) (.slice al (laidZ (ω.recs.take n.toNat)).length cl) (ω.recs.take n.toNat) (strR (.slice arr ω.recs.length crr) ω.recs) (bytR (.slice al (laidZ (ω.recs.take n.toNat)).length cl) (laidZ (ω.recs.take n.toNat))) hct (by omega) ?hl56 ?hp57 ?hq58)) (by (repeat' constructor)) ?nx59
     case hl56 => omega
     case hp57 => exact rd_take (by omega) rfl
     case hq58 => exact fun h hp => slR_rd hp
     rintro v L' (⟨δ', hs, rfl, rfl⟩ | ⟨δ', hs, rfl, vr', vb', rfl⟩)
     ·refine D.ph ?_
      refine Phases.go [] (by (repeat' constructor)) ?_
      refine D.h rfl (by kernel_rfl) (OpSpec.store rfl rfl rfl sz_25 ?c61 ?c62) (by (repeat' constructor)) ?nx63
      case c61 => first | decide | (simp; omega) | simp
      case c62 => exact nfz0 _ _
      rintro v L' rfl
      refine D.ph (Phases.fin ?_)
      refine G.ptCast (b := be) (l' := [vint 2]) (by (repeat' constructor)) rfl ?_
      refine G.then_n (G.ret ?_)
      refine G.doneD Tryz.func96 rfl rfl (doubts_spec x d (.slice arr ω.recs.length crr) ω.synced (.slice abb (laidZ ω.recs).length cbb) ω.area ω.count ω.a ω.b ω.doubt be 2) (by (repeat' constructor)) ?_
      rintro u L' ⟨rfl, rfl⟩
      have e : cutZ δ ω n = (δ', { ω with doubt := true }, 2) := by unfold cutZ; rw [if_neg hdb, if_neg hin, if_neg h23, hs]; rfl
      rw [e, if_pos rfl]
      refine G.wlFold (x := x) (d := d) (ω := { ω with doubt := true }) (by (repeat' constructor)) rfl rfl rfl rfl rfl ?_
      exact G.done1 rfl (.cell rfl ag_25 (by (repeat' constructor)) rfl) ⟨rfl, rfl⟩ (by (repeat' constructor)) (by (repeat' constructor))
     ·refine D.ph ?_
      refine Phases.go [] (by (repeat' constructor)) ?_
      refine D.h rfl (by kernel_rfl) (OpSpec.store rfl rfl rfl sz_25 ?c65 ?c66) (by (repeat' constructor)) ?nx67
      case c65 => first | decide | (simp; omega) | simp
      case c66 => exact nfz0 _ _
      rintro v L' rfl
      refine D.ph (Phases.fin ?_)
      refine G.ptCast (b := be) (l' := [vint 0]) (by (repeat' constructor)) rfl ?_
      refine G.then_n (G.ret ?_)
      refine G.doneD Tryz.func96 rfl rfl (doubts_spec x d vr' _ vb' _ _ _ _ _ be 0) (by (repeat' constructor)) ?_
      rintro u L' ⟨rfl, rfl⟩
      have e : cutZ δ ω n = (δ', { ω with recs := ω.recs.take n.toNat, synced := (ω.recs.take n.toNat).length, count := ω.count + 1 }, 0) := by unfold cutZ; rw [if_neg hdb, if_neg hin, if_neg h23, hs]; rfl
      rw [e, if_neg (show ¬ (0 : Int) = 2 by decide)]
      refine G.wlFold (x := x) (d := d) (ω := { ω with recs := ω.recs.take n.toNat, synced := (ω.recs.take n.toNat).length, count := ω.count + 1 }) (by (repeat' constructor)) rfl rfl rfl rfl rfl ?_
      exact G.done1 rfl (.cell rfl ag_25 (by (repeat' constructor)) rfl) ⟨rfl, rfl⟩ (by (repeat' constructor)) (by (repeat' constructor))

theorem wmark_spec (x d : Nat) (ω : Wl) (δ : Dk) (a b : Int) (hI : WlI δ ω) : Fn Tryz.prog 83 #[vptr x, vint a, vint b] [wlR x d ω, dkR d δ] fun v L => v = vint (setmZ δ ω a b).2.2 ∧ L = [wlR x d (setmZ δ ω a b).2.1, dkR d (setmZ δ ω a b).1] := by
 refine Fn.introD (vs := [vptr x, vint a, vint b]) Tryz.func83 rfl rfl ?_
 intro F W
 refine G.wlOpen (ω := ω) (by (repeat' constructor)) fun vr vb => ?_
 refine G.slAny (v := vr) (by (repeat' constructor)) fun arr crr e _ => ?_
 subst e
 refine G.slAny (v := vb) (by (repeat' constructor)) fun abb cbb e _ => ?_
 subst e
 refine G.slAddr (T := 9) (by (repeat' constructor)) fun hrc hra => ?_
 obtain ⟨hn, hA, har, hct, hsy, hfit⟩ := hI
 have hh := half_le hn
 have hll := laidZ_many ω.recs
 refine G.seq (G.region ?_)
 refine G.oq (OpSpec.alloc ze_25) ?nx1
 rintro v L' ⟨be, rfl, rfl⟩
 refine G.nil ?_
 refine G.ptCast (b := be) (l' := [vint 0]) (by (repeat' constructor)) rfl ?_
 refine G.then_n (G.seq (G.region (G.mv rfl rfl (G.defer (vs := [_, _]) rfl (G.nil (G.then_n (G.seq (G.block (G.seq (G.region (G.mv rfl rfl (G.q (Quiet.nilp rfl) rfl (G.q (Quiet.fieldAddr rfl fo_142_8) rfl ?_)))))))))))))
 refine G.q (Quiet.ld rfl ag_4) rfl ?_
 refine G.ag rfl rfl (G.nil (G.then_n ?_))
 refine G.condB rfl (fun h9 => ?_) (fun h9 => ?_)
 ·refine G.seq (G.region ?_)
  refine G.oq (OpSpec.store rfl rfl rfl sz_25 ?c8 ?c9) ?nx10
  case c8 => first | decide | (simp; omega) | simp
  case c9 => exact nfz0 _ _
  rintro v L' rfl
  refine G.nil ?_
  refine G.ptCast (b := be) (l' := [vint 34]) (by (repeat' constructor)) rfl ?_
  refine G.then_n (G.ret (G.blk_r (G.then_r ?_)))
  refine G.doneD Tryz.func96 rfl rfl (doubts_spec x d (.slice arr ω.recs.length crr) ω.synced (.slice abb (laidZ ω.recs).length cbb) ω.area ω.count ω.a ω.b ω.doubt be 34) (by (repeat' constructor)) ?_
  rintro u L' ⟨rfl, rfl⟩
  have e : setmZ δ ω a b = (δ, ω, 34) := by unfold setmZ; rw [if_pos h9]
  rw [e, if_neg (show ¬ (34 : Int) = 2 by decide)]
  refine G.wlFold (x := x) (d := d) (ω := ω) (by (repeat' constructor)) rfl rfl rfl rfl rfl ?_
  exact G.done1 rfl (.cell rfl ag_25 (by (repeat' constructor)) rfl) ⟨rfl, rfl⟩ (by (repeat' constructor)) (by (repeat' constructor))
 ·have hdb : ¬ ω.doubt = true := by rw [h9]; decide
  refine G.seq (G.region (G.mv rfl rfl (G.q (Quiet.int rfl rfl rfl) rfl (G.mv rfl rfl ?_))))
  refine G.dec (t := 17) rfl (fun h4_17 => ?_) (fun h4_17 => ?_)
  ·refine G.kDT (t := 16) rfl h4_17 (G.gskip (t := 17) rfl rfl rfl rfl (G.gskip (t := 17) rfl rfl rfl rfl (G.q (Quiet.pickT rfl rfl) rfl (G.ag rfl rfl (G.nil (G.then_n (G.condT rfl (G.seq (G.region ?_)))))))))
   refine G.oq (OpSpec.store rfl rfl rfl sz_25 ?c14 ?c15) ?nx16
   case c14 => first | decide | (simp; omega) | simp
   case c15 => exact nfz0 _ _
   rintro v L' rfl
   refine G.nil ?_
   refine G.ptCast (b := be) (l' := [vint 1]) (by (repeat' constructor)) rfl ?_
   refine G.then_n (G.ret (G.blk_r (G.then_r ?_)))
   refine G.doneD Tryz.func96 rfl rfl (doubts_spec x d (.slice arr ω.recs.length crr) ω.synced (.slice abb (laidZ ω.recs).length cbb) ω.area ω.count ω.a ω.b ω.doubt be 1) (by (repeat' constructor)) ?_
   rintro u L' ⟨rfl, rfl⟩
   have e : setmZ δ ω a b = (δ, ω, 1) := by unfold setmZ; rw [if_neg hdb, if_pos (by first | exact .inl h4_17 | exact .inr h14)]
   rw [e, if_neg (show ¬ (1 : Int) = 2 by decide)]
   refine G.wlFold (x := x) (d := d) (ω := ω) (by (repeat' constructor)) rfl rfl rfl rfl rfl ?_
   exact G.done1 rfl (.cell rfl ag_25 (by (repeat' constructor)) rfl) ⟨rfl, rfl⟩ (by (repeat' constructor)) (by (repeat' constructor))
  ·refine G.kDF (t := 16) rfl h4_17 (G.grun (t := 17) rfl rfl rfl (G.mv rfl rfl (G.grun (t := 17) rfl rfl rfl (G.q (Quiet.int rfl rfl rfl) rfl (G.q (Quiet.pickF rfl rfl) rfl (G.ag rfl rfl (G.nil (G.then_n ?_))))))))
   refine G.condD rfl (fun h14 => ?_) (fun h14 => ?_)
   ·refine G.seq (G.region ?_)
    refine G.oq (OpSpec.store rfl rfl rfl sz_25 ?c19 ?c20) ?nx21
    case c19 => first | decide | (simp; omega) | simp
    case c20 => exact nfz0 _ _
    rintro v L' rfl
    refine G.nil ?_
    refine G.ptCast (b := be) (l' := [vint 1]) (by (repeat' constructor)) rfl ?_
    refine G.then_n (G.ret (G.blk_r (G.then_r ?_)))
    refine G.doneD Tryz.func96 rfl rfl (doubts_spec x d (.slice arr ω.recs.length crr) ω.synced (.slice abb (laidZ ω.recs).length cbb) ω.area ω.count ω.a ω.b ω.doubt be 1) (by (repeat' constructor)) ?_
    rintro u L' ⟨rfl, rfl⟩
    have e : setmZ δ ω a b = (δ, ω, 1) := by unfold setmZ; rw [if_neg hdb, if_pos (by first | exact .inl h4_17 | exact .inr h14)]
    rw [e, if_neg (show ¬ (1 : Int) = 2 by decide)]
    refine G.wlFold (x := x) (d := d) (ω := ω) (by (repeat' constructor)) rfl rfl rfl rfl rfl ?_
    exact G.done1 rfl (.cell rfl ag_25 (by (repeat' constructor)) rfl) ⟨rfl, rfl⟩ (by (repeat' constructor)) (by (repeat' constructor))
   ·refine G.seq ?_
    have hin : ¬ (a < 0 ∨ b < 0) := by rintro (h | h) <;> omega
    have htl := laidZ_take_len ω.recs ω.synced.toNat
    have hkl : (ω.recs.take ω.synced.toNat).length = ω.synced.toNat := by rw [List.length_take]; omega
    refine G.region (G.mv rfl rfl (G.q (Quiet.nilp rfl) rfl (G.q (Quiet.fieldAddr rfl fo_142_5) rfl ?_)))
    refine G.q (Quiet.ld rfl ag_3) rfl ?_
    refine G.q (Quiet.int rfl rfl rfl) rfl (G.ag rfl rfl (G.nil (G.then_n ?_)))
    refine G.condD rfl (fun h21 => ?_) (fun h21 => ?_)
    ·refine G.seq (G.region ?_)
     refine G.oq (OpSpec.store rfl rfl rfl sz_25 ?c27 ?c28) ?nx29
     case c27 => first | decide | (simp; omega) | simp
     case c28 => exact nfz0 _ _
     rintro v L' rfl
     refine G.nil ?_
     refine G.ptCast (b := be) (l' := [vint 30]) (by (repeat' constructor)) rfl ?_
     refine G.then_n (G.ret (G.blk_r (G.then_r ?_)))
     refine G.doneD Tryz.func96 rfl rfl (doubts_spec x d (.slice arr ω.recs.length crr) ω.synced (.slice abb (laidZ ω.recs).length cbb) ω.area ω.count ω.a ω.b ω.doubt be 30) (by (repeat' constructor)) ?_
     rintro u L' ⟨rfl, rfl⟩
     have e : setmZ δ ω a b = (δ, ω, 30) := by unfold setmZ; rw [if_neg hdb, if_neg hin, if_pos h21]
     rw [e, if_neg (show ¬ (30 : Int) = 2 by decide)]
     refine G.wlFold (x := x) (d := d) (ω := ω) (by (repeat' constructor)) rfl rfl rfl rfl rfl ?_
     exact G.done1 rfl (.cell rfl ag_25 (by (repeat' constructor)) rfl) ⟨rfl, rfl⟩ (by (repeat' constructor)) (by (repeat' constructor))
    ·refine G.skip (G.blk_n (G.then_n (G.seq (G.seq ?_))))
     refine G.draw [14, 23] [[0, 1, 2, 3, 4, 5, 6, 7, 8, 9, 10, 11, 12, 13, 16, 17, 18, 19, 20, 21, 14, 15, 22], [23], [24]] mixed (by kernel_rfl) ?_
     refine Phases.go [ptc x _ _] (by (repeat' constructor)) ?_
     refine D.k rfl (Quiet.move rfl) ?_
     refine D.k rfl (Quiet.move rfl) ?_
     refine D.k rfl (Quiet.nilp rfl) ?_
     refine D.k rfl (Quiet.fieldAddr rfl fo_142_4) ?_
     refine D.k rfl (Quiet.ld rfl ag_3) ?_
     refine D.kw [6, 7, 8, 13, 14, 15, 22] rfl (Quiet.move rfl) ?_
     refine D.kw [7, 8, 13, 14, 15, 22] rfl (Quiet.nilp rfl) ?_
     refine D.kw [8, 13, 14, 15, 22] rfl (Quiet.fieldAddr rfl fo_142_1) ?_
     refine D.kw [13, 14, 15, 22] rfl (Quiet.ld rfl ag_46) ?_
     refine D.kw [10, 11, 12, 13, 14, 15, 22] rfl (Quiet.move rfl) ?_
     refine D.kw [11, 12, 13, 14, 15, 22] rfl (Quiet.nilp rfl) ?_
     refine D.kw [12, 13, 14, 15, 22] rfl (Quiet.fieldAddr rfl fo_142_2) ?_
     refine D.kw [13, 14, 15, 22] rfl (Quiet.ld rfl ag_3) ?_
     refine D.kw [14, 15, 22] rfl (Quiet.slTo (j := ω.synced) rfl el_46 rfl (by omega) hra) ?_
     refine D.k rfl (Quiet.move rfl) ?_
     refine D.k rfl (Quiet.nilp rfl) ?_
     refine D.k rfl (Quiet.fieldAddr rfl fo_142_2) ?_
     refine D.k rfl (Quiet.ld rfl ag_3) ?_
     refine D.k rfl (Quiet.move rfl) ?_
     refine D.k rfl (Quiet.move rfl) ?_
     refine D.h rfl (by kernel_rfl) (OpSpec.call Tryz.func134 rfl rfl (vs := [_]) rfl (laid_spec (.slice arr ω.synced.toNat crr) (ω.recs.take ω.synced.toNat) (strR (.slice arr ω.recs.length crr) ω.recs) ?hr50 ?hl51)) (by (repeat' constructor)) ?nx52
     case hr50 => exact rd_take (by omega) rfl
     case hl51 => omega
     rintro v L' ⟨⟨al, cl, rfl⟩, rfl⟩
     refine D.kw [22] rfl (Quiet.slen rfl Tryz.underlying125 rfl) ?_
     refine D.kw [] rfl (Quiet.to (v' := .agg (mkC ⟨0, ω.area, (laidZ (ω.recs.take ω.synced.toNat)).length, ω.synced, a, b⟩).toArray) (Quiet.build (us := [(1, _), (2, _), (3, _), (4, _), (5, _)]) fl_139 ze_139 rfl rfl (by simp [isCell])) rfl) ?_
     refine D.ph ?_
     refine Phases.go [] (by (repeat' constructor)) ?_
     refine D.h rfl (by kernel_rfl) (OpSpec.call Tryz.func140 rfl rfl (vs := [_, _]) rfl (next_spec x d (.slice arr ω.recs.length crr) ω.synced (.slice abb (laidZ ω.recs).length cbb) ω.area ω.count ω.a ω.b ω.doubt ⟨0, ω.area, (laidZ (ω.recs.take ω.synced.toNat)).length, ω.synced, a, b⟩ δ hct (by omega))) (by (repeat' constructor)) ?nx56
     rintro v L' ⟨rfl, rfl⟩; rw [show (⟨ω.count + 1, ω.area, ((laidZ (ω.recs.take ω.synced.toNat)).length : Int), ω.synced, a, b⟩ : Mk) = (ω.mark ω.area (ω.recs.take ω.synced.toNat) a b) from by unfold Wl.mark; congr 1; omega]
     refine D.ph ?_
     refine Phases.go [] (by (repeat' constructor)) ?_
     refine D.kw [] rfl (Quiet.assign rfl) ?_
     refine D.ph (Phases.fin (G.then_n (G.seq (G.region (G.mv rfl rfl (G.q (Quiet.int rfl rfl rfl) rfl (G.nil (G.then_n ?_))))))))
     refine G.condN rfl (fun h52 => ?_) (fun h52 => ?_)
     ·refine G.seq (G.region (G.mv rfl rfl ?_))
      refine G.oq (OpSpec.store rfl rfl rfl sz_25 ?c59 ?c60) ?nx61
      case c59 => first | decide | (simp; omega) | simp
      case c60 => exact nfz0 _ _
      rintro v L' rfl
      refine G.nil ?_
      refine G.ptCast (b := be) (l' := [vint (nextZ δ (ω.mark ω.area (ω.recs.take ω.synced.toNat) a b)).2]) (by (repeat' constructor)) rfl ?_
      refine G.then_n (G.ret (G.then_r ?_))
      refine G.doneD Tryz.func96 rfl rfl (doubts_spec x d (.slice arr ω.recs.length crr) ω.synced (.slice abb (laidZ ω.recs).length cbb) ω.area (if (nextZ δ (ω.mark ω.area (ω.recs.take ω.synced.toNat) a b)).2 = 0 then ω.count + 1 else ω.count) ω.a ω.b ω.doubt be (nextZ δ (ω.mark ω.area (ω.recs.take ω.synced.toNat) a b)).2) (by (repeat' constructor)) ?_
      rintro u L' ⟨rfl, rfl⟩
      have h2 : (nextZ δ (ω.mark ω.area (ω.recs.take ω.synced.toNat) a b)).2 = 2 := by rcases (nextZ_keeps δ (ω.mark ω.area (ω.recs.take ω.synced.toNat) a b)).2.2 with h | h; exact absurd h (by simpa using h52); exact h
      have e : setmZ δ ω a b = ((nextZ δ (ω.mark ω.area (ω.recs.take ω.synced.toNat) a b)).1, { ω with doubt := true }, 2) := by unfold setmZ; rw [if_neg hdb, if_neg hin, if_neg h21, if_pos (by simpa using h52), h2]; rfl
      rw [e, h2, if_pos rfl, if_neg (show ¬ (2 : Int) = 0 by decide)]
      refine G.wlFold (x := x) (d := d) (ω := { ω with doubt := true }) (by (repeat' constructor)) rfl rfl rfl rfl rfl ?_
      exact G.done1 rfl (.cell rfl ag_25 (by (repeat' constructor)) rfl) ⟨rfl, rfl⟩ (by (repeat' constructor)) (by (repeat' constructor))
     ·refine G.skip (G.then_n (G.seq (G.region (G.mv rfl rfl (G.mv rfl rfl (G.mv rfl rfl (G.mv rfl rfl (G.q (Quiet.nilp rfl) rfl (G.q (Quiet.fieldAddr rfl fo_142_6) rfl ?_)))))))))
      refine G.oq (OpSpec.store rfl rfl rfl sz_3 ?c68 ?c69) ?nx70
      case c68 => first | decide | (simp; omega) | simp
      case c69 => exact nfz0 _ _
      rintro v L' rfl
      refine G.q (Quiet.nilp rfl) rfl (G.q (Quiet.fieldAddr rfl fo_142_7) rfl ?_)
      refine G.oq (OpSpec.store rfl rfl rfl sz_3 ?c73 ?c74) ?nx75
      case c73 => first | decide | (simp; omega) | simp
      case c74 => exact nfz0 _ _
      rintro v L' rfl
      refine G.nil (G.then_n (G.seq (G.region ?_)))
      refine G.oq (OpSpec.store rfl rfl rfl sz_25 ?c76 ?c77) ?nx78
      case c76 => first | decide | (simp; omega) | simp
      case c77 => exact nfz0 _ _
      rintro v L' rfl
      refine G.nil ?_
      refine G.ptCast (b := be) (l' := [vint 0]) (by (repeat' constructor)) rfl ?_
      refine G.then_n (G.ret ?_)
      refine G.doneD Tryz.func96 rfl rfl (doubts_spec x d (.slice arr ω.recs.length crr) ω.synced (.slice abb (laidZ ω.recs).length cbb) ω.area (if (nextZ δ (ω.mark ω.area (ω.recs.take ω.synced.toNat) a b)).2 = 0 then ω.count + 1 else ω.count) a b ω.doubt be 0) (by (repeat' constructor)) ?_
      rintro u L' ⟨rfl, rfl⟩
      have h0 : (nextZ δ (ω.mark ω.area (ω.recs.take ω.synced.toNat) a b)).2 = 0 := by simpa using h52
      have e : setmZ δ ω a b = ((nextZ δ (ω.mark ω.area (ω.recs.take ω.synced.toNat) a b)).1, { ω with a := a, b := b, count := ω.count + 1 }, 0) := by unfold setmZ; rw [if_neg hdb, if_neg hin, if_neg h21, if_neg (by rw [h0]; simp)]
      rw [e, h0, if_pos rfl, if_neg (show ¬ (0 : Int) = 2 by decide)]
      refine G.wlFold (x := x) (d := d) (ω := { ω with a := a, b := b, count := ω.count + 1 }) (by (repeat' constructor)) rfl rfl rfl rfl rfl ?_
      exact G.done1 rfl (.cell rfl ag_25 (by (repeat' constructor)) rfl) ⟨rfl, rfl⟩ (by (repeat' constructor)) (by (repeat' constructor))

end Go.Proofs.YtidjhgbdokcphaaGreat

/- Own work, by program: Append, Renew, Records, Room ..: walked. -/

namespace Go.Proofs.YtidjhgbdokcphaaGreat
open Go
theorem wappend_spec (x d : Nat) (ω : Wl) (δ : Dk) (s : Bs) (hI : WlI δ ω) (hsl : s.length ≤ 2147483648) : Fn Tryz.prog 45 #[vptr x, vstr s] [wlR x d ω, dkR d δ] fun v L => v = vint (appendZ δ ω s).2.2 ∧ L = [wlR x d (appendZ δ ω s).2.1, dkR d (appendZ δ ω s).1] := by
 refine Fn.introD (vs := [vptr x, vstr s]) Tryz.func45 rfl rfl ?_
 intro F W
 refine G.wlOpen (ω := ω) (by (repeat' constructor)) fun vr vb => ?_
 refine G.slAny (v := vr) (by (repeat' constructor)) fun arr crr e _ => ?_
 subst e
 refine G.slAny (v := vb) (by (repeat' constructor)) fun abb cbb e _ => ?_
 subst e
 refine G.slAddr (T := 9) (by (repeat' constructor)) fun hrc hra => ?_
 obtain ⟨hn, hA, har, hct, hsy, hfit⟩ := hI
 have hh := half_le hn
 have hll := laidZ_many ω.recs
 refine G.seq (G.region ?_)
 refine G.oq (OpSpec.alloc ze_25) ?nx1
 rintro v L' ⟨be, rfl, rfl⟩
 refine G.nil ?_
 refine G.ptCast (b := be) (l' := [vint 0]) (by (repeat' constructor)) rfl ?_
 refine G.then_n (G.seq (G.region (G.mv rfl rfl (G.defer (vs := [_, _]) rfl (G.nil (G.then_n (G.seq (G.block (G.seq (G.region (G.mv rfl rfl (G.q (Quiet.nilp rfl) rfl (G.q (Quiet.fieldAddr rfl fo_142_8) rfl ?_)))))))))))))
 refine G.q (Quiet.ld rfl ag_4) rfl ?_
 refine G.ag rfl rfl (G.nil (G.then_n ?_))
 refine G.condB rfl (fun h8 => ?_) (fun h8 => ?_)
 ·refine G.seq (G.region ?_)
  refine G.oq (OpSpec.store rfl rfl rfl sz_25 ?c8 ?c9) ?nx10
  case c8 => first | decide | (simp; omega) | simp
  case c9 => exact nfz0 _ _
  rintro v L' rfl
  refine G.nil ?_
  refine G.ptCast (b := be) (l' := [vint 34]) (by (repeat' constructor)) rfl ?_
  refine G.then_n (G.ret (G.blk_r (G.then_r ?_)))
  refine G.doneD Tryz.func96 rfl rfl (doubts_spec x d (.slice arr ω.recs.length crr) ω.synced (.slice abb (laidZ ω.recs).length cbb) ω.area ω.count ω.a ω.b ω.doubt be 34) (by (repeat' constructor)) ?_
  rintro u L' ⟨rfl, rfl⟩
  have e : appendZ δ ω s = (δ, ω, 34) := by unfold appendZ; rw [if_pos h8]
  rw [e, if_neg (show ¬ (34 : Int) = 2 by decide)]
  refine G.wlFold (x := x) (d := d) (ω := ω) (by (repeat' constructor)) rfl rfl rfl rfl rfl ?_
  exact G.done1 rfl (.cell rfl ag_25 (by (repeat' constructor)) rfl) ⟨rfl, rfl⟩ (by (repeat' constructor)) (by (repeat' constructor))
 ·have hdb : ¬ ω.doubt = true := by rw [h8]; decide
  refine G.seq (G.region (G.mv rfl rfl (G.q (Quiet.strlen rfl Tryz.underlying9 rfl) rfl (G.q (Quiet.int rfl rfl rfl) rfl (G.ag rfl rfl (G.nil (G.then_n ?_)))))))
  refine G.condD rfl (fun h13 => ?_) (fun h13 => ?_)
  ·have hlong : s.length > 4000 := by omega
   refine G.seq (G.region ?_)
   refine G.oq (OpSpec.store rfl rfl rfl sz_25 ?c14 ?c15) ?nx16
   case c14 => first | decide | (simp; omega) | simp
   case c15 => exact nfz0 _ _
   rintro v L' rfl
   refine G.nil ?_
   refine G.ptCast (b := be) (l' := [vint 33]) (by (repeat' constructor)) rfl ?_
   refine G.then_n (G.ret (G.blk_r (G.then_r ?_)))
   refine G.doneD Tryz.func96 rfl rfl (doubts_spec x d (.slice arr ω.recs.length crr) ω.synced (.slice abb (laidZ ω.recs).length cbb) ω.area ω.count ω.a ω.b ω.doubt be 33) (by (repeat' constructor)) ?_
   rintro u L' ⟨rfl, rfl⟩
   have e : appendZ δ ω s = (δ, ω, 33) := by unfold appendZ; rw [if_neg hdb, if_pos hlong]
   rw [e, if_neg (show ¬ (33 : Int) = 2 by decide)]
   refine G.wlFold (x := x) (d := d) (ω := ω) (by (repeat' constructor)) rfl rfl rfl rfl rfl ?_
   exact G.done1 rfl (.cell rfl ag_25 (by (repeat' constructor)) rfl) ⟨rfl, rfl⟩ (by (repeat' constructor)) (by (repeat' constructor))
  ·have hlong : ¬ s.length > 4000 := by omega
   refine G.seq (G.region (G.mv rfl rfl (G.mv rfl rfl (G.q (Quiet.nilp rfl) rfl (G.q (Quiet.fieldAddr rfl fo_142_3) rfl ?_)))))
   refine G.q (Quiet.ld rfl ag_125) rfl ?_
   refine G.q (Quiet.slen rfl Tryz.underlying125 rfl) rfl (G.mv rfl rfl (G.q (Quiet.strlen rfl Tryz.underlying9 rfl) rfl ?_))
   refine G.q (Quiet.add rfl rfl (by omega)) rfl ?_
   refine G.q (Quiet.add rfl rfl (by omega)) rfl ?_
   refine G.oq (OpSpec.call Tryz.func97 rfl rfl (vs := [_, _]) rfl (fits_spec x d (.slice arr ω.recs.length crr) ω.synced (.slice abb (laidZ ω.recs).length cbb) ω.area ω.count ω.a ω.b ω.doubt δ ((laidZ ω.recs).length + s.length + 6) hn)) ?nx27
   rintro v L' ⟨rfl, rfl⟩
   refine G.q (Quiet.not rfl) rfl (G.ag rfl rfl (G.nil (G.then_n ?_)))
   refine G.condN rfl (fun h17 => ?_) (fun h17 => ?_)
   ·refine G.seq (G.region ?_)
    refine G.oq (OpSpec.store rfl rfl rfl sz_25 ?c30 ?c31) ?nx32
    case c30 => first | decide | (simp; omega) | simp
    case c31 => exact nfz0 _ _
    rintro v L' rfl
    refine G.nil ?_
    refine G.ptCast (b := be) (l' := [vint 30]) (by (repeat' constructor)) rfl ?_
    refine G.then_n (G.ret (G.blk_r (G.then_r ?_)))
    refine G.doneD Tryz.func96 rfl rfl (doubts_spec x d (.slice arr ω.recs.length crr) ω.synced (.slice abb (laidZ ω.recs).length cbb) ω.area ω.count ω.a ω.b ω.doubt be 30) (by (repeat' constructor)) ?_
    rintro u L' ⟨rfl, rfl⟩
    have e : appendZ δ ω s = (δ, ω, 30) := by unfold appendZ; rw [if_neg hdb, if_neg hlong, if_pos h17]
    rw [e, if_neg (show ¬ (30 : Int) = 2 by decide)]
    refine G.wlFold (x := x) (d := d) (ω := ω) (by (repeat' constructor)) rfl rfl rfl rfl rfl ?_
    exact G.done1 rfl (.cell rfl ag_25 (by (repeat' constructor)) rfl) ⟨rfl, rfl⟩ (by (repeat' constructor)) (by (repeat' constructor))
   ·refine G.skip (G.blk_n (G.then_n (G.seq ?_)))
    have hrl := recZ_len s
    refine G.region (G.mv rfl rfl (G.q (Quiet.nilp rfl) rfl (G.q (Quiet.fieldAddr rfl fo_142_3) rfl ?_)))
    refine G.q (Quiet.ld rfl ag_125) rfl ?_
    refine G.oq (OpSpec.call Tryz.func98 rfl rfl (vs := [_]) rfl (cloneB_spec (.slice abb (laidZ ω.recs).length cbb) (laidZ ω.recs).length (bysL (laidZ ω.recs)) (bytR (.slice abb (laidZ ω.recs).length cbb) (laidZ ω.recs)) (fun h hp => slR_rd hp) (bysL_cell _) (by omega))) ?nx37
    rintro v L' ⟨⟨ac, cc, rfl⟩, rfl⟩
    refine G.mv rfl rfl ?_
    refine G.oq (OpSpec.call Tryz.func99 rfl rfl (vs := [_]) rfl (record_spec s (by omega))) ?nx40
    rintro v L' ⟨⟨ar, cr, rfl⟩, rfl⟩
    refine G.oq (OpSpec.append (n := (laidZ ω.recs).length) (m := (recZ s).length) (ys := bysL (recZ s)) (p := bytR (.slice ar (recZ s).length cr) (recZ s)) rfl rfl rfl el_125 (.inl ⟨_, Tryz.underlying125⟩) ze_5 rfl rfl ?hc42 ?hr43 ?hb44 (by decide)) ?nx45
    case hc42 => exact bysL_cell _
    case hr43 => exact fun h hp => slR_rd hp
    case hb44 => omega
    rintro v L' ⟨⟨a8, c8, rfl⟩, rfl⟩; rw [show (laidZ ω.recs).length + (recZ s).length = (laidZ ω.recs ++ recZ s).length by rw [List.length_append], show bysL (laidZ ω.recs) ++ bysL (recZ s) = bysL (laidZ ω.recs ++ recZ s) from (bysL_append _ _).symm]
    refine G.ag rfl rfl (G.nil (G.then_n (G.seq (G.seq ?_))))
    refine G.draw [11] [[0, 1, 2, 3, 4, 5, 6, 7, 8, 9, 10, 11], [12]] mixed (by kernel_rfl) ?_
    refine Phases.go [] (by (repeat' constructor)) ?_
    refine D.kw [11] rfl (Quiet.move rfl) ?_
    refine D.kw [2, 3, 4, 11] rfl (Quiet.move rfl) ?_
    refine D.kw [3, 4, 11] rfl (Quiet.nilp rfl) ?_
    refine D.kw [4, 11] rfl (Quiet.fieldAddr rfl fo_142_4) ?_
    refine D.kw [11] rfl (Quiet.ld rfl ag_3) ?_
    refine D.kw [11] rfl (Quiet.move rfl) ?_
    refine D.kw [7, 8, 9, 10, 11] rfl (Quiet.move rfl) ?_
    refine D.kw [8, 9, 10, 11] rfl (Quiet.nilp rfl) ?_
    refine D.kw [9, 10, 11] rfl (Quiet.fieldAddr rfl fo_142_3) ?_
    refine D.kw [10, 11] rfl (Quiet.ld rfl ag_125) ?_
    refine D.kw [11] rfl (Quiet.slen rfl Tryz.underlying125 rfl) ?_
    refine D.h rfl (by kernel_rfl) (OpSpec.call Tryz.func100 rfl rfl (vs := [_, _, _, _]) rfl (lay_spec4 x d (.slice arr ω.recs.length crr) ω.synced (.slice abb (laidZ ω.recs).length cbb) ω.area ω.count ω.a ω.b ω.doubt (.slice a8 (laidZ ω.recs ++ recZ s).length c8) δ ω.area (laidZ ω.recs ++ recZ s) (laidZ ω.recs).length (bytR (.slice a8 (laidZ ω.recs ++ recZ s).length c8) (laidZ ω.recs ++ recZ s)) hn har (by omega) (fun h hp => slR_rd hp) (by rw [List.length_append]; omega) (by rw [List.length_append]; omega))) (by (repeat' constructor)) ?nx57
    rintro v L' ⟨rfl, rfl⟩
    refine D.ph ?_
    refine Phases.go [] (by (repeat' constructor)) ?_
    refine D.kw [] rfl (Quiet.assign rfl) ?_
    refine D.ph (Phases.fin (G.then_n (G.seq (G.region (G.mv rfl rfl (G.q (Quiet.int rfl rfl rfl) rfl (G.nil (G.then_n ?_))))))))
    refine G.condN rfl (fun h51 => ?_) (fun h51 => ?_)
    ·refine G.seq (G.region (G.mv rfl rfl ?_))
     refine G.oq (OpSpec.store rfl rfl rfl sz_25 ?c60 ?c61) ?nx62
     case c60 => first | decide | (simp; omega) | simp
     case c61 => exact nfz0 _ _
     rintro v L' rfl
     refine G.nil ?_
     refine G.ptCast (b := be) (l' := [vint (layZ δ ω.area (laidZ ω.recs ++ recZ s) (laidZ ω.recs).length).2]) (by (repeat' constructor)) rfl ?_
     refine G.then_n (G.ret (G.then_r ?_))
     refine G.doneD Tryz.func96 rfl rfl (doubts_spec x d (.slice arr ω.recs.length crr) ω.synced (.slice abb (laidZ ω.recs).length cbb) ω.area ω.count ω.a ω.b ω.doubt be (layZ δ ω.area (laidZ ω.recs ++ recZ s) (laidZ ω.recs).length).2) (by (repeat' constructor)) ?_
     rintro u L' ⟨rfl, rfl⟩
     have h2 : (layZ δ ω.area (laidZ ω.recs ++ recZ s) (laidZ ω.recs).length).2 = 2 := by rcases layZ_err δ ω.area (laidZ ω.recs ++ recZ s) (laidZ ω.recs).length with h | h; exact absurd h (by simpa using h51); exact h
     have e : appendZ δ ω s = ((layZ δ ω.area (laidZ ω.recs ++ recZ s) (laidZ ω.recs).length).1, { ω with doubt := true }, 2) := by unfold appendZ; rw [if_neg hdb, if_neg hlong, if_neg (fun h => h h17), if_pos (by simpa using h51), h2]; rfl
     rw [e, h2, if_pos rfl]
     refine G.wlFold (x := x) (d := d) (ω := { ω with doubt := true }) (by (repeat' constructor)) rfl rfl rfl rfl rfl ?_
     exact G.done1 rfl (.cell rfl ag_25 (by (repeat' constructor)) rfl) ⟨rfl, rfl⟩ (by (repeat' constructor)) (by (repeat' constructor))
    ·refine G.skip (G.then_n (G.seq (G.region (G.mv rfl rfl (G.mv rfl rfl (G.mv rfl rfl (G.q (Quiet.nilp rfl) rfl (G.q (Quiet.fieldAddr rfl fo_142_1) rfl ?_))))))))
     refine G.q (Quiet.ld rfl ag_46) rfl ?_
     refine G.mv rfl rfl ?_
     refine G.oq (OpSpec.buildSlice1 (vs := [_]) el_46 ze_9 rfl rfl rfl rfl rfl (by decide)) ?nx70
     rintro v L' ⟨b12_7, rfl, rfl⟩
     refine G.oq (OpSpec.append1 rfl rfl rfl el_46 ze_9 rfl rfl ?c72 ?c73 (Nat.le_refl _) ?c74 (by decide)) ?nx75
     case c72 => (first | (simp [isCell]; done) | (simp [isCell, setAll, Value.cells]; done))
     case c73 => rfl
     case c74 => omega
     rintro v L' ⟨⟨a12_8, c12_8, rfl⟩, rfl⟩
     refine G.mv rfl rfl (G.q (Quiet.nilp rfl) rfl (G.q (Quiet.fieldAddr rfl fo_142_1) rfl ?_))
     refine G.oq (OpSpec.store rfl rfl rfl sz_46 ?c79 ?c80) ?nx81
     case c79 => first | decide | (simp; omega) | simp
     case c80 => exact nfz0 _ _
     rintro v L' rfl
     refine G.q (Quiet.nilp rfl) rfl (G.q (Quiet.fieldAddr rfl fo_142_3) rfl ?_)
     refine G.oq (OpSpec.store rfl rfl rfl sz_125 ?c84 ?c85) ?nx86
     case c84 => first | decide | (simp; omega) | simp
     case c85 => exact nfz0 _ _
     rintro v L' rfl
     refine G.nil (G.then_n (G.seq (G.region ?_)))
     refine G.oq (OpSpec.store rfl rfl rfl sz_25 ?c87 ?c88) ?nx89
     case c87 => first | decide | (simp; omega) | simp
     case c88 => exact nfz0 _ _
     rintro v L' rfl
     refine G.nil ?_
     refine G.ptCast (b := be) (l' := [vint 0]) (by (repeat' constructor)) rfl ?_
     refine G.then_n (G.ret ?_)
     refine G.doneD Tryz.func96 rfl rfl (doubts_spec x d _ _ _ _ _ _ _ _ be 0) (by (repeat' constructor)) ?_
     rintro u L' ⟨rfl, rfl⟩
     have e : appendZ δ ω s = ((layZ δ ω.area (laidZ ω.recs ++ recZ s) (laidZ ω.recs).length).1, { ω with recs := ω.recs ++ [s] }, 0) := by unfold appendZ; rw [if_neg hdb, if_neg hlong, if_neg (fun h => h h17), if_neg (by simpa using h51)]
     rw [e, if_neg (show ¬ (0 : Int) = 2 by decide)]
     refine G.wlFold (x := x) (d := d) (ω := { ω with recs := ω.recs ++ [s] }) (by (repeat' constructor)) rfl (by simp) (by simp [strs]) (by rw [laidZ_append]; simp [laidZ]) (by rw [laidZ_append]; simp [laidZ]) ?_
     exact G.done1 rfl (.cell rfl ag_25 (by (repeat' constructor)) rfl) ⟨rfl, rfl⟩ (by (repeat' constructor)) (by (repeat' constructor))

/- not in this seat -/
/- not in this seat -/
theorem wmarks_spec (x d : Nat) (ω : Wl) : Fn Tryz.prog 55 #[vptr x] [wlR x d ω] fun v L => v = .tuple #[vint ω.a, vint ω.b] ∧ L = [wlR x d ω] := by
 refine Fn.intro (vs := [vptr x]) Tryz.func55 rfl rfl ?_
 intro F W
 refine G.wlOpen (ω := ω) (by (repeat' constructor)) fun vr vb => ?_
 refine G.slAny (v := vr) (by (repeat' constructor)) fun arr crr e _ => ?_
 subst e
 refine G.slAny (v := vb) (by (repeat' constructor)) fun abb cbb e _ => ?_
 subst e
 refine G.seq (G.region (G.ag rfl rfl (G.ag rfl rfl (G.nil (G.then_n (G.seq ?_))))))
 refine G.draw [] [[0, 1, 2, 3, 4, 5, 6, 7, 8, 9]] mixed (by kernel_rfl) ?_
 refine Phases.go [] (by (repeat' constructor)) ?_
 refine D.kw [1, 2, 3, 8, 9] rfl (Quiet.move rfl) ?_
 refine D.kw [2, 3, 8, 9] rfl (Quiet.nilp rfl) ?_
 refine D.kw [3, 8, 9] rfl (Quiet.fieldAddr rfl fo_142_6) ?_
 refine D.kw [8, 9] rfl (Quiet.ld rfl ag_3) ?_
 refine D.kw [5, 6, 7, 9] rfl (Quiet.move rfl) ?_
 refine D.kw [6, 7, 9] rfl (Quiet.nilp rfl) ?_
 refine D.kw [7, 9] rfl (Quiet.fieldAddr rfl fo_142_7) ?_
 refine D.kw [9] rfl (Quiet.ld rfl ag_3) ?_
 refine D.kw [9] rfl (Quiet.assign rfl) ?_
 refine D.kw [] rfl (Quiet.assign rfl) ?_
 refine D.ph (Phases.fin (G.then_n (G.ret ?_)))
 refine G.wlFold (x := x) (d := d) (ω := ω) (by (repeat' constructor)) rfl rfl rfl rfl rfl ?_
 exact G.dn (l := [.tmp 2, .tmp 3]) rfl rfl ⟨rfl, rfl⟩

def roomZ (δ : Dk) (ω : Wl) : Int := max (-1) (min 4000 (64 * halfZ δ - (laidZ ω.recs).length - 6))
theorem wroom_spec (x d : Nat) (ω : Wl) (δ : Dk) (hn : 2 ≤ δ.now.length ∧ δ.now.length ≤ 32768) (hfit : (laidZ ω.recs).length ≤ 4000000) : Fn Tryz.prog 49 #[vptr x] [wlR x d ω, dkR d δ] fun v L => v = vint (roomZ δ ω) ∧ L = [wlR x d ω, dkR d δ] := by
 refine Fn.intro (vs := [vptr x]) Tryz.func49 rfl rfl ?_
 intro F W
 refine G.wlOpen (ω := ω) (by (repeat' constructor)) fun vr vb => ?_
 refine G.slAny (v := vr) (by (repeat' constructor)) fun arr crr e _ => ?_
 subst e
 refine G.slAny (v := vb) (by (repeat' constructor)) fun abb cbb e _ => ?_
 subst e
 have hh := half_le hn
 refine G.seq (G.region (G.ag rfl rfl (G.nil (G.then_n (G.seq ?_)))))
 refine G.draw [] [[0, 1, 2, 3, 4, 5, 6, 7, 8, 9, 10, 11, 12, 13, 14, 15]] mixed (by kernel_rfl) ?_
 refine Phases.go [ptc x _ _, dkR d δ] (by (repeat' constructor)) ?_
 refine D.kw [1, 2, 3, 4, 5, 11, 12, 13, 14, 15] rfl (Quiet.move rfl) ?_
 refine D.kw [2, 3, 4, 5, 11, 12, 13, 14, 15] rfl (Quiet.nilp rfl) ?_
 refine D.kw [3, 4, 5, 11, 12, 13, 14, 15] rfl (Quiet.fieldAddr rfl fo_142_0) ?_
 refine D.kw [4, 5, 11, 12, 13, 14, 15] rfl (Quiet.ld rfl ag_24) ?_
 refine D.m rfl (by kernel_rfl) (OpSpec.call Tryz.func109 rfl rfl (vs := [_]) rfl (half_spec d δ hn)) (by (repeat' constructor)) ?nx6
 refine D.kw [11, 12, 13, 14, 15] rfl (Quiet.mul rfl rfl (by omega)) ?_
 refine D.kw [7, 8, 9, 10, 11, 12, 13, 14, 15] rfl (Quiet.move rfl) ?_
 refine D.kw [8, 9, 10, 11, 12, 13, 14, 15] rfl (Quiet.nilp rfl) ?_
 refine D.kw [9, 10, 11, 12, 13, 14, 15] rfl (Quiet.fieldAddr rfl fo_142_3) ?_
 refine D.kw [10, 11, 12, 13, 14, 15] rfl (Quiet.ld rfl ag_125) ?_
 refine D.kw [11, 12, 13, 14, 15] rfl (Quiet.slen rfl Tryz.underlying125 rfl) ?_
 refine D.kw [12, 13, 14, 15] rfl (Quiet.sub rfl rfl (by omega)) ?_
 refine D.kw [13, 14, 15] rfl (Quiet.sub rfl rfl (by omega)) ?_
 refine D.kw [14, 15] rfl (Quiet.min2 rfl rfl) ?_
 refine D.kw [15] rfl (Quiet.max2 rfl rfl) ?_
 refine D.kw [] rfl (Quiet.assign rfl) ?_
 refine D.ph (Phases.fin (G.then_n (G.ret ?_)))
 refine G.wlFold (x := x) (d := d) (ω := ω) (by (repeat' constructor)) rfl rfl rfl rfl rfl ?_
 exact G.dn (l := [.tmp 2]) rfl rfl ⟨rfl, rfl⟩

theorem wrecords_spec (x d : Nat) (ω : Wl) (hl : ω.recs.length ≤ 4294967296) : Fn Tryz.prog 56 #[vptr x] [wlR x d ω] fun v L => (ω.doubt = true ∧ v = .tuple #[.slice none 0 0, vint 34] ∧ L = [wlR x d ω]) ∨ (ω.doubt = false ∧ ∃ a c, v = .tuple #[.slice a ω.recs.length c, vint 0] ∧ L = [wlR x d ω, strR (.slice a ω.recs.length c) ω.recs]) := by
 refine Fn.intro (vs := [vptr x]) Tryz.func56 rfl rfl ?_
 intro F W
 refine G.wlOpen (ω := ω) (by (repeat' constructor)) fun vr vb => ?_
 refine G.slAny (v := vr) (by (repeat' constructor)) fun arr crr e _ => ?_
 subst e
 refine G.slAny (v := vb) (by (repeat' constructor)) fun abb cbb e _ => ?_
 subst e
 refine G.seq (G.region (G.ag rfl rfl (G.ag rfl rfl (G.nil (G.then_n (G.seq (G.seq (G.region (G.mv rfl rfl (G.q (Quiet.nilp rfl) rfl (G.q (Quiet.fieldAddr rfl fo_142_8) rfl ?_)))))))))))
 refine G.q (Quiet.ld rfl ag_4) rfl ?_
 refine G.nil (G.then_n ?_)
 refine G.condB rfl (fun h7 => ?_) (fun h7 => ?_)
 ·refine G.seq (G.region (G.ag rfl rfl (G.ag rfl rfl (G.nil (G.then_n (G.ret (G.then_r ?_)))))))
  refine G.wlFold (x := x) (d := d) (ω := ω) (vr := (.slice arr ω.recs.length crr)) (by (repeat' constructor)) rfl rfl rfl rfl rfl ?_
  exact G.dn (l := [.tmp 2, .tmp 3]) rfl rfl (.inl ⟨h7, rfl, rfl⟩)
 ·refine G.skip (G.then_n (G.seq (G.region (G.mv rfl rfl (G.q (Quiet.nilp rfl) rfl (G.q (Quiet.fieldAddr rfl fo_142_1) rfl ?_))))))
  refine G.q (Quiet.ld rfl ag_46) rfl ?_
  refine G.oq (OpSpec.call Tryz.func116 rfl rfl (vs := [_]) rfl (cloneT_spec (.slice arr ω.recs.length crr) ω.recs.length (strs ω.recs) (strR (.slice arr ω.recs.length crr) ω.recs) (fun h hp => slR_rd hp) (strs_cell _) hl)) ?nx13
  rintro v L' ⟨⟨ac, cc, rfl⟩, rfl⟩
  refine G.oq (OpSpec.call Tryz.func115 rfl rfl (vs := [_]) rfl (clipT_spec _ _ _)) ?nx15
  rintro v L' ⟨⟨ad, cd, rfl⟩, rfl⟩
  refine G.ag rfl rfl (G.ag rfl rfl (G.nil (G.then_n (G.ret ?_))))
  refine G.wlFold (x := x) (d := d) (ω := ω) (vr := (.slice arr ω.recs.length crr)) (by (repeat' constructor)) rfl rfl rfl rfl rfl ?_
  exact G.dn (l := [.tmp 2, .tmp 3]) rfl rfl (.inr ⟨by simpa using h7, _, _, rfl, rfl⟩)

end Go.Proofs.YtidjhgbdokcphaaGreat

/- Own work, by program: Renew, Format: walked. -/

namespace Go.Proofs.YtidjhgbdokcphaaGreat
open Go
theorem long_spec (s : Bs) : Fn Tryz.prog 208 #[vstr s] [] fun v L => v = .bool (decide (s.length > 4000)) ∧ L = [] := by
 refine Fn.intro (vs := [vstr s]) Tryz.func208 rfl rfl ?_
 intro F W
 refine G.seq (G.region (G.ag rfl rfl (G.nil (G.then_n (G.seq (G.region (G.mv rfl rfl (G.q (Quiet.strlen rfl Tryz.underlying9 rfl) rfl (G.q (Quiet.int rfl rfl rfl) rfl (G.ag rfl rfl (G.nil (G.then_n (G.ret ?_)))))))))))))
 exact G.dn (l := [.tmp 2]) rfl rfl ⟨congrArg Value.bool (decide_eq_decide.2 (by omega)), rfl⟩

theorem indexLong_spec (v : Value) (l : List Bs) (p : HP) (hr : ∀ h : Hp, p h → rdS 1 h v l.length (strs l)) (hl : l.length ≤ 4294967296) : Fn Tryz.prog 225 #[v, .func (.func 208) #[] #[]] [p] fun u L => (∃ r : Int, u = vint r ∧ (decide (r ≥ 0) = l.any (fun s : Bs => decide (s.length > 4000)))) ∧ L = [p] := by
 refine Fn.intro (vs := [v, .func (.func 208) #[] #[]]) Tryz.func225 rfl rfl ?_
 intro F W
 refine G.rdAny (p := p) hr (by (repeat' constructor)) fun aa ca e _ => ?_
 subst e
 refine G.seq (G.region (G.ag rfl rfl (G.nil (G.then_n (G.seq (G.seq (G.region (G.mv rfl rfl (G.q (Quiet.slen rfl Tryz.underlying46 rfl) rfl (G.mv rfl rfl (G.nil (G.then_n (G.block ?_)))))))))))))
 refine G.loopK (ι := Nat) (fun q E => (8, vint q) :: E) (fun q => []) (fun q => q ≤ l.length ∧ ∀ j (hj : j < q) (hl : j < l.length), ¬ l[j].length > 4000) (fun q => l.length - q) (0) (ts := [0, 1, 7]) (.cons rfl (.cons rfl (.cons rfl (.nil)))) (⟨Nat.zero_le _, fun j hj => by omega⟩) ⟨rfl, rfl, rfl, rfl, trivial⟩ (by (repeat' constructor)) ?_
 rintro i ⟨hi, hb⟩
 refine G.seq (G.region (G.q (Quiet.int rfl rfl rfl) rfl (G.nil (G.then_n (G.seq ?_)))))
 refine G.condD rfl (fun h9 => ?_) (fun h9 => ?_)
 ·have hi2 : i < l.length := by omega
  refine G.rdShape (p := p) hr (by (repeat' constructor)) (by omega) fun ba oa e => ?_
  subst e
  refine G.skip (G.then_n (G.seq (G.block (G.seq (G.region (G.mv rfl rfl (G.ag rfl rfl (G.nil (G.then_n (G.seq (G.region (G.mv rfl rfl (G.mv rfl rfl (G.mv rfl rfl ?_))))))))))))))
  refine G.q (Quiet.indexAddr rfl rfl el_46 (by omega)) rfl ?_
  refine G.q (Quiet.loadRd (sz := 1) (j := i) (p := p) (v := vstr l[i]) rfl ag_9 (by (repeat' constructor)) hr (by simp) (by simp [hi2])) rfl ?_
  refine G.oq (OpSpec.callV Tryz.func208 rfl rfl (us := []) (vs := [_]) (ws := []) rfl rfl (long_spec l[i])) ?nx11
  rintro v L' ⟨rfl, rfl⟩
  refine G.nil (G.then_n ?_)
  refine G.condD rfl (fun h16 => ?_) (fun h16 => ?_)
  ·refine G.seq (G.region (G.mv rfl rfl (G.ag rfl rfl (G.nil (G.then_n (G.ret (G.blk_r (G.then_r (G.then_r (G.blk_r (G.then_r ?_)))))))))))
   exact G.dn (l := [.tmp 4]) rfl rfl ⟨⟨_, rfl, by rw [decide_eq_true (by omega)]; exact (List.any_eq_true.2 ⟨l[i], List.getElem_mem hi2, decide_eq_true h16⟩).symm⟩, rfl⟩
  ·refine G.skip (G.blk_n (G.then_n (G.region ?_)))
   refine G.q (Quiet.add rfl rfl (by omega)) rfl ?_
   refine G.mv rfl rfl (G.nil (G.then_n ?_))
   exact G.roundK (i + 1) (⟨by omega, fun j hj hl => by rcases Nat.lt_or_ge j i with h | h; exact hb j h hl; obtain rfl : j = i := (by omega); exact h16⟩) (by omega) ⟨rfl, rfl, rfl, rfl, trivial⟩ (by (repeat' constructor)) (by ((repeat (apply Have.cons; (repeat (first | exact Pick.here | apply Pick.there)))); apply Have.base; repeat' constructor))
 ·refine G.exit (G.then_e (G.then_e (G.blk_e (G.then_n (G.seq (G.region (G.ag rfl rfl (G.nil (G.then_n (G.ret ?_))))))))))
  exact G.dn (l := [.tmp 4]) rfl rfl ⟨⟨_, rfl, by rw [decide_eq_false (by decide)]; symm; rw [List.any_eq_false]; intro s hs; obtain ⟨j, hj, rfl⟩ := List.mem_iff_getElem.1 hs; simpa using hb j (by omega) hj⟩, rfl⟩

theorem containsLong_spec (v : Value) (l : List Bs) (p : HP) (hr : ∀ h : Hp, p h → rdS 1 h v l.length (strs l)) (hl : l.length ≤ 4294967296) : Fn Tryz.prog 207 #[v, .func (.func 208) #[] #[]] [p] fun u L => u = .bool (l.any (fun s : Bs => decide (s.length > 4000))) ∧ L = [p] := by
 refine Fn.intro (vs := [v, .func (.func 208) #[] #[]]) Tryz.func207 rfl rfl ?_
 intro F W
 refine G.seq (G.region (G.ag rfl rfl (G.nil (G.then_n (G.seq (G.region (G.mv rfl rfl (G.mv rfl rfl ?_))))))))
 refine G.oq (OpSpec.call Tryz.func225 rfl rfl (vs := [_, _]) rfl (indexLong_spec v l p hr hl)) ?nx4
 rintro v' L' ⟨⟨r, rfl, hrl⟩, rfl⟩
 refine G.q (Quiet.int rfl rfl rfl) rfl (G.ag rfl rfl (G.nil (G.then_n (G.ret ?_))))
 exact G.dn (l := [.tmp 4]) rfl rfl ⟨congrArg Value.bool hrl, rfl⟩

theorem wrenew2_spec (x d : Nat) (ω : Wl) (δ : Dk) (va : Value) (l : List Bs) (p : HP) (hI : WlI δ ω) (hr : ∀ h : Hp, p h → rdS 1 h va l.length (strs l)) (hln : l.length ≤ 3000000) (hlb2 : (l.any fun s => decide (s.length > 4000)) = false → (laidZ l).length ≤ 3000000) : Fn Tryz.prog 180 #[vptr x, va] [wlR x d ω, dkR d δ, p] fun v L => v = vint (renewZ δ ω l).2.2 ∧ L = [wlR x d (renewZ δ ω l).2.1, dkR d (renewZ δ ω l).1, p] := by
 refine Fn.introD (vs := [vptr x, va]) Tryz.func180 rfl rfl ?_
 intro F W
 refine G.wlOpen (ω := ω) (by (repeat' constructor)) fun vr vb => ?_
 refine G.slAny (v := vr) (by (repeat' constructor)) fun arr crr e _ => ?_
 subst e
 refine G.slAny (v := vb) (by (repeat' constructor)) fun abb cbb e _ => ?_
 subst e
 refine G.slAddr (T := 9) (by (repeat' constructor)) fun hrc hra => ?_
 obtain ⟨hn, hA, har, hct, hsy, hfit⟩ := hI
 have hh := half_le hn
 have hll := laidZ_many ω.recs
 have hlk := layF_keeps ((laidZ l).length + 1) δ (1 - ω.area) (laidZ l) (0 / 64)
 have hlm := laidZ_many l
 refine G.rdAny (p := p) hr (by (repeat' constructor)) fun aq cq e _ => ?_
 subst e
 refine G.seq (G.region ?_)
 refine G.oq (OpSpec.alloc ze_25) ?nx1
 rintro v L' ⟨be, rfl, rfl⟩
 refine G.nil ?_
 refine G.ptCast (b := be) (l' := [vint 0]) (by (repeat' constructor)) rfl ?_
 refine G.then_n (G.seq (G.region (G.mv rfl rfl (G.defer (vs := [_, _]) rfl (G.nil (G.then_n (G.seq (G.block (G.seq (G.region (G.mv rfl rfl (G.q (Quiet.nilp rfl) rfl (G.q (Quiet.fieldAddr rfl fo_142_8) rfl ?_)))))))))))))
 refine G.q (Quiet.ld rfl ag_4) rfl ?_
 refine G.ag rfl rfl (G.nil (G.then_n ?_))
 refine G.condB rfl (fun h8 => ?_) (fun h8 => ?_)
 ·refine G.seq (G.region ?_)
  refine G.oq (OpSpec.store rfl rfl rfl sz_25 ?c8 ?c9) ?nx10
  case c8 => first | decide | (simp; omega) | simp
  case c9 => exact nfz0 _ _
  rintro v L' rfl
  refine G.nil ?_
  refine G.ptCast (b := be) (l' := [vint 34]) (by (repeat' constructor)) rfl ?_
  refine G.then_n (G.ret (G.blk_r (G.then_r ?_)))
  refine G.doneD Tryz.func96 rfl rfl (doubts_spec x d (.slice arr ω.recs.length crr) ω.synced (.slice abb (laidZ ω.recs).length cbb) ω.area ω.count ω.a ω.b ω.doubt be 34) (by (repeat' constructor)) ?_
  rintro u L' ⟨rfl, rfl⟩
  have e : renewZ δ ω l = (δ, ω, 34) := by unfold renewZ; rw [if_pos h8]
  rw [e, if_neg (show ¬ (34 : Int) = 2 by decide)]
  refine G.wlFold (x := x) (d := d) (ω := ω) (by (repeat' constructor)) rfl rfl rfl rfl rfl ?_
  exact G.done1 rfl (.cell rfl ag_25 (by (repeat' constructor)) rfl) ⟨rfl, rfl⟩ (by (repeat' constructor)) (by (repeat' constructor))
 ·have hdb : ¬ ω.doubt = true := by rw [h8]; decide
  refine G.seq (G.region (G.mv rfl rfl ?_))
  refine G.oq (OpSpec.call Tryz.func207 rfl rfl (vs := [_, _]) rfl (containsLong_spec _ l p hr (by omega))) ?nx12
  rintro v L' ⟨rfl, rfl⟩
  refine G.ag rfl rfl (G.nil (G.then_n ?_))
  refine G.condB rfl (fun h13 => ?_) (fun h13 => ?_)
  ·refine G.seq (G.region ?_)
   refine G.oq (OpSpec.store rfl rfl rfl sz_25 ?c14 ?c15) ?nx16
   case c14 => first | decide | (simp; omega) | simp
   case c15 => exact nfz0 _ _
   rintro v L' rfl
   refine G.nil ?_
   refine G.ptCast (b := be) (l' := [vint 33]) (by (repeat' constructor)) rfl ?_
   refine G.then_n (G.ret (G.blk_r (G.then_r ?_)))
   refine G.doneD Tryz.func96 rfl rfl (doubts_spec x d (.slice arr ω.recs.length crr) ω.synced (.slice abb (laidZ ω.recs).length cbb) ω.area ω.count ω.a ω.b ω.doubt be 33) (by (repeat' constructor)) ?_
   rintro u L' ⟨rfl, rfl⟩
   have e : renewZ δ ω l = (δ, ω, 33) := by unfold renewZ; rw [if_neg hdb, if_pos h13]
   rw [e, if_neg (show ¬ (33 : Int) = 2 by decide)]
   refine G.wlFold (x := x) (d := d) (ω := ω) (by (repeat' constructor)) rfl rfl rfl rfl rfl ?_
   exact G.done1 rfl (.cell rfl ag_25 (by (repeat' constructor)) rfl) ⟨rfl, rfl⟩ (by (repeat' constructor)) (by (repeat' constructor))
  ·have hlb := hlb2 (by simpa using h13)
   have hlong : ¬ l.any (fun s : Bs => decide (s.length > 4000)) = true := by rw [h13]; decide
   refine G.seq (G.region (G.mv rfl rfl (G.mv rfl rfl (G.q (Quiet.slen rfl Tryz.underlying46 rfl) rfl ?_))))
   refine G.q (Quiet.mul rfl rfl (by omega)) rfl ?_
   refine G.oq (OpSpec.call Tryz.func97 rfl rfl (vs := [_, _]) rfl (fits_spec x d (.slice arr ω.recs.length crr) ω.synced (.slice abb (laidZ ω.recs).length cbb) ω.area ω.count ω.a ω.b ω.doubt δ ((l.length : Int) * 6) hn)) ?nx21
   rintro v L' ⟨rfl, rfl⟩
   refine G.q (Quiet.not rfl) rfl (G.mv rfl rfl ?_)
   refine G.ndec (t := 23) rfl (fun h6_23 => ?_) (fun h6_23 => ?_)
   ·refine G.kNT (t := 22) rfl h6_23 (G.gskip (t := 23) rfl rfl rfl rfl (G.gskip (t := 23) rfl rfl rfl rfl (G.gskip (t := 23) rfl rfl rfl rfl (G.gskip (t := 23) rfl rfl rfl rfl (G.gskip (t := 23) rfl rfl rfl rfl (G.q (Quiet.pickT rfl rfl) rfl (G.ag rfl rfl (G.nil (G.then_n (G.condT rfl (G.seq (G.region ?_))))))))))))
    refine G.oq (OpSpec.store rfl rfl rfl sz_25 ?c25 ?c26) ?nx27
    case c25 => first | decide | (simp; omega) | simp
    case c26 => exact nfz0 _ _
    rintro v L' rfl
    refine G.nil ?_
    refine G.ptCast (b := be) (l' := [vint 30]) (by (repeat' constructor)) rfl ?_
    refine G.then_n (G.ret (G.blk_r (G.then_r ?_)))
    refine G.doneD Tryz.func96 rfl rfl (doubts_spec x d (.slice arr ω.recs.length crr) ω.synced (.slice abb (laidZ ω.recs).length cbb) ω.area ω.count ω.a ω.b ω.doubt be 30) (by (repeat' constructor)) ?_
    rintro u L' ⟨rfl, rfl⟩
    have e : renewZ δ ω l = (δ, ω, 30) := by unfold renewZ; rw [if_neg hdb, if_neg hlong, if_pos (by first | exact .inl h6_23 | exact .inr h16)]
    rw [e, if_neg (show ¬ (30 : Int) = 2 by decide)]
    refine G.wlFold (x := x) (d := d) (ω := ω) (by (repeat' constructor)) rfl rfl rfl rfl rfl ?_
    exact G.done1 rfl (.cell rfl ag_25 (by (repeat' constructor)) rfl) ⟨rfl, rfl⟩ (by (repeat' constructor)) (by (repeat' constructor))
   ·refine G.kNF (t := 22) rfl h6_23 (G.grun (t := 23) rfl rfl rfl (G.mv rfl rfl (G.grun (t := 23) rfl rfl rfl (G.q (Quiet.nilp rfl) rfl (G.grun (t := 23) rfl rfl rfl (G.q (Quiet.fieldAddr rfl fo_142_5) rfl (G.grun (t := 23) rfl rfl rfl ?_)))))))
    refine G.q (Quiet.ld rfl ag_3) rfl ?_
    refine G.grun (t := 23) rfl rfl rfl (G.q (Quiet.int rfl rfl rfl) rfl (G.q (Quiet.pickF rfl rfl) rfl (G.ag rfl rfl (G.nil (G.then_n ?_)))))
    refine G.condD rfl (fun h16 => ?_) (fun h16 => ?_)
    ·refine G.seq (G.region ?_)
     refine G.oq (OpSpec.store rfl rfl rfl sz_25 ?c33 ?c34) ?nx35
     case c33 => first | decide | (simp; omega) | simp
     case c34 => exact nfz0 _ _
     rintro v L' rfl
     refine G.nil ?_
     refine G.ptCast (b := be) (l' := [vint 30]) (by (repeat' constructor)) rfl ?_
     refine G.then_n (G.ret (G.blk_r (G.then_r ?_)))
     refine G.doneD Tryz.func96 rfl rfl (doubts_spec x d (.slice arr ω.recs.length crr) ω.synced (.slice abb (laidZ ω.recs).length cbb) ω.area ω.count ω.a ω.b ω.doubt be 30) (by (repeat' constructor)) ?_
     rintro u L' ⟨rfl, rfl⟩
     have e : renewZ δ ω l = (δ, ω, 30) := by unfold renewZ; rw [if_neg hdb, if_neg hlong, if_pos (by first | exact .inl h6_23 | exact .inr h16)]
     rw [e, if_neg (show ¬ (30 : Int) = 2 by decide)]
     refine G.wlFold (x := x) (d := d) (ω := ω) (by (repeat' constructor)) rfl rfl rfl rfl rfl ?_
     exact G.done1 rfl (.cell rfl ag_25 (by (repeat' constructor)) rfl) ⟨rfl, rfl⟩ (by (repeat' constructor)) (by (repeat' constructor))
    ·refine G.skip (G.blk_n (G.then_n (G.seq ?_)))
     have hfull : ¬ (¬ ((l.length : Int) * 6 ≤ 64 * halfZ δ) ∨ ω.count = 4294967295) := by rintro (h | h); exact h h6_23; exact h16 h
     refine G.region (G.mv rfl rfl ?_)
     refine G.oq (OpSpec.call Tryz.func134 rfl rfl (vs := [_]) rfl (laid_spec _ l p hr (by omega))) ?nx37
     rintro v L' ⟨⟨al, cl, rfl⟩, rfl⟩
     refine G.ag rfl rfl (G.nil (G.then_n (G.seq (G.seq (G.region (G.mv rfl rfl (G.mv rfl rfl (G.q (Quiet.slen rfl Tryz.underlying125 rfl) rfl ?_))))))))
     refine G.oq (OpSpec.call Tryz.func97 rfl rfl (vs := [_, _]) rfl (fits_spec x d (.slice arr ω.recs.length crr) ω.synced (.slice abb (laidZ ω.recs).length cbb) ω.area ω.count ω.a ω.b ω.doubt δ (laidZ l).length hn)) ?nx41
     rintro v L' ⟨rfl, rfl⟩
     refine G.q (Quiet.not rfl) rfl (G.nil (G.then_n ?_))
     refine G.condN rfl (fun h36 => ?_) (fun h36 => ?_)
     ·refine G.seq (G.region ?_)
      refine G.oq (OpSpec.store rfl rfl rfl sz_25 ?c44 ?c45) ?nx46
      case c44 => first | decide | (simp; omega) | simp
      case c45 => exact nfz0 _ _
      rintro v L' rfl
      refine G.nil ?_
      refine G.ptCast (b := be) (l' := [vint 30]) (by (repeat' constructor)) rfl ?_
      refine G.then_n (G.ret (G.then_r ?_))
      refine G.doneD Tryz.func96 rfl rfl (doubts_spec x d (.slice arr ω.recs.length crr) ω.synced (.slice abb (laidZ ω.recs).length cbb) ω.area ω.count ω.a ω.b ω.doubt be 30) (by (repeat' constructor)) ?_
      rintro u L' ⟨rfl, rfl⟩
      have e : renewZ δ ω l = (δ, ω, 30) := by unfold renewZ; rw [if_neg hdb, if_neg hlong, if_neg hfull, if_pos h36]
      rw [e, if_neg (show ¬ (30 : Int) = 2 by decide)]
      refine G.wlFold (x := x) (d := d) (ω := ω) (by (repeat' constructor)) rfl rfl rfl rfl rfl ?_
      exact G.done1 rfl (.cell rfl ag_25 (by (repeat' constructor)) rfl) ⟨rfl, rfl⟩ (by (repeat' constructor)) (by (repeat' constructor))
     ·refine G.skip (G.then_n (G.seq (G.seq (G.region (G.mv rfl rfl (G.mv rfl rfl (G.q (Quiet.nilp rfl) rfl (G.q (Quiet.fieldAddr rfl fo_142_4) rfl ?_))))))))
      refine G.q (Quiet.ld rfl ag_3) rfl ?_
      refine G.q (Quiet.sub rfl rfl (by omega)) rfl ?_
      refine G.mv rfl rfl ?_
      refine G.oq (OpSpec.call Tryz.func100 rfl rfl (vs := [_, _, _, _]) rfl (lay_spec4 x d (.slice arr ω.recs.length crr) ω.synced (.slice abb (laidZ ω.recs).length cbb) ω.area ω.count ω.a ω.b ω.doubt (.slice al (laidZ l).length cl) δ (1 - ω.area) (laidZ l) 0 (bytR (.slice al (laidZ l).length cl) (laidZ l)) hn (by omega) (by omega) (fun h hp => slR_rd hp) (by omega) (Nat.zero_le _))) ?nx53
      rintro v L' ⟨rfl, rfl⟩
      refine G.ag rfl rfl (G.nil (G.then_n (G.seq (G.region (G.mv rfl rfl (G.q (Quiet.int rfl rfl rfl) rfl (G.nil (G.then_n ?_))))))))
      refine G.condN rfl (fun h46 => ?_) (fun h46 => ?_)
      ·refine G.seq (G.region (G.mv rfl rfl ?_))
       refine G.oq (OpSpec.store rfl rfl rfl sz_25 ?c56 ?c57) ?nx58
       case c56 => first | decide | (simp; omega) | simp
       case c57 => exact nfz0 _ _
       rintro v L' rfl
       refine G.nil ?_
       refine G.ptCast (b := be) (l' := [vint (layZ δ (1 - ω.area) (laidZ l) 0).2]) (by (repeat' constructor)) rfl ?_
       refine G.then_n (G.ret (G.then_r ?_))
       refine G.doneD Tryz.func96 rfl rfl (doubts_spec x d (.slice arr ω.recs.length crr) ω.synced (.slice abb (laidZ ω.recs).length cbb) ω.area ω.count ω.a ω.b ω.doubt be (layZ δ (1 - ω.area) (laidZ l) 0).2) (by (repeat' constructor)) ?_
       rintro u L' ⟨rfl, rfl⟩
       have h2 : (layZ δ (1 - ω.area) (laidZ l) 0).2 = 2 := by rcases layZ_err δ (1 - ω.area) (laidZ l) 0 with h | h; exact absurd h (by simpa using h46); exact h
       have e : renewZ δ ω l = ((layZ δ (1 - ω.area) (laidZ l) 0).1, { ω with doubt := true }, 2) := by unfold renewZ; rw [if_neg hdb, if_neg hlong, if_neg hfull, if_neg (fun h => h h36), if_pos (by simpa using h46), h2]; rfl
       rw [e, h2, if_pos rfl]
       refine G.wlFold (x := x) (d := d) (ω := { ω with doubt := true }) (by (repeat' constructor)) rfl rfl rfl rfl rfl ?_
       exact G.done1 rfl (.cell rfl ag_25 (by (repeat' constructor)) rfl) ⟨rfl, rfl⟩ (by (repeat' constructor)) (by (repeat' constructor))
      ·refine G.skip (G.then_n (G.seq (G.region (G.mv rfl rfl (G.mv rfl rfl (G.q (Quiet.nilp rfl) rfl (G.q (Quiet.fieldAddr rfl fo_142_4) rfl ?_)))))))
       refine G.q (Quiet.ld rfl ag_3) rfl ?_
       refine G.q (Quiet.sub rfl rfl (by omega)) rfl ?_
       refine G.mv rfl rfl (G.mv rfl rfl ?_)
       refine G.oq (OpSpec.call Tryz.func105 rfl rfl (vs := [_, _, _, _]) rfl (seal_spec x d (.slice arr ω.recs.length crr) (.slice abb (laidZ ω.recs).length cbb) ω (layZ δ (1 - ω.area) (laidZ l) 0).1 (1 - ω.area) _ (.slice al (laidZ l).length cl) l p (bytR (.slice al (laidZ l).length cl) (laidZ l)) hct ?hA66 ?hl67 hr (fun h hp => slR_rd hp))) ?nx68
       case hA66 => have := hlk.2; unfold layZ; omega
       case hl67 => omega
       rintro v L' (⟨δ', hs, rfl, rfl⟩ | ⟨δ', hs, rfl, vr', vb', rfl⟩)
       ·refine G.oq (OpSpec.store rfl rfl rfl sz_25 ?c70 ?c71) ?nx72
        case c70 => first | decide | (simp; omega) | simp
        case c71 => exact nfz0 _ _
        rintro v L' rfl
        refine G.nil ?_
        refine G.ptCast (b := be) (l' := [vint 2]) (by (repeat' constructor)) rfl ?_
        refine G.then_n (G.ret ?_)
        refine G.doneD Tryz.func96 rfl rfl (doubts_spec x d (.slice arr ω.recs.length crr) ω.synced (.slice abb (laidZ ω.recs).length cbb) ω.area ω.count ω.a ω.b ω.doubt be 2) (by (repeat' constructor)) ?_
        rintro u L' ⟨rfl, rfl⟩
        have e : renewZ δ ω l = (δ', { ω with doubt := true }, 2) := by unfold renewZ; rw [if_neg hdb, if_neg hlong, if_neg hfull, if_neg (fun h => h h36), if_neg (by simpa using h46), hs]; rfl
        rw [e, if_pos rfl]
        refine G.wlFold (x := x) (d := d) (ω := { ω with doubt := true }) (by (repeat' constructor)) rfl rfl rfl rfl rfl ?_
        exact G.done1 rfl (.cell rfl ag_25 (by (repeat' constructor)) rfl) ⟨rfl, rfl⟩ (by (repeat' constructor)) (by (repeat' constructor))
       ·refine G.oq (OpSpec.store rfl rfl rfl sz_25 ?c74 ?c75) ?nx76
        case c74 => first | decide | (simp; omega) | simp
        case c75 => exact nfz0 _ _
        rintro v L' rfl
        refine G.nil ?_
        refine G.ptCast (b := be) (l' := [vint 0]) (by (repeat' constructor)) rfl ?_
        refine G.then_n (G.ret ?_)
        refine G.doneD Tryz.func96 rfl rfl (doubts_spec x d vr' _ vb' _ _ _ _ _ be 0) (by (repeat' constructor)) ?_
        rintro u L' ⟨rfl, rfl⟩
        have e : renewZ δ ω l = (δ', { ω with recs := l, synced := l.length, area := 1 - ω.area, count := ω.count + 1 }, 0) := by unfold renewZ; rw [if_neg hdb, if_neg hlong, if_neg hfull, if_neg (fun h => h h36), if_neg (by simpa using h46), hs]; rfl
        rw [e, if_neg (show ¬ (0 : Int) = 2 by decide)]
        refine G.wlFold (x := x) (d := d) (ω := { ω with recs := l, synced := l.length, area := 1 - ω.area, count := ω.count + 1 }) (by (repeat' constructor)) rfl rfl rfl rfl rfl ?_
        exact G.done1 rfl (.cell rfl ag_25 (by (repeat' constructor)) rfl) ⟨rfl, rfl⟩ (by (repeat' constructor)) (by (repeat' constructor))

def mark1 : Mk := ⟨1, 0, 0, 0, 0, 0⟩
def fmtZ (δ : Dk) : Nat → Dk × Int
  | 0 => (δ, 0)
  | 1 => δ.write 0 zs
  | 2 => (δ.write 0 zs).1.write 1 mark1.sec
  | _ => ((δ.write 0 zs).1.write 1 mark1.sec).1.sync
def newW : Wl := ⟨[], 0, 0, 1, 0, 0, false⟩
def formatZ (δ : Dk) : Dk × Option Wl := if (fmtZ δ 1).2 ≠ 0 then ((fmtZ δ 1).1, none) else if (fmtZ δ 2).2 ≠ 0 then ((fmtZ δ 2).1, none) else if (fmtZ δ 3).2 ≠ 0 then ((fmtZ δ 3).1, none) else ((fmtZ δ 3).1, some newW)
theorem fmt1_spec (b1 d : Nat) (δ : Dk) (hA : δ.acts < 4611686018427387904) : Fn Tryz.prog 93 #[vptr b1] [ptc b1 [vptr d] 24, dkR d δ] fun v L => v = vint (δ.write 0 zs).2 ∧ L = [ptc b1 [vptr d] 24, dkR d (δ.write 0 zs).1] := by
 refine Fn.intro (vs := [vptr b1]) Tryz.func93 rfl rfl ?_
 intro F W
 refine G.seq (G.region (G.ag rfl rfl (G.nil (G.then_n (G.seq ?_)))))
 refine G.draw [1, 3] [[0, 1, 2], [3], [4]] mixed (by kernel_rfl) ?_
 refine Phases.go [ptc b1 [vptr d] 24] (by (repeat' constructor)) ?_
 refine D.k rfl (Quiet.ld rfl ag_24) ?_
 refine D.h rfl (by kernel_rfl) (OpSpec.make rfl rfl el_125 ze_5 rfl ⟨by simp, by simp; rfl⟩ ?hc3) (by (repeat' constructor)) ?nx4
 case hc3 => omega
 rintro v L' ⟨bz, rfl, rfl⟩; rw [show (64 : Int).toNat = 64 from rfl]
 refine D.kw [] rfl (Quiet.bytesPt (cs := zs) rfl Tryz.underlying125 Tryz.underlying5 Tryz.underlying9 (by (repeat' constructor)) rfl (by decide) (by decide)) ?_
 refine D.ph ?_
 refine Phases.go [] (by (repeat' constructor)) ?_
 refine D.h rfl (by kernel_rfl) (OpSpec.call Tryz.func23 rfl rfl (vs := [_, _, _]) rfl (write_spec d δ 0 zs hA)) (by (repeat' constructor)) ?nx7
 rintro v L' ⟨rfl, rfl⟩
 refine D.ph ?_
 refine Phases.go [] (by (repeat' constructor)) ?_
 refine D.kw [] rfl (Quiet.assign rfl) ?_
 refine D.ph (Phases.fin (G.then_n (G.ret ?_)))
 exact G.dn (l := [.tmp 1]) rfl rfl ⟨rfl, rfl⟩

theorem fmt2_spec (b1 d : Nat) (δ : Dk) (hA : δ.acts < 4611686018427387904) : Fn Tryz.prog 94 #[vptr b1] [ptc b1 [vptr d] 24, dkR d δ] fun v L => v = vint (δ.write 1 mark1.sec).2 ∧ L = [ptc b1 [vptr d] 24, dkR d (δ.write 1 mark1.sec).1] := by
 refine Fn.intro (vs := [vptr b1]) Tryz.func94 rfl rfl ?_
 intro F W
 refine G.seq (G.region (G.ag rfl rfl (G.nil (G.then_n (G.seq ?_)))))
 refine G.draw [3] [[0, 1, 2, 3], [4]] mixed (by kernel_rfl) ?_
 refine Phases.go [ptc b1 [vptr d] 24] (by (repeat' constructor)) ?_
 refine D.kw [3] rfl (Quiet.ld rfl ag_24) ?_
 refine D.kw [2, 3] rfl (Quiet.to (v' := .agg (mkC mark1).toArray) (Quiet.build (us := [(0, _)]) fl_139 ze_139 rfl rfl (by simp [isCell])) rfl) ?_
 refine D.m rfl (by kernel_rfl) (OpSpec.call Tryz.func95 rfl rfl (vs := [_]) rfl (sector_spec mark1)) (by (repeat' constructor)) ?nx4
 refine D.h rfl (by kernel_rfl) (OpSpec.call Tryz.func23 rfl rfl (vs := [_, _, _]) rfl (write_spec d δ 1 mark1.sec hA)) (by (repeat' constructor)) ?nx6
 rintro v L' ⟨rfl, rfl⟩
 refine D.ph ?_
 refine Phases.go [] (by (repeat' constructor)) ?_
 refine D.kw [] rfl (Quiet.assign rfl) ?_
 refine D.ph (Phases.fin (G.then_n (G.ret ?_)))
 exact G.dn (l := [.tmp 1]) rfl rfl ⟨rfl, rfl⟩

end Go.Proofs.YtidjhgbdokcphaaGreat

/- Own work, by program: Format: walked. -/

namespace Go.Proofs.YtidjhgbdokcphaaGreat
open Go
theorem fmtZ_keeps (δ : Dk) (i : Nat) : (fmtZ δ i).1.now.length = δ.now.length ∧ (fmtZ δ i).1.acts ≤ δ.acts + 3 := by
  have h1 := write_keeps δ 0 zs
  have h2 := write_keeps (δ.write 0 zs).1 1 mark1.sec
  have h3 := sync_keeps ((δ.write 0 zs).1.write 1 mark1.sec).1
  match i with
  | 0 => exact ⟨rfl, by show δ.acts ≤ _; omega⟩
  | 1 => exact ⟨h1.1, by show (δ.write 0 zs).1.acts ≤ _; omega⟩
  | 2 => exact ⟨by show ((δ.write 0 zs).1.write 1 mark1.sec).1.now.length = _; omega, by show ((δ.write 0 zs).1.write 1 mark1.sec).1.acts ≤ _; omega⟩
  | (n + 3) => exact ⟨by show (((δ.write 0 zs).1.write 1 mark1.sec).1.sync).1.now.length = _; rw [h3.1]; omega, by show (((δ.write 0 zs).1.write 1 mark1.sec).1.sync).1.acts ≤ _; omega⟩
theorem ze_67 : zeroOf Tryz.prog 67 = some .nilFunc := by kernel_rfl
theorem ag_67 : aggOf Tryz.prog 67 = some none := by kernel_rfl
theorem format_spec (d : Nat) (δ : Dk) (hA : δ.acts + 10 < 4611686018427387904) : Fn Tryz.prog 44 #[vptr d] [dkR d δ] fun v L => ((formatZ δ).2 = none ∧ v = .tuple #[.pointer none, vint 2] ∧ L = [dkR d (formatZ δ).1]) ∨
    ((formatZ δ).2 = some newW ∧ ∃ x, v = .tuple #[vptr x, vint 0] ∧ L = [dkR d (formatZ δ).1, wlR x d newW]) := by
 refine Fn.intro (vs := [vptr d]) Tryz.func44 rfl rfl ?_
 intro F W
 have hk := fmtZ_keeps δ
 refine G.seq (G.region ?_)
 refine G.oq (OpSpec.box rfl) ?nx1
 rintro v L' ⟨b1, rfl, rfl⟩
 refine G.ag rfl rfl (G.ag rfl rfl (G.nil ?_))
 refine G.ptCast (b := b1) (l' := [vptr d]) (by (repeat' constructor)) rfl ?_
 refine G.then_n (G.seq (G.seq (G.region ?_)))
 refine G.q (Quiet.ld rfl ag_24) rfl ?_
 refine G.q (Quiet.ptreq rfl rfl Tryz.underlying24) rfl (G.nil (G.then_n (G.condF rfl (G.skip (G.then_n (G.seq (G.seq (G.region (G.q (Quiet.func (us := []) (vs := [_]) rfl rfl) rfl (G.q (Quiet.func (us := []) (vs := [_]) rfl rfl) rfl ?_))))))))))
 refine G.q (Quiet.ld rfl ag_24) rfl ?_
 refine G.q (Quiet.func (us := [_]) (vs := []) rfl rfl) rfl ?_
 refine G.oq (OpSpec.buildSlice1 (vs := [_, _, _]) el_140 ze_67 rfl rfl rfl rfl rfl (by decide)) ?nx11
 rintro v L' ⟨b3_4, rfl, rfl⟩
 refine G.q (Quiet.slen rfl Tryz.underlying140 rfl) rfl (G.mv rfl rfl (G.nil (G.then_n (G.block ?_))))
 refine G.loopK (ι := Nat) (fun q E => (14, vint q) :: E) (fun q => [dkR d (fmtZ δ q).1]) (fun q => q ≤ 3 ∧ ∀ j, j < q → (fmtZ δ (j + 1)).2 = 0) (fun q => 3 - q) (0) (ts := [1, 12, 13]) (.cons rfl (.cons rfl (.cons rfl (.nil)))) (⟨Nat.zero_le _, fun j hj => by omega⟩) ⟨rfl, rfl, rfl, rfl, trivial⟩ (by (repeat' constructor)) ?_
 rintro i ⟨hi, hb⟩
 refine G.seq (G.region (G.q (Quiet.int rfl rfl rfl) rfl (G.nil (G.then_n (G.seq ?_)))))
 refine G.condD rfl (fun h15 => ?_) (fun h15 => ?_)
 ·refine G.skip (G.then_n (G.seq (G.block (G.seq (G.region ?_)))))
  rcases (show i = 0 ∨ i = 1 ∨ i = 2 by omega) with rfl | rfl | rfl
  ·refine G.q (Quiet.indexAddr rfl rfl el_140 (by omega)) rfl ?_
   refine G.q (Quiet.ld rfl ag_67) rfl ?_
   refine G.ag rfl rfl (G.nil (G.then_n (G.seq (G.region (G.mv rfl rfl ?_)))))
   refine G.oq (OpSpec.callV Tryz.func93 rfl rfl (us := []) (vs := []) (ws := [_]) rfl rfl (fmt1_spec b1 d δ (by omega))) ?nx18
   rintro v L' ⟨rfl, rfl⟩
   refine G.q (Quiet.int rfl rfl rfl) rfl (G.nil (G.then_n ?_))
   refine G.condN rfl (fun h20 => ?_) (fun h20 => ?_)
   ·refine G.seq (G.region (G.ag rfl rfl (G.ag rfl rfl (G.nil (G.then_n (G.ret (G.blk_r (G.then_r (G.then_r (G.blk_r (G.then_r ?_)))))))))))
    have hF : formatZ δ = ((fmtZ δ 1).1, none) := by unfold formatZ; rw [if_pos (show (fmtZ δ 1).2 ≠ 0 from h20)]
    exact G.dn (l := [.tmp 2, .tmp 3]) rfl rfl (.inl ⟨by rw [hF], rfl, by rw [hF]⟩)
   ·refine G.skip (G.blk_n (G.then_n (G.region ?_)))
    refine G.q (Quiet.add rfl rfl (by omega)) rfl ?_
    refine G.mv rfl rfl (G.nil (G.then_n ?_))
    exact G.roundK (1) (⟨by omega, fun j hj => by rcases Nat.lt_or_ge j 0 with h | h; exact hb j h; obtain rfl : j = 0 := (by omega); exact h20⟩) (by omega) ⟨rfl, rfl, rfl, rfl, trivial⟩ (by (repeat' constructor)) (by ((repeat (apply Have.cons; (repeat (first | exact Pick.here | apply Pick.there)))); apply Have.base; repeat' constructor))
  ·refine G.q (Quiet.indexAddr rfl rfl el_140 (by omega)) rfl ?_
   refine G.q (Quiet.ld rfl ag_67) rfl ?_
   refine G.ag rfl rfl (G.nil (G.then_n (G.seq (G.region (G.mv rfl rfl ?_)))))
   refine G.oq (OpSpec.callV Tryz.func94 rfl rfl (us := []) (vs := []) (ws := [_]) rfl rfl (fmt2_spec b1 d (fmtZ δ 1).1 (by have := (fmtZ_keeps δ 1).2; omega))) ?nx26
   rintro v L' ⟨rfl, rfl⟩
   refine G.q (Quiet.int rfl rfl rfl) rfl (G.nil (G.then_n ?_))
   refine G.condN rfl (fun h20 => ?_) (fun h20 => ?_)
   ·refine G.seq (G.region (G.ag rfl rfl (G.ag rfl rfl (G.nil (G.then_n (G.ret (G.blk_r (G.then_r (G.then_r (G.blk_r (G.then_r ?_)))))))))))
    have hF : formatZ δ = ((fmtZ δ 2).1, none) := by unfold formatZ; rw [if_neg (by rw [hb 0 (by omega)]; decide), if_pos (show (fmtZ δ 2).2 ≠ 0 from h20)]
    exact G.dn (l := [.tmp 2, .tmp 3]) rfl rfl (.inl ⟨by rw [hF], rfl, by rw [hF]⟩)
   ·refine G.skip (G.blk_n (G.then_n (G.region ?_)))
    refine G.q (Quiet.add rfl rfl (by omega)) rfl ?_
    refine G.mv rfl rfl (G.nil (G.then_n ?_))
    exact G.roundK (2) (⟨by omega, fun j hj => by rcases Nat.lt_or_ge j 1 with h | h; exact hb j h; obtain rfl : j = 1 := (by omega); exact h20⟩) (by omega) ⟨rfl, rfl, rfl, rfl, trivial⟩ (by (repeat' constructor)) (by ((repeat (apply Have.cons; (repeat (first | exact Pick.here | apply Pick.there)))); apply Have.base; repeat' constructor))
  ·refine G.q (Quiet.indexAddr rfl rfl el_140 (by omega)) rfl ?_
   refine G.q (Quiet.ld rfl ag_67) rfl ?_
   refine G.ag rfl rfl (G.nil (G.then_n (G.seq (G.region (G.mv rfl rfl ?_)))))
   refine G.oq (OpSpec.callV Tryz.func86 rfl rfl (us := [_]) (vs := []) (ws := []) rfl rfl (sync_spec d (fmtZ δ 2).1 ?hA34)) ?nx35
   case hA34 => have := (fmtZ_keeps δ 2).2; omega
   rintro v L' ⟨rfl, rfl⟩
   refine G.q (Quiet.int rfl rfl rfl) rfl (G.nil (G.then_n ?_))
   refine G.condN rfl (fun h20 => ?_) (fun h20 => ?_)
   ·refine G.seq (G.region (G.ag rfl rfl (G.ag rfl rfl (G.nil (G.then_n (G.ret (G.blk_r (G.then_r (G.then_r (G.blk_r (G.then_r ?_)))))))))))
    have hF : formatZ δ = ((fmtZ δ 3).1, none) := by unfold formatZ; rw [if_neg (by rw [hb 0 (by omega)]; decide), if_neg (by rw [hb 1 (by omega)]; decide), if_pos (show (fmtZ δ 3).2 ≠ 0 from h20)]
    exact G.dn (l := [.tmp 2, .tmp 3]) rfl rfl (.inl ⟨by rw [hF], rfl, by rw [hF]⟩)
   ·refine G.skip (G.blk_n (G.then_n (G.region ?_)))
    refine G.q (Quiet.add rfl rfl (by omega)) rfl ?_
    refine G.mv rfl rfl (G.nil (G.then_n ?_))
    exact G.roundK (3) (⟨by omega, fun j hj => by rcases Nat.lt_or_ge j 2 with h | h; exact hb j h; obtain rfl : j = 2 := (by omega); exact h20⟩) (by omega) ⟨rfl, rfl, rfl, rfl, trivial⟩ (by (repeat' constructor)) (by ((repeat (apply Have.cons; (repeat (first | exact Pick.here | apply Pick.there)))); apply Have.base; repeat' constructor))
 ·refine G.exit (G.then_e (G.then_e (G.blk_e (G.then_n (G.seq ?_)))))
  obtain rfl : i = 3 := by omega
  refine G.add (slR_nil 9 1) (G.add (slR_nil 5 1) (G.region ?_))
  refine G.q (Quiet.ld rfl ag_24) rfl ?_
  refine G.q (Quiet.build (us := [(0, _), (5, _)]) fl_142 ze_142 rfl rfl (by simp [isCell])) rfl ?_
  refine G.oq (OpSpec.box rfl) ?nx43
  rintro v L' ⟨x, rfl, rfl⟩
  refine G.ag rfl rfl (G.ag rfl rfl (G.nil ?_))
  refine G.ptCast (b := x) (l' := [vptr d, .slice none 0 0, vint 0, .slice none 0 0, vint 0, vint 1, vint 0, vint 0, .bool false]) (by (repeat' constructor)) rfl ?_
  refine G.then_n (G.ret ?_)
  have hF : formatZ δ = ((fmtZ δ 3).1, some newW) := by unfold formatZ; rw [if_neg (by rw [hb 0 (by omega)]; decide), if_neg (by rw [hb 1 (by omega)]; decide), if_neg (by rw [hb 2 (by omega)]; decide)]
  refine G.wlFold (x := x) (d := d) (ω := newW) (by (repeat' constructor)) rfl rfl rfl rfl rfl ?_
  exact G.dn (l := [.tmp 2, .tmp 3]) rfl rfl (.inr ⟨by rw [hF], x, rfl, by rw [hF]⟩)

end Go.Proofs.YtidjhgbdokcphaaGreat

/- Own work: a ledger as plain data, in memory, and what its calls do. -/
namespace Go.Proofs.YtidjhgbdokcphaaGreat
open Go

structure Lg where
  acc : Int
  cur : Int
  base : Int
  snap : Bs
  ents : List Bs
  zxs : List Int
  doubt : Bool
def lg0 : Lg := ⟨0, 0, 0, [], [], [], false⟩
def lgR (g x : Nat) (Λ : Lg) : HP := fun h => ∃ y : (Option Addr × Nat) × (Option Addr × Nat), True ∧ sep [ptc g [vint Λ.acc, vint Λ.cur, vptr x, vint Λ.base, vstr Λ.snap, .slice y.1.1 Λ.ents.length y.1.2, .slice y.2.1 Λ.zxs.length y.2.2, .bool Λ.doubt] 79,
  strR (.slice y.1.1 Λ.ents.length y.1.2) Λ.ents, intR (.slice y.2.1 Λ.zxs.length y.2.2) Λ.zxs] h
section
variable {W : World} {n : Nat} {ds : List Deferred} {E : Env} {L R : List HP} {X : Act → World → Prop}
theorem G.lgOpen {g x : Nat} {Λ : Lg} (hL : Pick (lgR g x Λ) L R) (h : ∀ ea ec za zc, G W n ds E (ptc g [vint Λ.acc, vint Λ.cur, vptr x, vint Λ.base, vstr Λ.snap, .slice ea Λ.ents.length ec, .slice za Λ.zxs.length zc, .bool Λ.doubt] 79 :: strR (.slice ea Λ.ents.length ec) Λ.ents :: intR (.slice za Λ.zxs.length zc) Λ.zxs :: R) X) : G W n ds E L X :=
  G.focus hL (G.open (q := fun y : (Option Addr × Nat) × (Option Addr × Nat) => [ptc g [vint Λ.acc, vint Λ.cur, vptr x, vint Λ.base, vstr Λ.snap, .slice y.1.1 Λ.ents.length y.1.2, .slice y.2.1 Λ.zxs.length y.2.2, .bool Λ.doubt] 79, strR (.slice y.1.1 Λ.ents.length y.1.2) Λ.ents, intR (.slice y.2.1 Λ.zxs.length y.2.2) Λ.zxs]) (φ := fun _ => True) (fun _ hp => hp) fun y _ => h y.1.1 y.1.2 y.2.1 y.2.2)
theorem G.lgFold {g x : Nat} (Λ : Lg) {l es zs : List Value} {ea za : Option Addr} {ec zc m k : Nat} (hL : Picks [ptc g l 79, slR 9 1 (.slice ea m ec) m es, slR 3 1 (.slice za k zc) k zs] L R)
    (hl : l = [vint Λ.acc, vint Λ.cur, vptr x, vint Λ.base, vstr Λ.snap, .slice ea m ec, .slice za k zc, .bool Λ.doubt]) (hm : m = Λ.ents.length) (hk : k = Λ.zxs.length) (he : es = strs Λ.ents) (hz : zs = ints Λ.zxs) (h : G W n ds E (lgR g x Λ :: R) X) : G W n ds E L X := by
  subst hl; subst hm; subst hk; subst he; subst hz
  exact G.fold hL (fun _ hp => ⟨((ea, ec), (za, zc)), trivial, hp⟩) h
end
def lastZ (Λ : Lg) : Int := Λ.zxs.getLast?.getD Λ.base
def Lg.met (Λ : Lg) (e : Int) : Lg := if e = 2 then ⟨Λ.acc, Λ.cur, Λ.base, Λ.snap, Λ.ents, Λ.zxs, true⟩ else Λ
def metE (e : Int) : Int := if e = 30 ∨ e = 33 then 83 else e
def Lg.keep (Λ : Lg) (s : Bs) (z : Int) : Lg := ⟨Λ.acc, Λ.cur, Λ.base, Λ.snap, Λ.ents ++ [s], Λ.zxs ++ [z], Λ.doubt⟩
def chunkF : Nat → Bs → List Bs
  | 0, _ => []
  | f + 1, s => if s = [] then [] else s.take 4000 :: chunkF f (s.drop 4000)
def chunkL (s : Bs) : List Bs := chunkF s.length s
def headB (base : Int) (n : Nat) : Bs := numB base ++ cntB n
def headL (base : Int) (snap : Bs) : List Bs := headB base snap.length :: chunkL snap
theorem chunkF_more : ∀ (f g : Nat) (s : Bs), s.length ≤ f → s.length ≤ g → chunkF f s = chunkF g s
  | 0, 0, _, _, _ => rfl
  | 0, g + 1, s, h, _ => by
    have : s = [] := List.eq_nil_of_length_eq_zero (by omega)
    subst this; rfl
  | f + 1, 0, s, _, h => by
    have : s = [] := List.eq_nil_of_length_eq_zero (by omega)
    subst this; rfl
  | f + 1, g + 1, s, hf, hg => by
    unfold chunkF
    split
    · rfl
    · rename_i h
      have : 0 < s.length := List.length_pos_iff.2 h
      rw [chunkF_more f g (s.drop 4000) (by rw [List.length_drop]; omega) (by rw [List.length_drop]; omega)]
theorem chunk_cons {s : Bs} (h : s ≠ []) : chunkL s = s.take 4000 :: chunkL (s.drop 4000) := by
  have hl : 0 < s.length := List.length_pos_iff.2 h
  unfold chunkL
  rw [chunkF_more s.length (s.length - 1 + 1) s (by omega) (by omega)]
  show (if s = [] then [] else s.take 4000 :: chunkF (s.length - 1) (s.drop 4000)) = _
  rw [if_neg h, chunkF_more (s.length - 1) (s.drop 4000).length (s.drop 4000) (by rw [List.length_drop]; omega) (Nat.le_refl _)]
theorem chunk_nil' : chunkL [] = [] := rfl
def slen : Value → Nat
  | .slice _ n _ => n
  | _ => 0
def noSubs (e : En) : Bool := e.subs.all fun y => decide (slen y.subsV = 0)
def fitsE (e : En) : Bool := noSubs e && (getZ (enB e)).isSome
structure Ld where
  δ : Dk
  ω : Wl
  Λ : Lg
def metL (Λ : Lg) (r : Dk × Wl × Int) : Ld × Int := (⟨r.1, r.2.1, Λ.met r.2.2⟩, metE r.2.2)
def lgAppend (s : Ld) (e : En) : Ld × Int :=
  if s.Λ.doubt = true then (s, 2) else if fitsE e = false then (s, 1) else if e.zx ≤ lastZ s.Λ then (s, 81) else if s.Λ.ents.length = 200 ∨ ((enB e).length : Int) > roomZ s.δ s.ω then (s, 83)
  else if (metL s.Λ (appendZ s.δ s.ω (enB e))).2 = 0 then (⟨(appendZ s.δ s.ω (enB e)).1, (appendZ s.δ s.ω (enB e)).2.1, (metL s.Λ (appendZ s.δ s.ω (enB e))).1.Λ.keep (enB e) e.zx⟩, 0) else metL s.Λ (appendZ s.δ s.ω (enB e))
def lgSync (s : Ld) : Ld × Int := if s.Λ.doubt = true then (s, 2) else metL s.Λ (syncZ s.δ s.ω)
def Lg.setAcc (Λ : Lg) (n : Int) : Lg := ⟨n, Λ.cur, Λ.base, Λ.snap, Λ.ents, Λ.zxs, Λ.doubt⟩
def Lg.setCur (Λ : Lg) (n : Int) : Lg := ⟨Λ.acc, n, Λ.base, Λ.snap, Λ.ents, Λ.zxs, Λ.doubt⟩
def lgAccept (s : Ld) (n : Int) : Ld × Int :=
  if s.Λ.doubt = true then (s, 2) else if n < s.Λ.acc ∨ n > 1073741824 then (s, 82) else if n = s.Λ.acc then (s, 0)
  else if (metL s.Λ (setmZ s.δ s.ω n s.Λ.cur)).2 = 0 then (⟨(setmZ s.δ s.ω n s.Λ.cur).1, (setmZ s.δ s.ω n s.Λ.cur).2.1, (metL s.Λ (setmZ s.δ s.ω n s.Λ.cur)).1.Λ.setAcc n⟩, 0) else metL s.Λ (setmZ s.δ s.ω n s.Λ.cur)
def lgAdopt2 (s : Ld) (n : Int) : Ld × Int :=
  if (metL s.Λ (setmZ s.δ s.ω s.Λ.acc n)).2 = 0 then (⟨(setmZ s.δ s.ω s.Λ.acc n).1, (setmZ s.δ s.ω s.Λ.acc n).2.1, (metL s.Λ (setmZ s.δ s.ω s.Λ.acc n)).1.Λ.setCur n⟩, 0) else metL s.Λ (setmZ s.δ s.ω s.Λ.acc n)
def lgAdopt (s : Ld) (n : Int) : Ld × Int :=
  if s.Λ.doubt = true then (s, 2) else if n < s.Λ.cur ∨ n > s.Λ.acc then (s, 82) else if (lgSync s).2 ≠ 0 then lgSync s else lgAdopt2 (lgSync s).1 n
def markStep (out : List Int) (z : Int) : List Int :=
  if z = 0 then out else if out ≠ [] ∧ (out.getLastD 0) / 4294967296 = z / 4294967296 then out.dropLast ++ [z] else out ++ [z]
def marksZ (Λ : Lg) : List Int := (Λ.base :: Λ.zxs).foldl markStep []
structure LgI (Λ : Lg) : Prop where
  ents : Λ.ents.length ≤ 200
  same : Λ.zxs.length = Λ.ents.length
  each : ∀ s ∈ Λ.ents, s.length ≤ 1073741824
  base : I64 Λ.base
  zxs : ∀ z ∈ Λ.zxs, I64 z
end Go.Proofs.YtidjhgbdokcphaaGreat

/- Own work, by program: package ledger: walked. -/

namespace Go.Proofs.YtidjhgbdokcphaaGreat
open Go
theorem take_min (t : Bs) (k : Nat) : t.take (min k t.length) = t.take k := by
  rcases Nat.le_total k t.length with h | h
  · rw [Nat.min_eq_left h]
  · rw [Nat.min_eq_right h, List.take_of_length_le (Nat.le_refl _), List.take_of_length_le h]
theorem drop_min (t : Bs) (k : Nat) : t.drop (min k t.length) = t.drop k := by
  rcases Nat.le_total k t.length with h | h
  · rw [Nat.min_eq_left h]
  · rw [Nat.min_eq_right h, List.drop_eq_nil_of_le (Nat.le_refl _), List.drop_eq_nil_of_le h]
theorem OpSpec.shaped1 {P : Program} {E : Env} {o : Oper} {pre R : List HP} {e : TypeId} {sz k : Nat} {ys : List Value} (hk : 0 < k) (h : OpSpec P o E pre fun v L' => (∃ a c, v = .slice a k c) ∧ L' = slR e sz v k ys :: R) :
    OpSpec P o E pre fun v L' => ∃ b c, v = .slice (some ⟨b, 0, none⟩) k c ∧ L' = slR e sz v k ys :: R := by
  intro ρ w F ha hs
  refine (h ρ w F ha hs).mono ?_
  rintro v w' ⟨L', ⟨-, rfl⟩, hs', hk'⟩
  obtain ⟨h1, -, hp⟩ := sep_head hs'
  rcases hp with ⟨-, h2, -⟩ | ⟨b, cap, rest, fr, hv, -⟩
  · omega
  · exact ⟨_, ⟨b, cap, hv, rfl⟩, hs', hk'⟩
theorem lkeep_spec (g x : Nat) (Λ : Lg) (s : Bs) (z : Int) (hl : LgI Λ) : Fn Tryz.prog 51 #[vptr g, vstr s, vint z] [lgR g x Λ] fun v L => v = .tuple #[] ∧ L = [lgR g x (Λ.keep s z)] := by
 refine Fn.intro (vs := [vptr g, vstr s, vint z]) Tryz.func51 rfl rfl ?_
 intro F W
 refine G.lgOpen (by (repeat' constructor)) fun ea ec za zc => ?_
 have h1 := hl.ents
 have h2 := hl.same
 refine G.seq (G.region (G.mv rfl rfl (G.mv rfl rfl (G.q (Quiet.nilp rfl) rfl (G.q (Quiet.fieldAddr rfl fo_79_4) rfl ?_)))))
 refine G.q (Quiet.ld rfl ag_46) rfl ?_
 refine G.mv rfl rfl ?_
 refine G.oq (OpSpec.buildSlice1 (vs := [_]) el_46 ze_9 rfl rfl rfl rfl rfl (by decide)) ?nx7
 rintro v L' ⟨b0, rfl, rfl⟩
 refine G.oq (OpSpec.append1 rfl rfl rfl el_46 ze_9 rfl rfl ?c9 ?c10 (Nat.le_refl _) ?c11 (by decide)) ?nx12
 case c9 => (first | (simp [isCell]; done) | (simp [isCell, setAll, Value.cells]; done))
 case c10 => rfl
 case c11 => omega
 rintro v L' ⟨⟨a0, c0, rfl⟩, rfl⟩
 refine G.q (Quiet.nilp rfl) rfl (G.q (Quiet.fieldAddr rfl fo_79_4) rfl ?_)
 refine G.oq (OpSpec.store rfl rfl rfl sz_46 ?c16 ?c17) ?nx18
 case c16 => first | decide | (simp; omega) | simp
 case c17 => exact nfz0 _ _
 rintro v L' rfl
 refine G.nil (G.then_n (G.region (G.mv rfl rfl (G.mv rfl rfl (G.q (Quiet.nilp rfl) rfl (G.q (Quiet.fieldAddr rfl fo_79_5) rfl ?_))))))
 refine G.q (Quiet.ld rfl ag_31) rfl ?_
 refine G.mv rfl rfl ?_
 refine G.oq (OpSpec.buildSlice1 (vs := [_]) el_31 ze_3 rfl rfl rfl rfl rfl (by decide)) ?nx25
 rintro v L' ⟨b1, rfl, rfl⟩
 refine G.oq (OpSpec.append1 rfl rfl rfl el_31 ze_3 rfl rfl ?c27 ?c28 (Nat.le_refl _) ?c29 (by decide)) ?nx30
 case c27 => (first | (simp [isCell]; done) | (simp [isCell, setAll, Value.cells]; done))
 case c28 => rfl
 case c29 => omega
 rintro v L' ⟨⟨a1, c1, rfl⟩, rfl⟩
 refine G.q (Quiet.nilp rfl) rfl (G.q (Quiet.fieldAddr rfl fo_79_5) rfl ?_)
 refine G.oq (OpSpec.store rfl rfl rfl sz_31 ?c34 ?c35) ?nx36
 case c34 => first | decide | (simp; omega) | simp
 case c35 => exact nfz0 _ _
 rintro v L' rfl
 refine G.nil (G.done_n ?_)
 refine G.lgFold (g := g) (x := x) (Λ.keep s z) (by (repeat' constructor)) (by exact rfl) (by first | rfl | simp [Lg.keep]) (by first | rfl | simp [Lg.keep]) (by first | rfl | simp [Lg.keep]) (by first | rfl | simp [Lg.keep]) ?_
 exact G.dn (l := []) rfl rfl ⟨rfl, rfl⟩

theorem lmet_spec (g x : Nat) (Λ : Lg) (e : Int) : Fn Tryz.prog 50 #[vptr g, vint e] [lgR g x Λ] fun v L => v = vint (metE e) ∧ L = [lgR g x (Λ.met e)] := by
 refine Fn.intro (vs := [vptr g, vint e]) Tryz.func50 rfl rfl ?_
 intro F W
 refine G.lgOpen (by (repeat' constructor)) fun ea ec za zc => ?_
 refine G.seq (G.region (G.ag rfl rfl (G.nil (G.then_n (G.seq (G.seq (G.region (G.mv rfl rfl (G.nil (G.then_n (G.block (G.seq (G.region (G.q (Quiet.int rfl rfl rfl) rfl (G.ag rfl rfl (G.nil (G.then_n ?_)))))))))))))))))
 refine G.condD rfl (fun h6 => ?_) (fun h6 => ?_)
 ·refine G.region (G.mv rfl rfl (G.q (Quiet.nilp rfl) rfl (G.q (Quiet.fieldAddr rfl fo_79_6) rfl ?_)))
  refine G.oq (OpSpec.store rfl rfl rfl sz_4 ?c7 ?c8) ?nx9
  case c7 => first | decide | (simp; omega) | simp
  case c8 => exact nfz0 _ _
  rintro v L' rfl
  refine G.nil (G.blk_n (G.then_n (G.seq (G.region (G.mv rfl rfl (G.ag rfl rfl (G.nil (G.then_n (G.ret ?_)))))))))
  have hm : Λ.met e = ⟨Λ.acc, Λ.cur, Λ.base, Λ.snap, Λ.ents, Λ.zxs, true⟩ := by unfold Lg.met; rw [if_pos h6]
  have he : metE e = e := by unfold metE; rw [if_neg (by omega)]
  rw [hm, he]
  refine G.lgFold (g := g) (x := x) ⟨Λ.acc, Λ.cur, Λ.base, Λ.snap, Λ.ents, Λ.zxs, true⟩ (by (repeat' constructor)) (by exact rfl) (by first | rfl | simp [Lg.keep]) (by first | rfl | simp [Lg.keep]) (by first | rfl | simp [Lg.keep]) (by first | rfl | simp [Lg.keep]) ?_
  exact G.dn (l := [.tmp 4]) rfl rfl ⟨rfl, rfl⟩
 ·refine G.seq (G.seq (G.region (G.q (Quiet.int rfl rfl rfl) rfl (G.ag rfl rfl (G.nil (G.then_n ?_))))))
  refine G.dec (t := 11) rfl (fun h11 => ?_) (fun h11 => ?_)
  ·refine G.condT rfl (G.skip (G.then_n (G.condT rfl (G.seq (G.region (G.ag rfl rfl (G.nil (G.then_n (G.ret (G.blk_r (G.then_r ?_)))))))))))
   have hm : Λ.met e = Λ := by unfold Lg.met; rw [if_neg h6]
   have he : metE e = 83 := by unfold metE; rw [if_pos (by omega)]
   rw [hm, he]
   refine G.lgFold (g := g) (x := x) Λ (by (repeat' constructor)) (by exact rfl) (by first | rfl | simp [Lg.keep]) (by first | rfl | simp [Lg.keep]) (by first | rfl | simp [Lg.keep]) (by first | rfl | simp [Lg.keep]) ?_
   exact G.dn (l := [.tmp 4]) rfl rfl ⟨rfl, rfl⟩
  ·refine G.condF rfl (G.region (G.q (Quiet.int rfl rfl rfl) rfl (G.ag rfl rfl (G.nil (G.then_n ?_)))))
   refine G.dec (t := 11) rfl (fun h11 => ?_) (fun h11 => ?_)
   ·refine G.condT rfl (G.seq (G.region (G.ag rfl rfl (G.nil (G.then_n (G.ret (G.blk_r (G.then_r ?_))))))))
    have hm : Λ.met e = Λ := by unfold Lg.met; rw [if_neg h6]
    have he : metE e = 83 := by unfold metE; rw [if_pos (by omega)]
    rw [hm, he]
    refine G.lgFold (g := g) (x := x) Λ (by (repeat' constructor)) (by exact rfl) (by first | rfl | simp [Lg.keep]) (by first | rfl | simp [Lg.keep]) (by first | rfl | simp [Lg.keep]) (by first | rfl | simp [Lg.keep]) ?_
    exact G.dn (l := [.tmp 4]) rfl rfl ⟨rfl, rfl⟩
   ·refine G.condF rfl (G.skip (G.blk_n (G.then_n (G.seq (G.region (G.mv rfl rfl (G.ag rfl rfl (G.nil (G.then_n (G.ret ?_))))))))))
    have hm : Λ.met e = Λ := by unfold Lg.met; rw [if_neg h6]
    have he : metE e = e := by unfold metE; rw [if_neg (by omega)]
    rw [hm, he]
    refine G.lgFold (g := g) (x := x) Λ (by (repeat' constructor)) (by exact rfl) (by first | rfl | simp [Lg.keep]) (by first | rfl | simp [Lg.keep]) (by first | rfl | simp [Lg.keep]) (by first | rfl | simp [Lg.keep]) ?_
    exact G.dn (l := [.tmp 4]) rfl rfl ⟨rfl, rfl⟩

theorem last_nil {Λ : Lg} (h : Λ.zxs.length = 0) : lastZ Λ = Λ.base := by
  unfold lastZ; rw [List.eq_nil_of_length_eq_zero h]; rfl
theorem last_at {Λ : Lg} {i : Nat} (h : i + 1 = Λ.zxs.length) : lastZ Λ = Λ.zxs[i]'(by omega) := by
  unfold lastZ
  rw [List.getLast?_eq_getElem?, List.getElem?_eq_getElem (by omega)]
  simp only [Option.getD_some]
  congr 1; omega
theorem llast_spec (g x : Nat) (Λ : Lg) (hl : LgI Λ) : Fn Tryz.prog 17 #[vptr g] [lgR g x Λ] fun v L => v = vint (lastZ Λ) ∧ L = [lgR g x Λ] := by
 refine Fn.intro (vs := [vptr g]) Tryz.func17 rfl rfl ?_
 intro F W
 refine G.lgOpen (by (repeat' constructor)) fun ea ec za zc => ?_
 have h1 := hl.ents
 have h2 := hl.same
 refine G.seq (G.region (G.ag rfl rfl (G.nil (G.then_n (G.seq (G.seq (G.region (G.mv rfl rfl (G.q (Quiet.nilp rfl) rfl (G.q (Quiet.fieldAddr rfl fo_79_5) rfl ?_))))))))))
 refine G.q (Quiet.ld rfl ag_31) rfl ?_
 refine G.q (Quiet.slen rfl Tryz.underlying31 rfl) rfl (G.q (Quiet.int rfl rfl rfl) rfl (G.nil (G.then_n ?_)))
 refine G.condD rfl (fun h8 => ?_) (fun h8 => ?_)
 ·refine G.seq (G.region (G.mv rfl rfl (G.q (Quiet.nilp rfl) rfl (G.q (Quiet.fieldAddr rfl fo_79_2) rfl ?_))))
  refine G.q (Quiet.ld rfl ag_3) rfl ?_
  refine G.ag rfl rfl (G.nil (G.then_n (G.ret (G.then_r ?_))))
  rw [last_nil (Λ := Λ) (by omega)]
  refine G.lgFold (g := g) (x := x) Λ (by (repeat' constructor)) (by exact rfl) (by first | rfl | simp [Lg.keep]) (by first | rfl | simp [Lg.keep]) (by first | rfl | simp [Lg.keep]) (by first | rfl | simp [Lg.keep]) ?_
  exact G.dn (l := [.tmp 2]) rfl rfl ⟨rfl, rfl⟩
 ·refine G.skip (G.then_n (G.seq ?_))
  obtain ⟨i, hi⟩ : ∃ i, i + 1 = Λ.zxs.length := ⟨Λ.zxs.length - 1, by omega⟩
  refine G.slShape (v := .slice za _ zc) (xs := ints Λ.zxs) (by (repeat' constructor)) (by omega) fun bz cz e0 mbz _ => ?_
  simp only [Value.slice.injEq, true_and] at e0
  obtain ⟨rfl, rfl⟩ := e0
  refine G.draw [] [[0, 1, 2, 3, 4, 5, 6, 7, 8, 9, 10, 11, 12]] mixed (by kernel_rfl) ?_
  refine Phases.go [] (by (repeat' constructor)) ?_
  refine D.kw [1, 2, 3, 10, 11, 12] rfl (Quiet.move rfl) ?_
  refine D.kw [2, 3, 10, 11, 12] rfl (Quiet.nilp rfl) ?_
  refine D.kw [3, 10, 11, 12] rfl (Quiet.fieldAddr rfl fo_79_5) ?_
  refine D.kw [10, 11, 12] rfl (Quiet.ld rfl ag_31) ?_
  refine D.kw [5, 6, 7, 8, 9, 10, 11, 12] rfl (Quiet.move rfl) ?_
  refine D.kw [6, 7, 8, 9, 10, 11, 12] rfl (Quiet.nilp rfl) ?_
  refine D.kw [7, 8, 9, 10, 11, 12] rfl (Quiet.fieldAddr rfl fo_79_5) ?_
  refine D.kw [8, 9, 10, 11, 12] rfl (Quiet.ld rfl ag_31) ?_
  refine D.kw [9, 10, 11, 12] rfl (Quiet.slen rfl Tryz.underlying31 rfl) ?_
  refine D.kw [10, 11, 12] rfl (Quiet.as (v' := vint (i : Nat)) (by congr 1; omega) (Quiet.sub rfl rfl (by omega))) ?_
  refine D.kw [11, 12] rfl (Quiet.indexAddr rfl rfl el_31 (by omega)) ?_
  refine D.kw [12] rfl (Quiet.loadEl (p := intR (.slice (some ⟨bz, 0, none⟩) Λ.zxs.length zc) Λ.zxs) (i := i * 1) (v := vint (Λ.zxs[i]'(by omega))) rfl ag_3 (by (repeat' constructor)) (fun h hp => slR_rd hp) (by simp [List.getElem?_eq_getElem (show i < Λ.zxs.length by omega)])) ?_
  refine D.kw [] rfl (Quiet.assign rfl) ?_
  refine D.ph (Phases.fin (G.then_n (G.ret ?_)))
  rw [last_at hi]
  refine G.lgFold (g := g) (x := x) Λ (by (repeat' constructor)) (by exact rfl) (by first | rfl | simp [Lg.keep]) (by first | rfl | simp [Lg.keep]) (by first | rfl | simp [Lg.keep]) (by first | rfl | simp [Lg.keep]) ?_
  exact G.dn (l := [.tmp 2]) rfl rfl ⟨rfl, rfl⟩

theorem lahead_spec (base : Int) (snap : Bs) (hb : I64 base) (hs : snap.length ≤ 2147483648) : Fn Tryz.prog 46 #[vint base, vstr snap] [] fun v L => ∃ b c, v = .slice (some ⟨b, 0, none⟩) (headL base snap).length c ∧ L = [strR v (headL base snap)] := by
 refine Fn.intro (vs := [vint base, vstr snap]) Tryz.func46 rfl rfl ?_
 intro F W
 have hz : (numB base).length ≤ 10 := sev_len10 (zig_lt hb)
 refine G.seq (G.region (G.ag rfl rfl (G.nil (G.then_n (G.seq (G.region ?_))))))
 refine G.oq (OpSpec.call Tryz.func101 rfl rfl (vs := []) rfl (cnew_spec)) ?nx2
 rintro v L' ⟨cw, rfl, rfl⟩
 refine G.ag rfl rfl (G.nil (G.then_n (G.seq (G.region (G.mv rfl rfl (G.mv rfl rfl ?_))))))
 refine G.oq (OpSpec.call Tryz.func102 rfl rfl (vs := [_, _]) rfl (cnum_spec cw [] base hb (by simp))) ?nx5
 rintro v L' ⟨rfl, rfl⟩; rw [List.nil_append]
 refine G.nil (G.then_n (G.seq (G.region (G.mv rfl rfl (G.mv rfl rfl (G.q (Quiet.strlen rfl Tryz.underlying9 rfl) rfl ?_))))))
 refine G.oq (OpSpec.call Tryz.func103 rfl rfl (vs := [_, _]) rfl (ccount_spec cw (numB base) snap.length (by omega) (by omega))) ?nx9
 rintro v L' ⟨rfl, rfl⟩
 refine G.nil (G.then_n (G.seq (G.region (G.mv rfl rfl ?_))))
 refine G.oq (OpSpec.call Tryz.func104 rfl rfl (vs := [_]) rfl (cbytes_spec cw (numB base ++ cntB snap.length))) ?nx11
 rintro v L' ⟨rfl, rfl⟩
 refine G.oq (OpSpec.buildSlice1 (vs := [_]) el_46 ze_9 rfl rfl rfl rfl rfl (by decide)) ?nx13
 rintro v L' ⟨b4, rfl, rfl⟩
 refine G.ag rfl rfl (G.nil ?_)
 refine G.slMake (b := b4) (n := 1) (c := 1) (xs := strs [headB base snap.length]) (by (repeat' constructor)) (by decide) (by simp) rfl ?_
 refine G.then_n (G.seq (G.block ?_))
 refine G.loopK (ι := Bs × Value × (List Bs)) (fun q E => (1, vstr q.1) :: (6, q.2.1) :: E) (fun q => [strR q.2.1 q.2.2]) (fun q => q.2.2 ++ chunkL q.1 = headL base snap ∧ q.2.2.length + q.1.length ≤ 1 + snap.length ∧ ∃ b c, q.2.1 = .slice (some ⟨b, 0, none⟩) q.2.2.length c) (fun q => q.1.length) (snap, .slice (some ⟨b4, 0, none⟩) 1 1, [headB base snap.length]) (ts := [4]) (.cons rfl (.nil)) (⟨rfl, by dsimp only [List.length_cons, List.length_nil]; omega, b4, 1, rfl⟩) ⟨rfl, rfl, rfl, trivial⟩ (by (repeat' constructor)) ?_
 rintro ⟨t, u, l⟩ ⟨hl, hlt, bu, cu, hu⟩
 dsimp only
 dsimp only at hl hlt hu
 subst hu
 refine G.seq (G.seq (G.region (G.mv rfl rfl (G.q (Quiet.strne rfl rfl) rfl (G.nil (G.then_n ?_))))))
 refine G.condN rfl (fun h20 => ?_) (fun h20 => ?_)
 ·have ht : 0 < t.length := List.length_pos_iff.2 (by simpa using h20)
  refine G.skip (G.then_n (G.block (G.seq (G.region (G.mv rfl rfl (G.q (Quiet.strlen rfl Tryz.underlying9 rfl) rfl ?_))))))
  refine G.q (Quiet.as (v' := vint ((min 4000 t.length : Nat) : Int)) (by congr 1; omega) (Quiet.min2 rfl rfl)) rfl ?_
  refine G.ag rfl rfl (G.nil (G.then_n (G.seq (G.region (G.mv rfl rfl (G.mv rfl rfl (G.mv rfl rfl ?_)))))))
  refine G.q (Quiet.to (v' := vstr (t.take 4000)) (Quiet.strTo rfl rfl Tryz.underlying9 (by omega)) (by simp only [Int.toNat_natCast, take_min])) rfl ?_
  refine G.oq (OpSpec.buildSlice1 (vs := [_]) el_46 ze_9 rfl rfl rfl rfl rfl (by decide)) ?nx23
  rintro v L' ⟨b8, rfl, rfl⟩
  refine G.oq (OpSpec.shaped1 (k := l.length + 1) ?hk25 (OpSpec.append1 rfl rfl rfl el_46 ze_9 rfl rfl ?h126 ?h227 (Nat.le_refl _) ?h328 (by decide))) ?nx29
  case hk25 => omega
  case h126 => (first | (simp [isCell]; done) | (simp [isCell, setAll, Value.cells]; done))
  case h227 => rfl
  case h328 => omega
  rintro v L' ⟨b7, c7, rfl, rfl⟩
  refine G.ag rfl rfl (G.nil (G.then_n (G.region (G.mv rfl rfl (G.mv rfl rfl ?_)))))
  refine G.q (Quiet.to (v' := vstr (t.drop 4000)) (Quiet.strFrom rfl rfl Tryz.underlying9 (by omega)) (by simp only [Int.toNat_natCast, drop_min])) rfl ?_
  refine G.ag rfl rfl (G.nil (G.blk_n (G.then_n ?_)))
  refine G.slCast (T := 9) (sz := 1) (m' := (l ++ [t.take 4000]).length) (xs' := strs (l ++ [t.take 4000])) (by (repeat' constructor)) (by simp) (by simp [strs, Value.cells]) ?_
  exact G.roundK ((t.drop 4000, .slice (some ⟨b7, 0, none⟩) (l.length + 1) c7, l ++ [t.take 4000])) (⟨by dsimp only; rw [List.append_assoc, List.singleton_append, ← chunk_cons h20]; exact hl, by dsimp only; rw [List.length_append, List.length_drop, List.length_singleton]; omega, b7, c7, by simp⟩) (by dsimp only; rw [List.length_drop]; omega) ⟨rfl, rfl, rfl, trivial⟩ (by (repeat' constructor)) (by ((repeat (apply Have.cons; (repeat (first | exact Pick.here | apply Pick.there)))); apply Have.base; repeat' constructor))
 ·have ht : t = [] := by simpa using h20
  subst ht
  rw [chunk_nil', List.append_nil] at hl
  subst hl
  refine G.exit (G.then_e (G.then_e (G.blk_e (G.then_n (G.seq (G.region (G.mv rfl rfl (G.ag rfl rfl (G.nil (G.then_n (G.ret ?_)))))))))))
  exact G.dn (l := [.tmp 4]) rfl rfl ⟨_, _, rfl, rfl⟩

end Go.Proofs.YtidjhgbdokcphaaGreat

/- Own work, by program: package ledger: Append, Sync, Accept, Adopt: walked. -/

namespace Go.Proofs.YtidjhgbdokcphaaGreat
open Go
structure EnX (p : HP) (e : En) : Prop where
  l : EnL p e
  sub : ∀ y ∈ e.subs, ∃ a n c, y.subsV = .slice a n c
def hasSub (y : Pt) : Bool := decide (slen y.subsV > 0)
theorem noSubs_any (l : List Pt) : (l.all fun y => decide (slen y.subsV = 0)) = !l.any hasSub := by
  induction l with
  | nil => rfl
  | cons y l ih =>
    rw [List.all_cons, List.any_cons, ih]
    have e : decide (slen y.subsV = 0) = !hasSub y := by
      unfold hasSub
      rcases Nat.eq_zero_or_pos (slen y.subsV) with h | h
      · rw [h]; rfl
      · rw [decide_eq_false (by omega), decide_eq_true h]; rfl
    rw [e]; cases hasSub y <;> rfl
theorem LgI.met {Λ : Lg} (h : LgI Λ) (e : Int) : LgI (Λ.met e) := by
  unfold Lg.met
  split
  · exact ⟨h.ents, h.same, h.each, h.base, h.zxs⟩
  · exact h
theorem lhas_spec (y : Pt) (a : Option Addr) (n c : Nat) (hy : y.subsV = .slice a n c) : Fn Tryz.prog 107 #[.agg (ptC y).toArray] [] fun v L => v = .bool (hasSub y) ∧ L = [] := by
 refine Fn.intro (vs := [.agg (ptC y).toArray]) Tryz.func107 rfl rfl ?_
 intro F W
 refine G.seq (G.region ?_)
 refine G.oq (OpSpec.box rfl) ?nx1
 rintro v L' ⟨b1, rfl, rfl⟩
 refine G.ag rfl rfl (G.nil ?_)
 refine G.ptCast (b := b1) (l' := ptC y) (by (repeat' constructor)) rfl ?_
 refine G.then_n (G.seq (G.region (G.q (Quiet.fieldAddr rfl fo_36_7) rfl ?_)))
 refine G.q (Quiet.to (v' := .slice a n c) (Quiet.load rfl ag_34 (by (repeat' constructor)) rfl) hy) rfl ?_
 refine G.q (Quiet.slen rfl Tryz.underlying34 rfl) rfl (G.q (Quiet.int rfl rfl rfl) rfl (G.ag rfl rfl (G.nil (G.then_n (G.ret ?_)))))
 exact G.dn (l := [.tmp 2]) rfl rfl ⟨congrArg Value.bool (decide_eq_decide.2 (by rw [hy]; show _ ↔ n > 0; omega)), rfl⟩

theorem lidx_spec (v : Value) (l : List Pt) (p : HP) (hr : ∀ h : Hp, p h → rdS 8 h v l.length (l.flatMap ptC)) (hl : l.length ≤ 4294967296) (hs : ∀ y ∈ l, ∃ a n c, y.subsV = .slice a n c) : Fn Tryz.prog 153 #[v, .func (.func 107) #[] #[]] [p] fun u L => (∃ r : Int, u = vint r ∧ (decide (r ≥ 0) = l.any hasSub)) ∧ L = [p] := by
 refine Fn.intro (vs := [v, .func (.func 107) #[] #[]]) Tryz.func153 rfl rfl ?_
 intro F W
 refine G.rdAny (p := p) hr (by (repeat' constructor)) fun aa ca e _ => ?_
 subst e
 refine G.seq (G.region (G.ag rfl rfl (G.nil (G.then_n (G.seq (G.seq (G.region (G.mv rfl rfl (G.q (Quiet.slen rfl Tryz.underlying34 rfl) rfl (G.mv rfl rfl (G.nil (G.then_n (G.block ?_)))))))))))))
 refine G.loopK (ι := Nat) (fun q E => (8, vint q) :: E) (fun q => []) (fun q => q ≤ l.length ∧ ∀ j (hj : j < q) (hl : j < l.length), hasSub l[j] = false) (fun q => l.length - q) (0) (ts := [0, 1, 7]) (.cons rfl (.cons rfl (.cons rfl (.nil)))) (⟨Nat.zero_le _, fun j hj => by omega⟩) ⟨rfl, rfl, rfl, rfl, trivial⟩ (by (repeat' constructor)) ?_
 rintro i ⟨hi, hb⟩
 refine G.seq (G.region (G.q (Quiet.int rfl rfl rfl) rfl (G.nil (G.then_n (G.seq ?_)))))
 refine G.condD rfl (fun h9 => ?_) (fun h9 => ?_)
 ·have hi2 : i < l.length := by omega
  obtain ⟨sa, sn, sc, hsy⟩ := hs _ (List.getElem_mem hi2)
  refine G.rdShape (p := p) hr (by (repeat' constructor)) (by omega) fun ba oa e => ?_
  subst e
  refine G.skip (G.then_n (G.seq (G.block (G.seq (G.region (G.mv rfl rfl (G.ag rfl rfl (G.nil (G.then_n (G.seq (G.region (G.mv rfl rfl (G.mv rfl rfl (G.mv rfl rfl ?_))))))))))))))
  refine G.q (Quiet.indexAddr rfl rfl el_34 (by omega)) rfl ?_
  refine G.q (Quiet.loadRdA (sz := 8) (j := i * 8) (k := 8) (p := p) (vs := ptC l[i]) rfl ag_36 (by (repeat' constructor)) hr (by simp) (by omega) (by omega) (flatMap_at (f := ptC) (sz := 8) (fun _ _ => rfl) (by omega))) rfl ?_
  refine G.oq (OpSpec.callV Tryz.func107 rfl rfl (us := []) (vs := [_]) (ws := []) rfl rfl (lhas_spec l[i] sa sn sc hsy)) ?nx11
  rintro v L' ⟨rfl, rfl⟩
  refine G.nil (G.then_n ?_)
  refine G.condB rfl (fun h16 => ?_) (fun h16 => ?_)
  ·refine G.seq (G.region (G.mv rfl rfl (G.ag rfl rfl (G.nil (G.then_n (G.ret (G.blk_r (G.then_r (G.then_r (G.blk_r (G.then_r ?_)))))))))))
   exact G.dn (l := [.tmp 4]) rfl rfl ⟨⟨_, rfl, by rw [decide_eq_true (by omega)]; exact (List.any_eq_true.2 ⟨l[i], List.getElem_mem hi2, h16⟩).symm⟩, rfl⟩
  ·refine G.skip (G.blk_n (G.then_n (G.region ?_)))
   refine G.q (Quiet.add rfl rfl (by omega)) rfl ?_
   refine G.mv rfl rfl (G.nil (G.then_n ?_))
   exact G.roundK (i + 1) (⟨by omega, fun j hj hl => by rcases Nat.lt_or_ge j i with h | h; exact hb j h hl; obtain rfl : j = i := (by omega); exact h16⟩) (by omega) ⟨rfl, rfl, rfl, rfl, trivial⟩ (by (repeat' constructor)) (by ((repeat (apply Have.cons; (repeat (first | exact Pick.here | apply Pick.there)))); apply Have.base; repeat' constructor))
 ·refine G.exit (G.then_e (G.then_e (G.blk_e (G.then_n (G.seq (G.region (G.ag rfl rfl (G.nil (G.then_n (G.ret ?_))))))))))
  exact G.dn (l := [.tmp 4]) rfl rfl ⟨⟨_, rfl, by rw [decide_eq_false (by decide)]; symm; rw [List.any_eq_false]; intro s hs; obtain ⟨j, hj, rfl⟩ := List.mem_iff_getElem.1 hs; rw [hb j (by omega) hj]; decide⟩, rfl⟩

theorem lcontains_spec (v : Value) (l : List Pt) (p : HP) (hr : ∀ h : Hp, p h → rdS 8 h v l.length (l.flatMap ptC)) (hl : l.length ≤ 4294967296) (hs : ∀ y ∈ l, ∃ a n c, y.subsV = .slice a n c) : Fn Tryz.prog 106 #[v, .func (.func 107) #[] #[]] [p] fun u L => u = .bool (l.any hasSub) ∧ L = [p] := by
 refine Fn.intro (vs := [v, .func (.func 107) #[] #[]]) Tryz.func106 rfl rfl ?_
 intro F W
 refine G.seq (G.region (G.ag rfl rfl (G.nil (G.then_n (G.seq (G.region (G.mv rfl rfl (G.mv rfl rfl ?_))))))))
 refine G.oq (OpSpec.call Tryz.func153 rfl rfl (vs := [_, _]) rfl (lidx_spec v l p hr hl hs)) ?nx4
 rintro v' L' ⟨⟨r, rfl, hrl⟩, rfl⟩
 refine G.q (Quiet.int rfl rfl rfl) rfl (G.ag rfl rfl (G.nil (G.then_n (G.ret ?_))))
 exact G.dn (l := [.tmp 4]) rfl rfl ⟨congrArg Value.bool hrl, rfl⟩

theorem llaid_spec (e : En) (p : HP) (he : EnX p e) : Fn Tryz.prog 48 #[.agg (enC e).toArray] [p] fun v L => ∃ s1, (fitsE e = true → s1 = enB e) ∧ v = .tuple #[vstr s1, .bool (fitsE e)] ∧ L = [p] := by
 refine Fn.intro (vs := [.agg (enC e).toArray]) Tryz.func48 rfl rfl ?_
 intro F W
 have hle := he.l.len
 have hns : noSubs e = !e.subs.any hasSub := noSubs_any e.subs
 refine G.seq (G.region ?_)
 refine G.oq (OpSpec.box rfl) ?nx1
 rintro v L' ⟨b1, rfl, rfl⟩
 refine G.ag rfl rfl (G.ag rfl rfl (G.nil ?_))
 refine G.ptCast (b := b1) (l' := enC e) (by (repeat' constructor)) (by exact rfl) ?_
 refine G.then_n (G.seq (G.seq (G.region (G.q (Quiet.fieldAddr rfl fo_38_3) rfl (G.q (Quiet.fieldAddr rfl fo_36_7) rfl ?_)))))
 refine G.q (Quiet.ld rfl ag_34) rfl ?_
 refine G.oq (OpSpec.call Tryz.func106 rfl rfl (vs := [_, _]) rfl (lcontains_spec _ e.subs p he.l.w.subs (by have := he.l.few.1; omega) he.sub)) ?nx8
 rintro v L' ⟨rfl, rfl⟩
 refine G.nil (G.then_n ?_)
 refine G.condB rfl (fun h10 => ?_) (fun h10 => ?_)
 ·refine G.seq (G.region (G.ag rfl rfl (G.ag rfl rfl (G.nil (G.then_n (G.ret (G.then_r ?_)))))))
  have hf : fitsE e = false := by unfold fitsE; rw [hns, h10]; rfl
  rw [hf]
  exact G.dn (l := [.tmp 2, .tmp 3]) rfl rfl ⟨[], (fun h => by cases h), rfl, rfl⟩
 ·refine G.skip (G.then_n (G.seq (G.region ?_)))
  refine G.q (Quiet.loadAs (vs := enC e) rfl ag_38 (by (repeat' constructor)) (by simp [enC, ptC]) rfl) rfl ?_
  refine G.oq (OpSpec.call Tryz.func108 rfl rfl (vs := [_]) rfl (wput_spec e p he.l)) ?nx13
  rintro v L' ⟨rfl, rfl⟩
  refine G.ag rfl rfl (G.nil (G.then_n (G.seq (G.region (G.mv rfl rfl ?_)))))
  refine G.oq (OpSpec.call Tryz.func53 rfl rfl (vs := [_]) rfl (wget_spec (enB e) (by omega))) ?nx15
  rintro v L' ⟨ge, er, hge, rfl, rfl⟩
  refine G.mv rfl rfl (G.q (Quiet.extract rfl rfl) rfl (G.q (Quiet.extract rfl rfl) rfl ?_))
  refine G.oq (OpSpec.allocA ze_38) ?nx19
  rintro v L' ⟨b5, rfl, rfl⟩
  refine G.oq (OpSpec.storeA rfl rfl ?c21 sz_38 ?c24 ?c22 ?c23) ?nx25
  case c21 => exact hge.cells
  case c24 => rfl
  case c22 => simp [enC, ptC]
  case c23 => exact nfz0 _ _
  rintro v L' rfl
  refine G.ag rfl rfl (G.nil (G.then_n (G.seq (G.region (G.mv rfl rfl (G.mv rfl rfl ?_))))))
  refine G.q (Quiet.as (v' := .bool (fitsE e)) (by exact congrArg Value.bool (by unfold fitsE; rw [hns, h10]; rcases hge with ⟨rfl, h2, -⟩ | ⟨rfl, h2, -⟩ <;> rw [h2] <;> rfl)) (Quiet.int rfl rfl rfl)) rfl ?_
  refine G.ag rfl rfl (G.ag rfl rfl (G.nil (G.then_n (G.ret ?_))))
  exact G.dn (l := [.tmp 2, .tmp 3]) rfl rfl ⟨enB e, fun _ => rfl, rfl, rfl⟩

theorem lappend_spec (g x d : Nat) (δ : Dk) (ω : Wl) (Λ : Lg) (e : En) (p : HP) (he : EnX p e) (hI : WlI δ ω) (hΛ : LgI Λ) : Fn Tryz.prog 13 #[vptr g, .agg (enC e).toArray] [lgR g x Λ, wlR x d ω, dkR d δ, p] fun v L => v = vint (lgAppend ⟨δ, ω, Λ⟩ e).2 ∧ L = [lgR g x (lgAppend ⟨δ, ω, Λ⟩ e).1.Λ, wlR x d (lgAppend ⟨δ, ω, Λ⟩ e).1.ω, dkR d (lgAppend ⟨δ, ω, Λ⟩ e).1.δ, p] := by
 refine Fn.intro (vs := [vptr g, .agg (enC e).toArray]) Tryz.func13 rfl rfl ?_
 intro F W
 have hle := he.l.len
 have hfi := hI.fits
 have hhl := half_le hI.size
 refine G.seq (G.region ?_)
 refine G.oq (OpSpec.box rfl) ?nx1
 rintro v L' ⟨b3, rfl, rfl⟩
 refine G.ag rfl rfl (G.nil ?_)
 refine G.ptCast (b := b3) (l' := enC e) (by (repeat' constructor)) (by exact rfl) ?_
 refine G.then_n (G.seq (G.seq ?_))
 refine G.lgOpen (by (repeat' constructor)) fun ea ec za zc => ?_
 refine G.region (G.mv rfl rfl (G.q (Quiet.nilp rfl) rfl (G.q (Quiet.fieldAddr rfl fo_79_6) rfl ?_)))
 refine G.q (Quiet.ld rfl ag_4) rfl ?_
 refine G.nil (G.then_n ?_)
 refine G.condB rfl (fun h11 => ?_) (fun h11 => ?_)
 ·refine G.seq (G.region (G.ag rfl rfl (G.nil (G.then_n (G.ret (G.then_r ?_))))))
  have hr : lgAppend ⟨δ, ω, Λ⟩ e = (⟨δ, ω, Λ⟩, 2) := by unfold lgAppend; dsimp only; rw [if_pos h11]
  rw [hr]
  try dsimp only
  refine G.lgFold (g := g) (x := x) Λ (by (repeat' constructor)) (by exact rfl) (by first | rfl | simp [Lg.keep]) (by first | rfl | simp [Lg.keep]) (by first | rfl | simp [Lg.keep]) (by first | rfl | simp [Lg.keep]) ?_
  exact G.dn (l := [.tmp 4]) rfl rfl ⟨rfl, rfl⟩
 ·refine G.lgFold (g := g) (x := x) Λ (by (repeat' constructor)) (by exact rfl) (by first | rfl | simp [Lg.keep]) (by first | rfl | simp [Lg.keep]) (by first | rfl | simp [Lg.keep]) (by first | rfl | simp [Lg.keep]) ?_
  refine G.skip (G.then_n (G.seq (G.region ?_)))
  refine G.q (Quiet.loadAs (vs := enC e) rfl ag_38 (by (repeat' constructor)) (by simp [enC, ptC]) rfl) rfl ?_
  refine G.oq (OpSpec.call Tryz.func48 rfl rfl (vs := [_]) rfl (llaid_spec e p he)) ?nx10
  rintro v L' ⟨s1, hs1, rfl, rfl⟩
  refine G.mv rfl rfl (G.q (Quiet.extract rfl rfl) rfl (G.q (Quiet.extract rfl rfl) rfl (G.ag rfl rfl (G.ag rfl rfl (G.nil (G.then_n (G.seq (G.block (G.seq (G.region (G.mv rfl rfl (G.q (Quiet.not rfl) rfl (G.ag rfl rfl (G.nil (G.then_n ?_)))))))))))))))
  refine G.condB rfl (fun h17 => ?_) (fun h17 => ?_)
  ·refine G.seq (G.region (G.ag rfl rfl (G.nil (G.then_n (G.ret (G.blk_r (G.then_r ?_)))))))
   have hr : lgAppend ⟨δ, ω, Λ⟩ e = (⟨δ, ω, Λ⟩, 1) := by unfold lgAppend; dsimp only; rw [if_neg (by rw [h11]; decide), if_pos (by simpa using h17)]
   rw [hr]
   try dsimp only
   exact G.dn (l := [.tmp 4]) rfl rfl ⟨rfl, rfl⟩
  ·have hfit : fitsE e = true := by simpa using h17
   have hs1 := hs1 hfit
   subst hs1
   refine G.seq ?_
   refine G.draw [] [[0, 1, 2, 3, 4, 5]] mixed (by kernel_rfl) ?_
   refine Phases.go [ptc b3 _ _, lgR g x Λ] (by (repeat' constructor)) ?_
   refine D.kw [1, 4, 5] rfl (Quiet.fieldAddr rfl fo_38_0) ?_
   refine D.kw [4, 5] rfl (Quiet.ld rfl ag_3) ?_
   refine D.kw [3, 4, 5] rfl (Quiet.move rfl) ?_
   refine D.m rfl (by kernel_rfl) (OpSpec.call Tryz.func17 rfl rfl (vs := [_]) rfl (llast_spec g x Λ hΛ)) (by (repeat' constructor)) ?nx19
   refine D.kw [5] rfl (Quiet.int rfl rfl rfl) ?_
   refine D.kw [] rfl (Quiet.assign rfl) ?_
   refine D.ph (Phases.fin (G.then_n ?_))
   refine G.condD rfl (fun h20 => ?_) (fun h20 => ?_)
   ·refine G.seq (G.region (G.ag rfl rfl (G.nil (G.then_n (G.ret (G.blk_r (G.then_r ?_)))))))
    have hr : lgAppend ⟨δ, ω, Λ⟩ e = (⟨δ, ω, Λ⟩, 81) := by unfold lgAppend; dsimp only; rw [if_neg (by rw [h11]; decide), if_neg (by rw [hfit]; decide), if_pos h20]
    rw [hr]
    try dsimp only
    exact G.dn (l := [.tmp 4]) rfl rfl ⟨rfl, rfl⟩
   ·refine G.seq ?_
    refine G.lgOpen (by (repeat' constructor)) fun ea ec za zc => ?_
    refine G.region (G.mv rfl rfl (G.q (Quiet.nilp rfl) rfl (G.q (Quiet.fieldAddr rfl fo_79_4) rfl ?_)))
    refine G.q (Quiet.ld rfl ag_46) rfl ?_
    refine G.q (Quiet.slen rfl Tryz.underlying46 rfl) rfl (G.q (Quiet.int rfl rfl rfl) rfl (G.mv rfl rfl ?_))
    refine G.dec (t := 33) rfl (fun h8_33 => ?_) (fun h8_33 => ?_)
    ·refine G.kDT (t := 32) rfl h8_33 (G.gskip (t := 33) rfl rfl rfl rfl (G.gskip (t := 33) rfl rfl rfl rfl (G.gskip (t := 33) rfl rfl rfl rfl (G.gskip (t := 33) rfl rfl rfl rfl (G.gskip (t := 33) rfl rfl rfl rfl (G.gskip (t := 33) rfl rfl rfl rfl (G.gskip (t := 33) rfl rfl rfl rfl (G.gskip (t := 33) rfl rfl rfl rfl (G.q (Quiet.pickT rfl rfl) rfl (G.ag rfl rfl (G.nil ?_)))))))))))
     refine G.lgFold (g := g) (x := x) Λ (by (repeat' constructor)) (by exact rfl) (by first | rfl | simp [Lg.keep]) (by first | rfl | simp [Lg.keep]) (by first | rfl | simp [Lg.keep]) (by first | rfl | simp [Lg.keep]) ?_
     refine G.then_n (G.condT rfl (G.seq (G.region (G.ag rfl rfl (G.nil (G.then_n (G.ret (G.blk_r (G.then_r ?_)))))))))
     have hr : lgAppend ⟨δ, ω, Λ⟩ e = (⟨δ, ω, Λ⟩, 83) := by unfold lgAppend; dsimp only; rw [if_neg (by rw [h11]; decide), if_neg (by rw [hfit]; decide), if_neg h20, if_pos (by first | exact .inl (by omega) | exact .inr h26)]
     rw [hr]
     try dsimp only
     exact G.dn (l := [.tmp 4]) rfl rfl ⟨rfl, rfl⟩
    ·refine G.kDF (t := 32) rfl h8_33 (G.grun (t := 33) rfl rfl rfl (G.mv rfl rfl (G.grun (t := 33) rfl rfl rfl (G.q (Quiet.strlen rfl Tryz.underlying9 rfl) rfl (G.grun (t := 33) rfl rfl rfl (G.mv rfl rfl (G.grun (t := 33) rfl rfl rfl (G.q (Quiet.nilp rfl) rfl (G.grun (t := 33) rfl rfl rfl (G.q (Quiet.fieldAddr rfl fo_79_1) rfl (G.grun (t := 33) rfl rfl rfl ?_)))))))))))
     refine G.q (Quiet.ld rfl ag_77) rfl ?_
     refine G.grun (t := 33) rfl rfl rfl ?_
     refine G.oq (OpSpec.call Tryz.func49 rfl rfl (vs := [_]) rfl (wroom_spec x d ω δ hI.size (by omega))) ?nx36
     rintro v L' ⟨rfl, rfl⟩
     refine G.grun (t := 33) rfl rfl rfl (G.q (Quiet.int rfl rfl rfl) rfl (G.q (Quiet.pickF rfl rfl) rfl (G.ag rfl rfl (G.nil ?_))))
     refine G.lgFold (g := g) (x := x) Λ (by (repeat' constructor)) (by exact rfl) (by first | rfl | simp [Lg.keep]) (by first | rfl | simp [Lg.keep]) (by first | rfl | simp [Lg.keep]) (by first | rfl | simp [Lg.keep]) ?_
     refine G.then_n ?_
     refine G.condD rfl (fun h26 => ?_) (fun h26 => ?_)
     ·refine G.seq (G.region (G.ag rfl rfl (G.nil (G.then_n (G.ret (G.blk_r (G.then_r ?_)))))))
      have hr : lgAppend ⟨δ, ω, Λ⟩ e = (⟨δ, ω, Λ⟩, 83) := by unfold lgAppend; dsimp only; rw [if_neg (by rw [h11]; decide), if_neg (by rw [hfit]; decide), if_neg h20, if_pos (by first | exact .inl (by omega) | exact .inr h26)]
      rw [hr]
      try dsimp only
      exact G.dn (l := [.tmp 4]) rfl rfl ⟨rfl, rfl⟩
     ·refine G.skip (G.blk_n (G.then_n (G.seq ?_)))
      refine G.lgOpen (by (repeat' constructor)) fun ea ec za zc => ?_
      refine G.region (G.mv rfl rfl (G.mv rfl rfl (G.q (Quiet.nilp rfl) rfl (G.q (Quiet.fieldAddr rfl fo_79_1) rfl ?_))))
      refine G.q (Quiet.ld rfl ag_77) rfl ?_
      refine G.mv rfl rfl ?_
      refine G.oq (OpSpec.call Tryz.func45 rfl rfl (vs := [_, _]) rfl (wappend_spec x d ω δ (enB e) hI (by omega))) ?nx45
      rintro v L' ⟨rfl, rfl⟩
      refine G.lgFold (g := g) (x := x) Λ (by (repeat' constructor)) (by exact rfl) (by first | rfl | simp [Lg.keep]) (by first | rfl | simp [Lg.keep]) (by first | rfl | simp [Lg.keep]) (by first | rfl | simp [Lg.keep]) ?_
      refine G.oq (OpSpec.call Tryz.func50 rfl rfl (vs := [_, _]) rfl (lmet_spec g x Λ _)) ?nx47
      rintro v L' ⟨rfl, rfl⟩
      refine G.ag rfl rfl (G.nil (G.then_n (G.seq (G.seq (G.region (G.mv rfl rfl (G.q (Quiet.int rfl rfl rfl) rfl (G.nil (G.then_n ?_)))))))))
      refine G.condD rfl (fun h52 => ?_) (fun h52 => ?_)
      ·refine G.region (G.mv rfl rfl (G.mv rfl rfl (G.q (Quiet.fieldAddr rfl fo_38_0) rfl ?_)))
       refine G.q (Quiet.ld rfl ag_3) rfl ?_
       refine G.oq (OpSpec.call Tryz.func51 rfl rfl (vs := [_, _, _]) rfl (lkeep_spec g x _ (enB e) e.zx (hΛ.met _))) ?nx53
       rintro v L' ⟨rfl, rfl⟩
       refine G.nil (G.then_n (G.seq (G.region (G.mv rfl rfl (G.ag rfl rfl (G.nil (G.then_n (G.ret ?_))))))))
       have hr : lgAppend ⟨δ, ω, Λ⟩ e = (⟨(appendZ δ ω (enB e)).1, (appendZ δ ω (enB e)).2.1, (metL Λ (appendZ δ ω (enB e))).1.Λ.keep (enB e) e.zx⟩, 0) := by unfold lgAppend; dsimp only; rw [if_neg (by rw [h11]; decide), if_neg (by rw [hfit]; decide), if_neg h20, if_neg (by rintro (g | g); omega; exact h26 g), if_pos (show (metL Λ (appendZ δ ω (enB e))).2 = 0 from h52)]
       rw [hr]
       try dsimp only
       rw [h52]
       exact G.dn (l := [.tmp 4]) rfl rfl ⟨rfl, rfl⟩
      ·refine G.skip (G.then_n (G.seq (G.region (G.mv rfl rfl (G.ag rfl rfl (G.nil (G.then_n (G.ret ?_))))))))
       have hr : lgAppend ⟨δ, ω, Λ⟩ e = metL Λ (appendZ δ ω (enB e)) := by unfold lgAppend; dsimp only; rw [if_neg (by rw [h11]; decide), if_neg (by rw [hfit]; decide), if_neg h20, if_neg (by rintro (g | g); omega; exact h26 g), if_neg (show ¬ (metL Λ (appendZ δ ω (enB e))).2 = 0 from h52)]
       rw [hr]
       try dsimp only
       exact G.dn (l := [.tmp 4]) rfl rfl ⟨rfl, rfl⟩

theorem lsync_spec (g x d : Nat) (δ : Dk) (ω : Wl) (Λ : Lg) (hI : WlI δ ω) : Fn Tryz.prog 28 #[vptr g] [lgR g x Λ, wlR x d ω, dkR d δ] fun v L => v = vint (lgSync ⟨δ, ω, Λ⟩).2 ∧ L = [lgR g x (lgSync ⟨δ, ω, Λ⟩).1.Λ, wlR x d (lgSync ⟨δ, ω, Λ⟩).1.ω, dkR d (lgSync ⟨δ, ω, Λ⟩).1.δ] := by
 refine Fn.intro (vs := [vptr g]) Tryz.func28 rfl rfl ?_
 intro F W
 refine G.seq (G.region (G.ag rfl rfl (G.nil (G.then_n (G.seq (G.seq ?_))))))
 refine G.lgOpen (by (repeat' constructor)) fun ea ec za zc => ?_
 refine G.region (G.mv rfl rfl (G.q (Quiet.nilp rfl) rfl (G.q (Quiet.fieldAddr rfl fo_79_6) rfl ?_)))
 refine G.q (Quiet.ld rfl ag_4) rfl ?_
 refine G.nil (G.then_n ?_)
 refine G.condB rfl (fun h6 => ?_) (fun h6 => ?_)
 ·refine G.seq (G.region (G.ag rfl rfl (G.nil (G.then_n (G.ret (G.then_r ?_))))))
  have hr : lgSync ⟨δ, ω, Λ⟩ = (⟨δ, ω, Λ⟩, 2) := by unfold lgSync; dsimp only; rw [if_pos h6]
  rw [hr]
  try dsimp only
  refine G.lgFold (g := g) (x := x) Λ (by (repeat' constructor)) (by exact rfl) (by first | rfl | simp [Lg.keep]) (by first | rfl | simp [Lg.keep]) (by first | rfl | simp [Lg.keep]) (by first | rfl | simp [Lg.keep]) ?_
  exact G.dn (l := [.tmp 2]) rfl rfl ⟨rfl, rfl⟩
 ·refine G.skip (G.then_n (G.seq (G.region (G.mv rfl rfl (G.mv rfl rfl (G.q (Quiet.nilp rfl) rfl (G.q (Quiet.fieldAddr rfl fo_79_1) rfl ?_)))))))
  refine G.q (Quiet.ld rfl ag_77) rfl ?_
  refine G.oq (OpSpec.call Tryz.func47 rfl rfl (vs := [_]) rfl (wsync_spec x d ω δ hI)) ?nx12
  rintro v L' ⟨rfl, rfl⟩
  refine G.lgFold (g := g) (x := x) Λ (by (repeat' constructor)) (by exact rfl) (by first | rfl | simp [Lg.keep]) (by first | rfl | simp [Lg.keep]) (by first | rfl | simp [Lg.keep]) (by first | rfl | simp [Lg.keep]) ?_
  refine G.oq (OpSpec.call Tryz.func50 rfl rfl (vs := [_, _]) rfl (lmet_spec g x Λ _)) ?nx14
  rintro v L' ⟨rfl, rfl⟩
  refine G.ag rfl rfl (G.nil (G.then_n (G.ret ?_)))
  have hr : lgSync ⟨δ, ω, Λ⟩ = metL Λ (syncZ δ ω) := by unfold lgSync; dsimp only; rw [if_neg (by rw [h6]; decide)]
  rw [hr]
  try dsimp only
  exact G.dn (l := [.tmp 2]) rfl rfl ⟨rfl, rfl⟩

theorem lmetO_spec (g x : Nat) (Λ : Lg) (e : Int) (ea : Option Addr) (ec : Nat) (za : Option Addr) (zc : Nat) : Fn Tryz.prog 50 #[vptr g, vint e] [ptc g [vint Λ.acc, vint Λ.cur, vptr x, vint Λ.base, vstr Λ.snap, .slice ea Λ.ents.length ec, .slice za Λ.zxs.length zc, .bool Λ.doubt] 79, strR (.slice ea Λ.ents.length ec) Λ.ents, intR (.slice za Λ.zxs.length zc) Λ.zxs]
    fun v L => v = vint (metE e) ∧ L = [lgR g x (Λ.met e)] := by
  intro F w hs
  have hs' : St ([lgR g x Λ] ++ F) w := sep_imp (p := sep _) (fun _ hp => ⟨((ea, ec), (za, zc)), trivial, hp⟩) (sep_fold hs)
  exact lmet_spec g x Λ e F w hs'
theorem laccept_spec (g x d : Nat) (δ : Dk) (ω : Wl) (Λ : Lg) (n : Int) (hI : WlI δ ω) : Fn Tryz.prog 39 #[vptr g, vint n] [lgR g x Λ, wlR x d ω, dkR d δ] fun v L => v = vint (lgAccept ⟨δ, ω, Λ⟩ n).2 ∧ L = [lgR g x (lgAccept ⟨δ, ω, Λ⟩ n).1.Λ, wlR x d (lgAccept ⟨δ, ω, Λ⟩ n).1.ω, dkR d (lgAccept ⟨δ, ω, Λ⟩ n).1.δ] := by
 refine Fn.intro (vs := [vptr g, vint n]) Tryz.func39 rfl rfl ?_
 intro F W
 refine G.lgOpen (by (repeat' constructor)) fun ea ec za zc => ?_
 refine G.seq (G.region (G.ag rfl rfl (G.nil (G.then_n (G.seq (G.block (G.seq (G.region (G.mv rfl rfl (G.q (Quiet.nilp rfl) rfl (G.q (Quiet.fieldAddr rfl fo_79_6) rfl ?_)))))))))))
 refine G.q (Quiet.ld rfl ag_4) rfl ?_
 refine G.ag rfl rfl (G.nil (G.then_n ?_))
 refine G.condB rfl (fun h6 => ?_) (fun h6 => ?_)
 ·refine G.seq (G.region (G.ag rfl rfl (G.nil (G.then_n (G.ret (G.blk_r (G.then_r ?_)))))))
  have hr : lgAccept ⟨δ, ω, Λ⟩ n = (⟨δ, ω, Λ⟩, 2) := by unfold lgAccept; dsimp only; rw [if_pos h6]
  rw [hr]
  try dsimp only
  refine G.lgFold (g := g) (x := x) Λ (by (repeat' constructor)) (by exact rfl) (by first | rfl | simp [Lg.keep]) (by first | rfl | simp [Lg.keep]) (by first | rfl | simp [Lg.keep]) (by first | rfl | simp [Lg.keep]) ?_
  exact G.dn (l := [.tmp 4]) rfl rfl ⟨rfl, rfl⟩
 ·refine G.seq (G.region (G.mv rfl rfl (G.mv rfl rfl (G.q (Quiet.nilp rfl) rfl (G.q (Quiet.fieldAddr rfl fo_79_0) rfl (G.q (Quiet.fieldAddr rfl fo_76_0) rfl ?_))))))
  refine G.q (Quiet.ld rfl ag_3) rfl ?_
  refine G.q (Quiet.int rfl rfl rfl) rfl (G.mv rfl rfl ?_)
  refine G.dec (t := 19) rfl (fun h3_19 => ?_) (fun h3_19 => ?_)
  ·refine G.kDT (t := 18) rfl h3_19 (G.gskip (t := 19) rfl rfl rfl rfl (G.gskip (t := 19) rfl rfl rfl rfl (G.q (Quiet.pickT rfl rfl) rfl (G.ag rfl rfl (G.nil (G.then_n (G.condT rfl (G.seq (G.region (G.ag rfl rfl (G.nil (G.then_n (G.ret (G.blk_r (G.then_r ?_)))))))))))))))
   have hr : lgAccept ⟨δ, ω, Λ⟩ n = (⟨δ, ω, Λ⟩, 82) := by unfold lgAccept; dsimp only; rw [if_neg (by rw [h6]; decide), if_pos (by first | exact .inl h3_19 | exact .inr h11)]
   rw [hr]
   try dsimp only
   refine G.lgFold (g := g) (x := x) Λ (by (repeat' constructor)) (by exact rfl) (by first | rfl | simp [Lg.keep]) (by first | rfl | simp [Lg.keep]) (by first | rfl | simp [Lg.keep]) (by first | rfl | simp [Lg.keep]) ?_
   exact G.dn (l := [.tmp 4]) rfl rfl ⟨rfl, rfl⟩
  ·refine G.kDF (t := 18) rfl h3_19 (G.grun (t := 19) rfl rfl rfl (G.mv rfl rfl (G.grun (t := 19) rfl rfl rfl (G.q (Quiet.int rfl rfl rfl) rfl (G.q (Quiet.pickF rfl rfl) rfl (G.ag rfl rfl (G.nil (G.then_n ?_))))))))
   refine G.condD rfl (fun h11 => ?_) (fun h11 => ?_)
   ·refine G.seq (G.region (G.ag rfl rfl (G.nil (G.then_n (G.ret (G.blk_r (G.then_r ?_)))))))
    have hr : lgAccept ⟨δ, ω, Λ⟩ n = (⟨δ, ω, Λ⟩, 82) := by unfold lgAccept; dsimp only; rw [if_neg (by rw [h6]; decide), if_pos (by first | exact .inl h3_19 | exact .inr h11)]
    rw [hr]
    try dsimp only
    refine G.lgFold (g := g) (x := x) Λ (by (repeat' constructor)) (by exact rfl) (by first | rfl | simp [Lg.keep]) (by first | rfl | simp [Lg.keep]) (by first | rfl | simp [Lg.keep]) (by first | rfl | simp [Lg.keep]) ?_
    exact G.dn (l := [.tmp 4]) rfl rfl ⟨rfl, rfl⟩
   ·refine G.seq (G.region (G.mv rfl rfl (G.mv rfl rfl (G.q (Quiet.nilp rfl) rfl (G.q (Quiet.fieldAddr rfl fo_79_0) rfl (G.q (Quiet.fieldAddr rfl fo_76_0) rfl ?_))))))
    refine G.q (Quiet.ld rfl ag_3) rfl ?_
    refine G.q (Quiet.int rfl rfl rfl) rfl (G.ag rfl rfl (G.nil (G.then_n ?_)))
    refine G.condD rfl (fun h23 => ?_) (fun h23 => ?_)
    ·refine G.seq (G.region (G.ag rfl rfl (G.nil (G.then_n (G.ret (G.blk_r (G.then_r ?_)))))))
     have hr : lgAccept ⟨δ, ω, Λ⟩ n = (⟨δ, ω, Λ⟩, 0) := by unfold lgAccept; dsimp only; rw [if_neg (by rw [h6]; decide), if_neg (by rintro (g1 | g1); exact h3_19 g1; exact h11 g1), if_pos h23]
     rw [hr]
     try dsimp only
     refine G.lgFold (g := g) (x := x) Λ (by (repeat' constructor)) (by exact rfl) (by first | rfl | simp [Lg.keep]) (by first | rfl | simp [Lg.keep]) (by first | rfl | simp [Lg.keep]) (by first | rfl | simp [Lg.keep]) ?_
     exact G.dn (l := [.tmp 4]) rfl rfl ⟨rfl, rfl⟩
    ·refine G.skip (G.blk_n (G.then_n (G.seq ?_)))
     refine G.draw [11, 12] [[0, 1, 2, 3, 4, 5, 6, 7, 8, 9, 10, 11], [12], [13]] mixed (by kernel_rfl) ?_
     refine Phases.go [] (by (repeat' constructor)) ?_
     refine D.k rfl (Quiet.move rfl) ?_
     refine D.kw [2, 3, 4, 11] rfl (Quiet.move rfl) ?_
     refine D.kw [3, 4, 11] rfl (Quiet.nilp rfl) ?_
     refine D.kw [4, 11] rfl (Quiet.fieldAddr rfl fo_79_1) ?_
     refine D.kw [11] rfl (Quiet.ld rfl ag_77) ?_
     refine D.kw [11] rfl (Quiet.move rfl) ?_
     refine D.kw [7, 8, 9, 10, 11] rfl (Quiet.move rfl) ?_
     refine D.kw [8, 9, 10, 11] rfl (Quiet.nilp rfl) ?_
     refine D.kw [9, 10, 11] rfl (Quiet.fieldAddr rfl fo_79_0) ?_
     refine D.kw [10, 11] rfl (Quiet.fieldAddr rfl fo_76_1) ?_
     refine D.kw [11] rfl (Quiet.ld rfl ag_3) ?_
     refine D.h rfl (by kernel_rfl) (OpSpec.call Tryz.func83 rfl rfl (vs := [_, _, _]) rfl (wmark_spec x d ω δ n Λ.cur hI)) (by (repeat' constructor)) ?nx38
     rintro v L' ⟨rfl, rfl⟩
     refine D.ph ?_
     refine Phases.go [] (by (repeat' constructor)) ?_
     refine D.h rfl (by kernel_rfl) (OpSpec.call Tryz.func50 rfl rfl (vs := [_, _]) rfl (lmetO_spec g x Λ _ ea ec za zc)) (by (repeat' constructor)) ?nx40
     rintro v L' ⟨rfl, rfl⟩
     refine D.ph ?_
     refine Phases.go [] (by (repeat' constructor)) ?_
     refine D.kw [] rfl (Quiet.assign rfl) ?_
     refine D.ph (Phases.fin (G.then_n (G.seq (G.seq (G.region (G.mv rfl rfl (G.q (Quiet.int rfl rfl rfl) rfl (G.nil (G.then_n ?_)))))))))
     refine G.condD rfl (fun h45 => ?_) (fun h45 => ?_)
     ·refine G.lgOpen (by (repeat' constructor)) fun ea ec za zc => ?_
      refine G.region (G.mv rfl rfl (G.mv rfl rfl (G.q (Quiet.nilp rfl) rfl (G.q (Quiet.fieldAddr rfl fo_79_0) rfl (G.q (Quiet.fieldAddr rfl fo_76_0) rfl ?_)))))
      refine G.oq (OpSpec.store rfl rfl rfl sz_3 ?c48 ?c49) ?nx50
      case c48 => first | decide | (simp; omega) | simp
      case c49 => exact nfz0 _ _
      rintro v L' rfl
      refine G.nil (G.then_n (G.seq (G.region (G.mv rfl rfl (G.ag rfl rfl (G.nil (G.then_n (G.ret ?_))))))))
      have hr : lgAccept ⟨δ, ω, Λ⟩ n = (⟨(setmZ δ ω n Λ.cur).1, (setmZ δ ω n Λ.cur).2.1, (metL Λ (setmZ δ ω n Λ.cur)).1.Λ.setAcc n⟩, 0) := by unfold lgAccept; dsimp only; rw [if_neg (by rw [h6]; decide), if_neg (by rintro (g1 | g1); exact h3_19 g1; exact h11 g1), if_neg h23, if_pos (show (metL Λ (setmZ δ ω n Λ.cur)).2 = 0 from h45)]
      rw [hr]
      try dsimp only
      rw [h45]
      refine G.lgFold (g := g) (x := x) ((Λ.met (setmZ δ ω n Λ.cur).2.2).setAcc n) (by (repeat' constructor)) (by exact rfl) (by first | rfl | simp [Lg.keep]) (by first | rfl | simp [Lg.keep]) (by first | rfl | simp [Lg.keep]) (by first | rfl | simp [Lg.keep]) ?_
      exact G.dn (l := [.tmp 4]) rfl rfl ⟨rfl, rfl⟩
     ·refine G.skip (G.then_n (G.seq (G.region (G.mv rfl rfl (G.ag rfl rfl (G.nil (G.then_n (G.ret ?_))))))))
      have hr : lgAccept ⟨δ, ω, Λ⟩ n = metL Λ (setmZ δ ω n Λ.cur) := by unfold lgAccept; dsimp only; rw [if_neg (by rw [h6]; decide), if_neg (by rintro (g1 | g1); exact h3_19 g1; exact h11 g1), if_neg h23, if_neg (show ¬ (metL Λ (setmZ δ ω n Λ.cur)).2 = 0 from h45)]
      rw [hr]
      try dsimp only
      exact G.dn (l := [.tmp 4]) rfl rfl ⟨rfl, rfl⟩

theorem ladopt_spec (g x d : Nat) (δ : Dk) (ω : Wl) (Λ : Lg) (n : Int) (hI : WlI δ ω) (hI1 : WlI (lgSync ⟨δ, ω, Λ⟩).1.δ (lgSync ⟨δ, ω, Λ⟩).1.ω) : Fn Tryz.prog 43 #[vptr g, vint n] [lgR g x Λ, wlR x d ω, dkR d δ] fun v L => v = vint (lgAdopt ⟨δ, ω, Λ⟩ n).2 ∧ L = [lgR g x (lgAdopt ⟨δ, ω, Λ⟩ n).1.Λ, wlR x d (lgAdopt ⟨δ, ω, Λ⟩ n).1.ω, dkR d (lgAdopt ⟨δ, ω, Λ⟩ n).1.δ] := by
 refine Fn.intro (vs := [vptr g, vint n]) Tryz.func43 rfl rfl ?_
 intro F W
 refine G.lgOpen (by (repeat' constructor)) fun ea ec za zc => ?_
 refine G.seq (G.region (G.ag rfl rfl (G.nil (G.then_n (G.seq (G.block (G.seq (G.region (G.mv rfl rfl (G.q (Quiet.nilp rfl) rfl (G.q (Quiet.fieldAddr rfl fo_79_6) rfl ?_)))))))))))
 refine G.q (Quiet.ld rfl ag_4) rfl ?_
 refine G.ag rfl rfl (G.nil (G.then_n ?_))
 refine G.condB rfl (fun h7 => ?_) (fun h7 => ?_)
 ·refine G.seq (G.region (G.ag rfl rfl (G.nil (G.then_n (G.ret (G.blk_r (G.then_r ?_)))))))
  have hr : lgAdopt ⟨δ, ω, Λ⟩ n = (⟨δ, ω, Λ⟩, 2) := by unfold lgAdopt; dsimp only; rw [if_pos h7]
  rw [hr]
  try dsimp only
  refine G.lgFold (g := g) (x := x) Λ (by (repeat' constructor)) (by exact rfl) (by first | rfl | simp [Lg.keep]) (by first | rfl | simp [Lg.keep]) (by first | rfl | simp [Lg.keep]) (by first | rfl | simp [Lg.keep]) ?_
  exact G.dn (l := [.tmp 4]) rfl rfl ⟨rfl, rfl⟩
 ·refine G.seq (G.region (G.mv rfl rfl (G.mv rfl rfl (G.q (Quiet.nilp rfl) rfl (G.q (Quiet.fieldAddr rfl fo_79_0) rfl (G.q (Quiet.fieldAddr rfl fo_76_1) rfl ?_))))))
  refine G.q (Quiet.ld rfl ag_3) rfl ?_
  refine G.q (Quiet.int rfl rfl rfl) rfl (G.mv rfl rfl ?_)
  refine G.dec (t := 20) rfl (fun h3_20 => ?_) (fun h3_20 => ?_)
  ·refine G.kDT (t := 19) rfl h3_20 (G.gskip (t := 20) rfl rfl rfl rfl (G.gskip (t := 20) rfl rfl rfl rfl (G.gskip (t := 20) rfl rfl rfl rfl (G.gskip (t := 20) rfl rfl rfl rfl (G.gskip (t := 20) rfl rfl rfl rfl (G.gskip (t := 20) rfl rfl rfl rfl (G.gskip (t := 20) rfl rfl rfl rfl (G.q (Quiet.pickT rfl rfl) rfl (G.ag rfl rfl (G.nil (G.then_n (G.condT rfl (G.seq (G.region (G.ag rfl rfl (G.nil (G.then_n (G.ret (G.blk_r (G.then_r ?_))))))))))))))))))))
   have hr : lgAdopt ⟨δ, ω, Λ⟩ n = (⟨δ, ω, Λ⟩, 82) := by unfold lgAdopt; dsimp only; rw [if_neg (by rw [h7]; decide), if_pos (by first | exact .inl h3_20 | exact .inr h12)]
   rw [hr]
   try dsimp only
   refine G.lgFold (g := g) (x := x) Λ (by (repeat' constructor)) (by exact rfl) (by first | rfl | simp [Lg.keep]) (by first | rfl | simp [Lg.keep]) (by first | rfl | simp [Lg.keep]) (by first | rfl | simp [Lg.keep]) ?_
   exact G.dn (l := [.tmp 4]) rfl rfl ⟨rfl, rfl⟩
  ·refine G.kDF (t := 19) rfl h3_20 (G.grun (t := 20) rfl rfl rfl (G.mv rfl rfl (G.grun (t := 20) rfl rfl rfl (G.mv rfl rfl (G.grun (t := 20) rfl rfl rfl (G.q (Quiet.nilp rfl) rfl (G.grun (t := 20) rfl rfl rfl (G.q (Quiet.fieldAddr rfl fo_79_0) rfl (G.grun (t := 20) rfl rfl rfl (G.q (Quiet.fieldAddr rfl fo_76_0) rfl (G.grun (t := 20) rfl rfl rfl ?_)))))))))))
   refine G.q (Quiet.ld rfl ag_3) rfl ?_
   refine G.grun (t := 20) rfl rfl rfl (G.q (Quiet.int rfl rfl rfl) rfl (G.q (Quiet.pickF rfl rfl) rfl (G.ag rfl rfl (G.nil (G.then_n ?_)))))
   refine G.condD rfl (fun h12 => ?_) (fun h12 => ?_)
   ·refine G.seq (G.region (G.ag rfl rfl (G.nil (G.then_n (G.ret (G.blk_r (G.then_r ?_)))))))
    have hr : lgAdopt ⟨δ, ω, Λ⟩ n = (⟨δ, ω, Λ⟩, 82) := by unfold lgAdopt; dsimp only; rw [if_neg (by rw [h7]; decide), if_pos (by first | exact .inl h3_20 | exact .inr h12)]
    rw [hr]
    try dsimp only
    refine G.lgFold (g := g) (x := x) Λ (by (repeat' constructor)) (by exact rfl) (by first | rfl | simp [Lg.keep]) (by first | rfl | simp [Lg.keep]) (by first | rfl | simp [Lg.keep]) (by first | rfl | simp [Lg.keep]) ?_
    exact G.dn (l := [.tmp 4]) rfl rfl ⟨rfl, rfl⟩
   ·refine G.skip (G.blk_n (G.then_n (G.seq (G.seq ?_))))
    refine G.lgFold (g := g) (x := x) Λ (by (repeat' constructor)) (by exact rfl) (by first | rfl | simp [Lg.keep]) (by first | rfl | simp [Lg.keep]) (by first | rfl | simp [Lg.keep]) (by first | rfl | simp [Lg.keep]) ?_
    refine G.region (G.mv rfl rfl ?_)
    refine G.oq (OpSpec.call Tryz.func28 rfl rfl (vs := [_]) rfl (lsync_spec g x d δ ω Λ hI)) ?nx25
    rintro v L' ⟨rfl, rfl⟩; obtain ⟨⟨⟨δ1, ω1, Λ1⟩, e1⟩, hsy⟩ : ∃ r, lgSync ⟨δ, ω, Λ⟩ = r := ⟨_, rfl⟩; rw [hsy] at hI1 ⊢; dsimp only at hI1 ⊢
    refine G.ag rfl rfl (G.nil (G.then_n (G.seq (G.region (G.mv rfl rfl (G.q (Quiet.int rfl rfl rfl) rfl (G.nil (G.then_n ?_))))))))
    refine G.condN rfl (fun h32 => ?_) (fun h32 => ?_)
    ·refine G.seq (G.region (G.mv rfl rfl (G.ag rfl rfl (G.nil (G.then_n (G.ret (G.then_r ?_)))))))
     have hr : lgAdopt ⟨δ, ω, Λ⟩ n = lgSync ⟨δ, ω, Λ⟩ := by unfold lgAdopt; dsimp only; rw [if_neg (by rw [h7]; decide), if_neg (by rintro (g1 | g1); exact h3_20 g1; exact h12 g1), if_pos (by rw [hsy]; exact h32)]
     rw [hr]
     try dsimp only
     rw [hsy]
     exact G.dn (l := [.tmp 4]) rfl rfl ⟨rfl, rfl⟩
    ·refine G.skip (G.then_n (G.seq ?_))
     refine G.lgOpen (by (repeat' constructor)) fun ea ec za zc => ?_
     refine G.draw [11, 12] [[0, 1, 2, 3, 4, 5, 6, 7, 8, 9, 10, 11], [12], [13]] mixed (by kernel_rfl) ?_
     refine Phases.go [] (by (repeat' constructor)) ?_
     refine D.k rfl (Quiet.move rfl) ?_
     refine D.kw [2, 3, 4, 11] rfl (Quiet.move rfl) ?_
     refine D.kw [3, 4, 11] rfl (Quiet.nilp rfl) ?_
     refine D.kw [4, 11] rfl (Quiet.fieldAddr rfl fo_79_1) ?_
     refine D.kw [11] rfl (Quiet.ld rfl ag_77) ?_
     refine D.kw [6, 7, 8, 9, 11] rfl (Quiet.move rfl) ?_
     refine D.kw [7, 8, 9, 11] rfl (Quiet.nilp rfl) ?_
     refine D.kw [8, 9, 11] rfl (Quiet.fieldAddr rfl fo_79_0) ?_
     refine D.kw [9, 11] rfl (Quiet.fieldAddr rfl fo_76_0) ?_
     refine D.kw [11] rfl (Quiet.ld rfl ag_3) ?_
     refine D.kw [11] rfl (Quiet.move rfl) ?_
     refine D.h rfl (by kernel_rfl) (OpSpec.call Tryz.func83 rfl rfl (vs := [_, _, _]) rfl (wmark_spec x d ω1 δ1 Λ1.acc n hI1)) (by (repeat' constructor)) ?nx39
     rintro v L' ⟨rfl, rfl⟩
     refine D.ph ?_
     refine Phases.go [] (by (repeat' constructor)) ?_
     refine D.h rfl (by kernel_rfl) (OpSpec.call Tryz.func50 rfl rfl (vs := [_, _]) rfl (lmetO_spec g x Λ1 _ ea ec za zc)) (by (repeat' constructor)) ?nx41
     rintro v L' ⟨rfl, rfl⟩
     refine D.ph ?_
     refine Phases.go [] (by (repeat' constructor)) ?_
     refine D.kw [] rfl (Quiet.assign rfl) ?_
     refine D.ph (Phases.fin (G.then_n (G.seq (G.seq (G.region (G.mv rfl rfl (G.q (Quiet.int rfl rfl rfl) rfl (G.nil (G.then_n ?_)))))))))
     refine G.condD rfl (fun h48 => ?_) (fun h48 => ?_)
     ·refine G.lgOpen (by (repeat' constructor)) fun ea ec za zc => ?_
      refine G.region (G.mv rfl rfl (G.mv rfl rfl (G.q (Quiet.nilp rfl) rfl (G.q (Quiet.fieldAddr rfl fo_79_0) rfl (G.q (Quiet.fieldAddr rfl fo_76_1) rfl ?_)))))
      refine G.oq (OpSpec.store rfl rfl rfl sz_3 ?c49 ?c50) ?nx51
      case c49 => first | decide | (simp; omega) | simp
      case c50 => exact nfz0 _ _
      rintro v L' rfl
      refine G.nil (G.then_n (G.seq (G.region (G.mv rfl rfl (G.ag rfl rfl (G.nil (G.then_n (G.ret ?_))))))))
      have hr : lgAdopt ⟨δ, ω, Λ⟩ n = lgAdopt2 ⟨δ1, ω1, Λ1⟩ n := by unfold lgAdopt; dsimp only; rw [if_neg (by rw [h7]; decide), if_neg (by rintro (g1 | g1); exact h3_20 g1; exact h12 g1), if_neg (by rw [hsy]; exact fun g1 => g1 h32), hsy]
      rw [hr]
      have hr2 : lgAdopt2 ⟨δ1, ω1, Λ1⟩ n = (⟨(setmZ δ1 ω1 Λ1.acc n).1, (setmZ δ1 ω1 Λ1.acc n).2.1, (metL Λ1 (setmZ δ1 ω1 Λ1.acc n)).1.Λ.setCur n⟩, 0) := by unfold lgAdopt2; dsimp only; rw [if_pos (show (metL Λ1 (setmZ δ1 ω1 Λ1.acc n)).2 = 0 from h48)]
      rw [hr2, h48]
      dsimp only
      refine G.lgFold (g := g) (x := x) ((Λ1.met (setmZ δ1 ω1 Λ1.acc n).2.2).setCur n) (by (repeat' constructor)) (by exact rfl) (by first | rfl | simp [Lg.keep]) (by first | rfl | simp [Lg.keep]) (by first | rfl | simp [Lg.keep]) (by first | rfl | simp [Lg.keep]) ?_
      exact G.dn (l := [.tmp 4]) rfl rfl ⟨rfl, rfl⟩
     ·refine G.skip (G.then_n (G.seq (G.region (G.mv rfl rfl (G.ag rfl rfl (G.nil (G.then_n (G.ret ?_))))))))
      have hr : lgAdopt ⟨δ, ω, Λ⟩ n = lgAdopt2 ⟨δ1, ω1, Λ1⟩ n := by unfold lgAdopt; dsimp only; rw [if_neg (by rw [h7]; decide), if_neg (by rintro (g1 | g1); exact h3_20 g1; exact h12 g1), if_neg (by rw [hsy]; exact fun g1 => g1 h32), hsy]
      rw [hr]
      have hr2 : lgAdopt2 ⟨δ1, ω1, Λ1⟩ n = metL Λ1 (setmZ δ1 ω1 Λ1.acc n) := by unfold lgAdopt2; dsimp only; rw [if_neg (show ¬ (metL Λ1 (setmZ δ1 ω1 Λ1.acc n)).2 = 0 from h48)]
      rw [hr2]
      try dsimp only
      exact G.dn (l := [.tmp 4]) rfl rfl ⟨rfl, rfl⟩

theorem lbase_spec (g x : Nat) (Λ : Lg) : Fn Tryz.prog 81 #[vptr g] [lgR g x Λ] fun v L => v = vint Λ.base ∧ L = [lgR g x Λ] := by
 refine Fn.intro (vs := [vptr g]) Tryz.func81 rfl rfl ?_
 intro F W
 refine G.lgOpen (by (repeat' constructor)) fun ea ec za zc => ?_
 refine G.seq (G.region (G.ag rfl rfl (G.nil (G.then_n (G.seq (G.region (G.mv rfl rfl (G.q (Quiet.nilp rfl) rfl (G.q (Quiet.fieldAddr rfl fo_79_2) rfl ?_)))))))))
 refine G.q (Quiet.ld rfl ag_3) rfl ?_
 refine G.ag rfl rfl (G.nil (G.then_n (G.ret ?_)))
 refine G.lgFold (g := g) (x := x) Λ (by (repeat' constructor)) (by exact rfl) (by first | rfl | simp [Lg.keep]) (by first | rfl | simp [Lg.keep]) (by first | rfl | simp [Lg.keep]) (by first | rfl | simp [Lg.keep]) ?_
 exact G.dn (l := [.tmp 2]) rfl rfl ⟨rfl, rfl⟩

theorem lsnap_spec (g x : Nat) (Λ : Lg) : Fn Tryz.prog 82 #[vptr g] [lgR g x Λ] fun v L => v = vstr Λ.snap ∧ L = [lgR g x Λ] := by
 refine Fn.intro (vs := [vptr g]) Tryz.func82 rfl rfl ?_
 intro F W
 refine G.lgOpen (by (repeat' constructor)) fun ea ec za zc => ?_
 refine G.seq (G.region (G.ag rfl rfl (G.nil (G.then_n (G.seq (G.region (G.mv rfl rfl (G.q (Quiet.nilp rfl) rfl (G.q (Quiet.fieldAddr rfl fo_79_3) rfl ?_)))))))))
 refine G.q (Quiet.ld rfl ag_9) rfl ?_
 refine G.ag rfl rfl (G.nil (G.then_n (G.ret ?_)))
 refine G.lgFold (g := g) (x := x) Λ (by (repeat' constructor)) (by exact rfl) (by first | rfl | simp [Lg.keep]) (by first | rfl | simp [Lg.keep]) (by first | rfl | simp [Lg.keep]) (by first | rfl | simp [Lg.keep]) ?_
 exact G.dn (l := [.tmp 2]) rfl rfl ⟨rfl, rfl⟩

theorem lacc_spec (g x : Nat) (Λ : Lg) : Fn Tryz.prog 33 #[vptr g] [lgR g x Λ] fun v L => v = vint Λ.acc ∧ L = [lgR g x Λ] := by
 refine Fn.intro (vs := [vptr g]) Tryz.func33 rfl rfl ?_
 intro F W
 refine G.lgOpen (by (repeat' constructor)) fun ea ec za zc => ?_
 refine G.seq (G.region (G.ag rfl rfl (G.nil (G.then_n (G.seq (G.region (G.mv rfl rfl (G.q (Quiet.nilp rfl) rfl (G.q (Quiet.fieldAddr rfl fo_76_0) rfl ?_)))))))))
 refine G.q (Quiet.ld rfl ag_3) rfl ?_
 refine G.ag rfl rfl (G.nil (G.then_n (G.ret ?_)))
 refine G.lgFold (g := g) (x := x) Λ (by (repeat' constructor)) (by exact rfl) (by first | rfl | simp [Lg.keep]) (by first | rfl | simp [Lg.keep]) (by first | rfl | simp [Lg.keep]) (by first | rfl | simp [Lg.keep]) ?_
 exact G.dn (l := [.tmp 2]) rfl rfl ⟨rfl, rfl⟩

theorem lcur_spec (g x : Nat) (Λ : Lg) : Fn Tryz.prog 34 #[vptr g] [lgR g x Λ] fun v L => v = vint Λ.cur ∧ L = [lgR g x Λ] := by
 refine Fn.intro (vs := [vptr g]) Tryz.func34 rfl rfl ?_
 intro F W
 refine G.lgOpen (by (repeat' constructor)) fun ea ec za zc => ?_
 refine G.seq (G.region (G.ag rfl rfl (G.nil (G.then_n (G.seq (G.region (G.mv rfl rfl (G.q (Quiet.nilp rfl) rfl (G.q (Quiet.fieldAddr rfl fo_76_1) rfl ?_)))))))))
 refine G.q (Quiet.ld rfl ag_3) rfl ?_
 refine G.ag rfl rfl (G.nil (G.then_n (G.ret ?_)))
 refine G.lgFold (g := g) (x := x) Λ (by (repeat' constructor)) (by exact rfl) (by first | rfl | simp [Lg.keep]) (by first | rfl | simp [Lg.keep]) (by first | rfl | simp [Lg.keep]) (by first | rfl | simp [Lg.keep]) ?_
 exact G.dn (l := [.tmp 2]) rfl rfl ⟨rfl, rfl⟩

end Go.Proofs.YtidjhgbdokcphaaGreat

/- Own work: the helpers of law 04, as plain data. -/

namespace Go.Proofs.YtidjhgbdokcphaaGreat
open Go

end Go.Proofs.YtidjhgbdokcphaaGreat

/- Own work: nothing: stands for the walks of law 04, in a seat that has none. -/
/- Own work: what a call of a log does, what a log tells, as plain data. -/

namespace Go.Proofs.YtidjhgbdokcphaaGreat
open Go

def tl (ω : Wl) : List Bs := if ω.doubt then [] else ω.recs
def toldZ (ω : Wl) (al : Bool) : List Bs := if al then tl ω else (tl ω).take ω.synced.toNat
abbrev Sta := List Bs × Int × Int
def sameZ (ω : Wl) (s : Sta) : Bool := decide (s.1 = tl ω) && decide (s.2.1 = ω.a) && decide (s.2.2 = ω.b) && decide (ω.synced = ω.recs.length)
end Go.Proofs.YtidjhgbdokcphaaGreat

/- Own work: nothing: stands for the walks of law 04, in a seat that has none. -/
/- Own work: the first example of law 04, reckoned. -/

namespace Go.Proofs.YtidjhgbdokcphaaGreat
open Go

def ab : Bs := [97, 98]
section
variable {W : World} {n : Nat} {ds : List Deferred} {E : Env} {L R : List HP} {X : Act → World → Prop}
theorem G.dkOk {d : Nat} {δ : Dk} (hL : Pick (dkR d δ) L R) (h : δ.Ok → G W n ds E L X) : G W n ds E L X := by
  intro ac w he hk hs
  obtain ⟨g1, -, hp⟩ := sep_head (hs.pick hL)
  obtain ⟨x, hok, -⟩ := hp
  exact h hok ac w he hk hs
end
end Go.Proofs.YtidjhgbdokcphaaGreat

/- Own work: nothing: stands for the walks of law 04, in a seat that has none. -/
/- Own work: a disk that does not die: what the calls of a log do there. -/

namespace Go.Proofs.YtidjhgbdokcphaaGreat
open Go

structure Al (δ : Dk) : Prop where
  dead : δ.dead = false
  left : δ.left = 0
theorem al_act {δ : Dk} (h : Al δ) : δ.act.2 = 0 ∧ Al δ.act.1 := by
  obtain ⟨h1, h2⟩ := h
  exact ⟨by simp [Dk.act, actE, h2], by simp [Dk.act, actD, h1, h2], by simp [Dk.act, actL, h2]⟩
theorem al_write {δ : Dk} (h : Al δ) {n : Int} {s : Bs} (hn : 0 ≤ n ∧ n < δ.now.length) (hs : s.length = 64) : (δ.write n s).2 = 0 ∧ Al (δ.write n s).1 ∧ (δ.write n s).1.now = δ.now.set n.toNat s := by
  have hh : δ.has n = true := by simp [Dk.has, hn.1, hn.2]
  have hp : Al (δ.put n s) := ⟨h.dead, h.left⟩
  have e : δ.write n s = (δ.put n s).act := by unfold Dk.write; rw [if_neg (by rw [h.dead]; decide), if_neg (by rw [hh]; simp [hs])]
  rw [e]
  exact ⟨(al_act hp).1, (al_act hp).2, rfl⟩
theorem al_sync {δ : Dk} (h : Al δ) : δ.sync.2 = 0 ∧ Al δ.sync.1 ∧ δ.sync.1.now = δ.now := by
  have e : δ.sync = ({ δ.act.1 with old := [] }, 0) := by unfold Dk.sync; rw [if_neg (by rw [h.dead]; decide), if_pos (al_act h).1]
  rw [e]
  exact ⟨rfl, ⟨(al_act h).2.dead, (al_act h).2.left⟩, rfl⟩
theorem lay_in {δ : Dk} {area : Int} {all : Bs} {i : Nat} (ha : 0 ≤ area ∧ area ≤ 1) (hn : 2 ≤ δ.now.length) (hl : (all.length : Int) ≤ 64 * halfZ δ) (hi : i * 64 < all.length) : 2 ≤ 2 + area * halfZ δ + i ∧ 2 + area * halfZ δ + i < δ.now.length := by
  have e : halfZ δ = ((δ.now.length : Int) - 2) / 2 := rfl
  generalize halfZ δ = k at *
  rcases (by omega : area = 0 ∨ area = 1) with rfl | rfl <;> omega
theorem al_lay : ∀ (f : Nat) (δ : Dk) (area : Int) (all : Bs) (i : Nat), Al δ → 0 ≤ area ∧ area ≤ 1 → 2 ≤ δ.now.length → (all.length : Int) ≤ 64 * halfZ δ → (layF f δ area all i).2 = 0 ∧ Al (layF f δ area all i).1 := by
  intro f
  induction f with
  | zero => intro δ area all i h _ _ _; exact ⟨rfl, h⟩
  | succ f ih =>
    intro δ area all i h ha hn hl
    simp only [layF]
    split
    · rename_i hi
      have hr := lay_in ha hn hl hi
      obtain ⟨w1, w2, w3⟩ := al_write h (n := 2 + area * halfZ δ + i) (s := laySec all i) ⟨by omega, hr.2⟩ (laySec_len _ _)
      rw [if_neg (by rw [w1]; decide)]
      have hlen : (δ.write (2 + area * halfZ δ + i) (laySec all i)).1.now.length = δ.now.length := (write_keeps _ _ _).1
      exact ih _ _ _ _ w2 ha (by rw [hlen]; exact hn) (by rw [halfZ_of hlen]; exact hl)
    · exact ⟨rfl, h⟩
theorem sec_len4 (m : Mk) : m.sec.length = 64 := by simp [Mk.sec, beB_len]
theorem al_next {δ : Dk} (h : Al δ) (hn : 2 ≤ δ.now.length) (m : Mk) : (nextZ δ m).2 = 0 ∧ Al (nextZ δ m).1 ∧ (nextZ δ m).1.now = δ.now.set (m.count % 2).toNat m.sec := by
  obtain ⟨w1, w2, w3⟩ := al_write h (n := m.count % 2) (s := m.sec) ⟨by omega, by omega⟩ (sec_len4 m)
  obtain ⟨s1, s2, s3⟩ := al_sync w2
  unfold nextZ
  rw [if_neg (by rw [w1]; decide), if_neg (by rw [s1]; decide)]
  exact ⟨rfl, s2, s3.trans w3⟩
theorem al_seal {δ : Dk} (h : Al δ) (hn : 2 ≤ δ.now.length) (ω : Wl) (area : Int) (l : List Bs) : ∃ δ', sealZ δ ω area l = (δ', { ω with recs := l, synced := l.length, area := area, count := ω.count + 1 }, 0) ∧ Al δ' ∧ δ'.now = δ.now.set ((ω.count + 1) % 2).toNat (ω.mark area l ω.a ω.b).sec ∧ δ'.acts ≤ δ.acts + 3 := by
  obtain ⟨s1, s2, s3⟩ := al_sync h
  have sk := sync_keeps δ
  obtain ⟨n1, n2, n3⟩ := al_next s2 (by rw [s3]; exact hn) (ω.mark area l ω.a ω.b)
  have nk := nextZ_keeps δ.sync.1 (ω.mark area l ω.a ω.b)
  refine ⟨(nextZ δ.sync.1 (ω.mark area l ω.a ω.b)).1, ?_, n2, by rw [n3, s3]; rfl, by omega⟩
  unfold sealZ
  rw [if_neg (by rw [s1]; decide), if_neg (by rw [n1]; decide)]
structure Well (δ : Dk) (ω : Wl) (N : Int) : Prop where
  al : Al δ
  doubt : ω.doubt = false
  size : 2 ≤ δ.now.length ∧ δ.now.length ≤ 32768
  acts : δ.acts ≤ N
  area : 0 ≤ ω.area ∧ ω.area ≤ 1
  count : 0 ≤ ω.count ∧ ω.count ≤ 4294967295
  synced : 0 ≤ ω.synced ∧ ω.synced ≤ ω.recs.length
  fits : ((laidZ ω.recs).length : Int) ≤ 64 * halfZ δ
theorem Well.i {δ : Dk} {ω : Wl} {N : Int} (h : Well δ ω N) (hN : N ≤ 1000000000000) : WlI δ ω := ⟨h.size, by have := h.acts; omega, h.area, h.count, h.synced, h.fits⟩
theorem Well.more {δ : Dk} {ω : Wl} {N M : Int} (h : Well δ ω N) (hN : N ≤ M) : Well δ ω M := ⟨h.al, h.doubt, h.size, by have := h.acts; omega, h.area, h.count, h.synced, h.fits⟩
theorem layZ_keeps (δ : Dk) (area : Int) (all : Bs) (frm : Nat) : (layZ δ area all frm).1.now.length = δ.now.length ∧ (layZ δ area all frm).1.acts ≤ δ.acts + (all.length + 1) := by
  have := layF_keeps (all.length + 1) δ area all (frm / 64)
  exact ⟨this.1, by have := this.2; show (layF _ _ _ _ _).1.acts ≤ _; omega⟩
theorem laid_take_le (l : List Bs) (k : Nat) : (laidZ (l.take k)).length ≤ (laidZ l).length := laidZ_take_len l k
theorem well_append {δ : Dk} {ω : Wl} {N : Int} (h : Well δ ω N) (s : Bs) :
    Well (appendZ δ ω s).1 (appendZ δ ω s).2.1 (N + 2000000) ∧ (appendZ δ ω s).1.now.length = δ.now.length ∧
    ((s.length ≤ 4000 ∧ ((laidZ ω.recs).length : Int) + s.length + 6 ≤ 64 * halfZ δ ∧ (appendZ δ ω s).2 = ({ ω with recs := ω.recs ++ [s] }, 0)) ∨
     (s.length > 4000 ∧ appendZ δ ω s = (δ, ω, 33)) ∨ (s.length ≤ 4000 ∧ ¬ ((laidZ ω.recs).length : Int) + s.length + 6 ≤ 64 * halfZ δ ∧ appendZ δ ω s = (δ, ω, 30))) := by
  have hm := h.more (M := N + 2000000) (by omega)
  by_cases h1 : s.length > 4000
  · have e : appendZ δ ω s = (δ, ω, 33) := by unfold appendZ; rw [if_neg (by rw [h.doubt]; decide), if_pos h1]
    rw [e]; exact ⟨hm, rfl, .inr (.inl ⟨h1, rfl⟩)⟩
  by_cases h2 : ((laidZ ω.recs).length : Int) + s.length + 6 ≤ 64 * halfZ δ
  · have hl : (laidZ ω.recs ++ recZ s).length = (laidZ ω.recs).length + s.length + 6 := by rw [List.length_append, recZ_len]; omega
    have hh := half_le h.size
    obtain ⟨a1, a2⟩ := al_lay ((laidZ ω.recs ++ recZ s).length + 1) δ ω.area (laidZ ω.recs ++ recZ s) ((laidZ ω.recs).length / 64) h.al h.area h.size.1 (by omega)
    have ak := layZ_keeps δ ω.area (laidZ ω.recs ++ recZ s) (laidZ ω.recs).length
    have e : appendZ δ ω s = ((layZ δ ω.area (laidZ ω.recs ++ recZ s) (laidZ ω.recs).length).1, { ω with recs := ω.recs ++ [s] }, 0) := by
      unfold appendZ; rw [if_neg (by rw [h.doubt]; decide), if_neg h1, if_neg (fun g => g h2), if_neg (by show ¬ (layF _ _ _ _ _).2 ≠ 0; rw [a1]; decide)]
    rw [e]
    refine ⟨⟨a2, h.doubt, by rw [ak.1]; exact h.size, ?_, h.area, h.count, ?_, ?_⟩, ak.1, .inl ⟨by omega, h2, rfl⟩⟩
    · have := h.acts; have := ak.2; dsimp only; omega
    · have := h.synced; simp; omega
    · rw [halfZ_of ak.1]; show ((laidZ (ω.recs ++ [s])).length : Int) ≤ _
      rw [laidZ_append, show laidZ [s] = recZ s by simp [laidZ], hl]; omega
  · have e : appendZ δ ω s = (δ, ω, 30) := by unfold appendZ; rw [if_neg (by rw [h.doubt]; decide), if_neg h1, if_pos h2]
    rw [e]; exact ⟨hm, rfl, .inr (.inr ⟨by omega, h2, rfl⟩)⟩
theorem well_seal {δ : Dk} {ω : Wl} {N : Int} (h : Well δ ω N) (hc : ω.count ≠ 4294967295) {area : Int} (ha : 0 ≤ area ∧ area ≤ 1) {l : List Bs} (hl : ((laidZ l).length : Int) ≤ 64 * halfZ δ) {δ1 : Dk} (h1 : Al δ1) (h2 : δ1.now.length = δ.now.length) (h3 : δ1.acts ≤ N + 1900000) :
    (dbt (sealZ δ1 ω area l)).2 = ({ ω with recs := l, synced := l.length, area := area, count := ω.count + 1 }, 0) ∧ Well (dbt (sealZ δ1 ω area l)).1 { ω with recs := l, synced := l.length, area := area, count := ω.count + 1 } (N + 2000000) ∧ (dbt (sealZ δ1 ω area l)).1.now = δ1.now.set ((ω.count + 1) % 2).toNat (ω.mark area l ω.a ω.b).sec := by
  obtain ⟨δ', e, a1, a2, a3⟩ := al_seal h1 (by rw [h2]; exact h.size.1) ω area l
  rw [e]
  have e2 : dbt (δ', { ω with recs := l, synced := l.length, area := area, count := ω.count + 1 }, 0) = (δ', { ω with recs := l, synced := l.length, area := area, count := ω.count + 1 }, 0) := rfl
  rw [e2]
  have hlen : δ'.now.length = δ.now.length := by rw [a2, List.length_set, h2]
  have := h.count
  refine ⟨rfl, ⟨a1, h.doubt, by rw [hlen]; exact h.size, ?_, ha, ?_, ?_, ?_⟩, a2⟩
  · dsimp only; omega
  · dsimp only; omega
  · dsimp only; omega
  · dsimp only; rw [halfZ_of hlen]; exact hl
structure Kept (δ : Dk) (ω : Wl) (N : Int) (r : Dk × Wl × Int) : Prop where
  well : Well r.1 r.2.1 (N + 2000000)
  len : r.1.now.length = δ.now.length
theorem Kept.same {δ : Dk} {ω : Wl} {N : Int} (h : Well δ ω N) {e : Int} : Kept δ ω N (δ, ω, e) := ⟨h.more (by omega), rfl⟩
theorem kept_seal {δ : Dk} {ω : Wl} {N : Int} (h : Well δ ω N) (hc : ω.count ≠ 4294967295) {area : Int} (ha : 0 ≤ area ∧ area ≤ 1) {l : List Bs} (hl : ((laidZ l).length : Int) ≤ 64 * halfZ δ) {δ1 : Dk} (h1 : Al δ1) (h2 : δ1.now.length = δ.now.length) (h3 : δ1.acts ≤ N + 1900000) : Kept δ ω N (dbt (sealZ δ1 ω area l)) := by
  obtain ⟨e, w, n⟩ := well_seal h hc ha hl h1 h2 h3
  exact ⟨by rw [e]; exact w, by rw [n, List.length_set, h2]⟩
theorem kept_sync {δ : Dk} {ω : Wl} {N : Int} (h : Well δ ω N) : Kept δ ω N (syncZ δ ω) := by
  unfold syncZ
  rw [if_neg (by rw [h.doubt]; decide)]
  split
  · exact .same h
  · split
    · exact .same h
    · rename_i hc
      exact kept_seal h hc h.area h.fits h.al rfl (by have := h.acts; omega)
theorem kept_cut {δ : Dk} {ω : Wl} {N : Int} (h : Well δ ω N) (n : Int) : Kept δ ω N (cutZ δ ω n) := by
  unfold cutZ
  rw [if_neg (by rw [h.doubt]; decide)]
  split
  · exact .same h
  · split
    · exact .same h
    · rename_i hc
      have := laid_take_le ω.recs n.toNat
      have := h.fits
      exact kept_seal h hc h.area (by omega) h.al rfl (by have := h.acts; omega)
theorem kept_renew {δ : Dk} {ω : Wl} {N : Int} (h : Well δ ω N) (l : List Bs) : Kept δ ω N (renewZ δ ω l) := by
  unfold renewZ
  rw [if_neg (by rw [h.doubt]; decide)]
  split
  · exact .same h
  · split
    · exact .same h
    · split
      · exact .same h
      · rename_i h1 h2 h3
        have hl : ((laidZ l).length : Int) ≤ 64 * halfZ δ := by omega
        have ha : 0 ≤ 1 - ω.area ∧ 1 - ω.area ≤ 1 := by have := h.area; omega
        have hh := half_le h.size
        obtain ⟨a1, a2⟩ := al_lay ((laidZ l).length + 1) δ (1 - ω.area) (laidZ l) (0 / 64) h.al ha h.size.1 hl
        have ak := layZ_keeps δ (1 - ω.area) (laidZ l) 0
        rw [if_neg (by show ¬ (layF _ _ _ _ _).2 ≠ 0; rw [a1]; decide)]
        exact kept_seal h (by omega) ha hl a2 ak.1 (by have := h.acts; have := ak.2; omega)
theorem kept_setm {δ : Dk} {ω : Wl} {N : Int} (h : Well δ ω N) (a b : Int) : Kept δ ω N (setmZ δ ω a b) := by
  unfold setmZ
  rw [if_neg (by rw [h.doubt]; decide)]
  split
  · exact .same h
  · split
    · exact .same h
    · rename_i h1 hc
      obtain ⟨n1, n2, n3⟩ := al_next h.al h.size.1 (ω.mark ω.area (ω.recs.take ω.synced.toNat) a b)
      have nk := nextZ_keeps δ (ω.mark ω.area (ω.recs.take ω.synced.toNat) a b)
      rw [if_neg (by rw [n1]; decide)]
      have := h.count; have := h.acts
      refine ⟨⟨n2, h.doubt, by dsimp only; rw [nk.1]; exact h.size, ?_, h.area, ?_, h.synced, ?_⟩, nk.1⟩
      · dsimp only; omega
      · dsimp only; omega
      · dsimp only; rw [halfZ_of nk.1]; exact h.fits
theorem new_al (n : Int) : Al (Dk.new n) := ⟨rfl, rfl⟩
theorem format_well {n : Int} (h : 16 ≤ n ∧ n ≤ 32768) : (formatZ (Dk.new n)).2 = some newW ∧ Well (formatZ (Dk.new n)).1 newW 3 ∧ (formatZ (Dk.new n)).1.now = ((Dk.new n).now.set 0 zs).set 1 mark1.sec := by
  have hl : (Dk.new n).now.length = n.toNat := by simp [Dk.new]
  obtain ⟨a1, a2, a3⟩ := al_write (new_al n) (n := 0) (s := zs) ⟨by omega, by omega⟩ rfl
  have e1 : (fmtZ (Dk.new n) 1) = (Dk.new n).write 0 zs := rfl
  have l1 : ((Dk.new n).write 0 zs).1.now.length = n.toNat := by rw [a3, List.length_set, hl]
  obtain ⟨b1, b2, b3⟩ := al_write a2 (n := 1) (s := mark1.sec) ⟨by omega, by omega⟩ (sec_len4 _)
  have l2 : (((Dk.new n).write 0 zs).1.write 1 mark1.sec).1.now.length = n.toNat := by rw [b3, List.length_set, l1]
  obtain ⟨c1, c2, c3⟩ := al_sync b2
  have e : formatZ (Dk.new n) = ((fmtZ (Dk.new n) 3).1, some newW) := by
    unfold formatZ
    rw [if_neg (by rw [e1, a1]; decide), if_neg (by show ¬ (((Dk.new n).write 0 zs).1.write 1 mark1.sec).2 ≠ 0; rw [b1]; decide), if_neg (by show ¬ ((((Dk.new n).write 0 zs).1.write 1 mark1.sec).1.sync).2 ≠ 0; rw [c1]; decide)]
  rw [e]
  have hk := fmtZ_keeps (Dk.new n) 3
  have h0 : (Dk.new n).acts = 0 := rfl
  have hn3 : (fmtZ (Dk.new n) 3).1.now = (((Dk.new n).write 0 zs).1.write 1 mark1.sec).1.now := c3
  have l3 : (fmtZ (Dk.new n) 3).1.now.length = n.toNat := by rw [hn3, l2]
  refine ⟨rfl, ⟨c2, rfl, by dsimp only; omega, by dsimp only; omega, ⟨by decide, by decide⟩, ⟨by decide, by decide⟩, ⟨by decide, by decide⟩, ?_⟩, ?_⟩
  · show ((0 : Nat) : Int) ≤ 64 * halfZ (fmtZ (Dk.new n) 3).1
    unfold halfZ; omega
  · show (fmtZ (Dk.new n) 3).1.now = _
    rw [hn3, b3, a3]; rfl
end Go.Proofs.YtidjhgbdokcphaaGreat

/- Own work: a ledger as plain data: read out of its records; Cut, Install, Compact, Entries; on a disk that lives. -/
namespace Go.Proofs.YtidjhgbdokcphaaGreat
open Go

def cntS : Rn Nat := runP 0 (cntP 65536)
def headR : Rn (Int × Nat) := bindR numR fun b => bindR cntS fun n => retR (b, n)
def lhZ (s : Bs) : Option (Int × Nat) := match headR (some s) with
  | (q, some []) => some q
  | _ => none
theorem numR_back {n : Int} (h : I64 n) (r : Bs) : numR (some (numB n ++ r)) = (n, some r) := by
  unfold numR runP; dsimp only; rw [num_back h]
theorem cntS_back {n : Nat} (h : n ≤ 65536) (r : Bs) : cntS (some (cntB n ++ r)) = (n, some r) := by
  unfold cntS runP; dsimp only; rw [cnt_back h (by decide)]
theorem lh_back {base : Int} {n : Nat} (hb : I64 base) (hn : n ≤ 65536) : lhZ (headB base n) = some (base, n) := by
  have e : headR (some (headB base n)) = ((base, n), some []) := by
    unfold headR bindR retR headB
    rw [numR_back hb]; dsimp only
    have := cntS_back hn []
    rw [List.append_nil] at this
    rw [this]
  unfold lhZ; rw [e]
def snapZ (many : Nat) : Bs → List Bs → Option (Bs × List Bs)
  | sn, [] => if sn.length < many then none else some (sn, [])
  | sn, r :: t => if sn.length < many then (if r.length = min 4000 (many - sn.length) then snapZ many (sn ++ r) t else none) else some (sn, r :: t)
theorem snap_done {many : Nat} {sn : Bs} (h : ¬ sn.length < many) (l : List Bs) : snapZ many sn l = some (sn, l) := by
  cases l <;> (unfold snapZ; rw [if_neg h])
theorem snap_none {many : Nat} {sn : Bs} (h : sn.length < many) : snapZ many sn [] = none := by unfold snapZ; rw [if_pos h]
theorem snap_bad {many : Nat} {sn r : Bs} {t : List Bs} (h : sn.length < many) (hr : ¬ r.length = min 4000 (many - sn.length)) : snapZ many sn (r :: t) = none := by
  show (if _ then _ else _) = _; rw [if_pos h, if_neg hr]
theorem snap_step {many : Nat} {sn r : Bs} {t : List Bs} (h : sn.length < many) (hr : r.length = min 4000 (many - sn.length)) : snapZ many sn (r :: t) = snapZ many (sn ++ r) t := by
  show (if _ then _ else _) = _; rw [if_pos h, if_pos hr]
theorem snap_back (many : Nat) : ∀ (f : Nat) (t sn : Bs) (es : List Bs), t.length ≤ f → sn.length + t.length = many → snapZ many sn (chunkF f t ++ es) = some (sn ++ t, es)
  | 0, t, sn, es, h, hm => by
    have : t = [] := List.eq_nil_of_length_eq_zero (by omega)
    subst this
    rw [List.append_nil]; exact snap_done (by simp at hm; omega) es
  | f + 1, t, sn, es, h, hm => by
    unfold chunkF
    split
    · rename_i ht; subst ht
      rw [List.append_nil]; exact snap_done (by simp at hm; omega) es
    · rename_i ht
      have hp : 0 < t.length := List.length_pos_iff.2 ht
      rw [List.cons_append, snap_step (by omega) (by rw [List.length_take]; omega), snap_back many f _ _ es (by rw [List.length_drop]; omega) (by rw [List.length_append, List.length_take, List.length_drop]; omega), List.append_assoc, List.take_append_drop]
def entsZ : Lg → List Bs → Option Lg
  | Λ, [] => some Λ
  | Λ, s :: t => match getZ s with
    | none => none
    | some e => if e.zx ≤ lastZ Λ ∨ Λ.ents.length = 200 then none else entsZ (Λ.keep s e.zx) t
theorem ents_none {Λ : Lg} {s : Bs} {t : List Bs} (h : getZ s = none) : entsZ Λ (s :: t) = none := by
  show (match getZ s with | none => none | some e => _) = _; rw [h]
theorem ents_bad {Λ : Lg} {s : Bs} {t : List Bs} {e : En} (h : getZ s = some e) (hb : e.zx ≤ lastZ Λ ∨ Λ.ents.length = 200) : entsZ Λ (s :: t) = none := by
  show (match getZ s with | none => none | some e => _) = _; rw [h]; exact if_pos hb
theorem ents_step {Λ : Lg} {s : Bs} {t : List Bs} {e : En} (h : getZ s = some e) (hb : ¬ (e.zx ≤ lastZ Λ ∨ Λ.ents.length = 200)) : entsZ Λ (s :: t) = entsZ (Λ.keep s e.zx) t := by
  show (match getZ s with | none => none | some e => _) = _; rw [h]; exact if_neg hb
def restZ (a b base : Int) : Option (Bs × List Bs) → Option Lg
  | none => none
  | some (sn, u) => entsZ ⟨a, b, base, sn, [], [], false⟩ u
def lparseZ (a b : Int) : List Bs → Option Lg
  | [] => none
  | r :: t => match lhZ r with
    | none => none
    | some (base, n) => if base < 0 then none else restZ a b base (snapZ n [] t)
def openLZ (ω : Wl) : Option Lg := if ω.a > 1073741824 ∨ ω.b > ω.a then none else lparseZ ω.a ω.b ω.recs
/-! ### Rows: each record an entry, its numbers rising -/
def RowsI : Int → List Bs → List Int → Prop
  | _, [], [] => True
  | b, s :: t, z :: u => (∃ e, getZ s = some e ∧ e.zx = z) ∧ b < z ∧ I64 z ∧ RowsI z t u
  | _, _, _ => False
def lastF (b : Int) (zs : List Int) : Int := zs.getLast?.getD b
theorem lastF_cons (b z : Int) (u : List Int) : lastF b (z :: u) = lastF z u := by
  unfold lastF; rw [List.getLast?_cons]; rfl
theorem RowsI.len : ∀ {es : List Bs} {zs : List Int} {b : Int}, RowsI b es zs → zs.length = es.length
  | [], [], _, _ => rfl
  | _ :: _, _ :: _, _, h => congrArg (· + 1) (RowsI.len h.2.2.2)
  | [], _ :: _, _, h => h.elim
  | _ :: _, [], _, h => h.elim
theorem RowsI.keep {s : Bs} {z : Int} (hs : ∃ e, getZ s = some e ∧ e.zx = z) (hi : I64 z) : ∀ {es : List Bs} {zs : List Int} {b : Int}, RowsI b es zs → lastF b zs < z → RowsI b (es ++ [s]) (zs ++ [z])
  | [], [], _, _, hz => ⟨hs, hz, hi, trivial⟩
  | _ :: _, _ :: _, _, h, hz => ⟨h.1, h.2.1, h.2.2.1, RowsI.keep hs hi h.2.2.2 (by rw [lastF_cons] at hz; exact hz)⟩
  | [], _ :: _, _, h, _ => h.elim
  | _ :: _, [], _, h, _ => h.elim
theorem RowsI.take : ∀ {es : List Bs} {zs : List Int} {b : Int} (n : Nat), RowsI b es zs → RowsI b (es.take n) (zs.take n)
  | [], [], _, _, _ => by simp [RowsI]
  | _ :: _, _ :: _, _, 0, _ => trivial
  | _ :: _, _ :: _, _, n + 1, h => ⟨h.1, h.2.1, h.2.2.1, RowsI.take n h.2.2.2⟩
  | [], _ :: _, _, _, h => h.elim
  | _ :: _, [], _, _, h => h.elim
theorem RowsI.gt : ∀ {es : List Bs} {zs : List Int} {b : Int}, RowsI b es zs → ∀ z ∈ zs, b < z
  | [], [], _, _, z, hz => by cases hz
  | _ :: _, z0 :: _, _, h, z, hz => by
    rcases List.mem_cons.1 hz with rfl | hz
    · exact h.2.1
    · have := h.2.1; have := RowsI.gt h.2.2.2 z hz; omega
  | [], _ :: _, _, h, _, _ => h.elim
  | _ :: _, [], _, h, _, _ => h.elim
theorem RowsI.i64 : ∀ {es : List Bs} {zs : List Int} {b : Int}, RowsI b es zs → ∀ z ∈ zs, I64 z
  | [], [], _, _, z, hz => by cases hz
  | _ :: _, z0 :: _, _, h, z, hz => by
    rcases List.mem_cons.1 hz with rfl | hz
    · exact h.2.2.1
    · exact RowsI.i64 h.2.2.2 z hz
  | [], _ :: _, _, h, _, _ => h.elim
  | _ :: _, [], _, h, _, _ => h.elim
theorem RowsI.up : ∀ {es : List Bs} {zs : List Int} {b : Int}, RowsI b es zs → (b :: zs).Pairwise (· < ·)
  | [], [], _, _ => by simp
  | _ :: _, z0 :: u, b, h => List.pairwise_cons.2 ⟨fun z hz => RowsI.gt (es := _ :: _) (zs := z0 :: u) h z hz, RowsI.up h.2.2.2⟩
  | [], _ :: _, _, h => h.elim
  | _ :: _, [], _, h => h.elim
theorem RowsI.drop : ∀ {es : List Bs} {zs : List Int} {b : Int} (n : Nat), n ≤ zs.length → RowsI b es zs → RowsI ((b :: zs).getD n 0) (es.drop n) (zs.drop n)
  | [], [], b, 0, _, _ => trivial
  | [], [], _, _ + 1, hn, _ => by simp at hn
  | _ :: _, _ :: _, _, 0, _, h => h
  | _ :: _, _ :: _, _, n + 1, hn, h => RowsI.drop n (by simpa using hn) h.2.2.2
  | [], _ :: _, _, _, _, h => h.elim
  | _ :: _, [], _, _, _, h => h.elim
theorem ents_back : ∀ {es : List Bs} {zs : List Int} {Λ : Lg}, RowsI (lastZ Λ) es zs → Λ.ents.length + es.length ≤ 200 → entsZ Λ es = some ⟨Λ.acc, Λ.cur, Λ.base, Λ.snap, Λ.ents ++ es, Λ.zxs ++ zs, Λ.doubt⟩
  | [], [], Λ, _, _ => by rw [List.append_nil, List.append_nil]; rfl
  | s :: t, z :: u, Λ, h, hl => by
    obtain ⟨⟨e, he, hz⟩, h2, h3, h4⟩ := h
    rw [List.length_cons] at hl
    rw [ents_step he (by rw [hz]; omega)]
    have hk : lastZ (Λ.keep s e.zx) = z := by unfold lastZ Lg.keep; rw [hz]; simp
    rw [ents_back (zs := u) (by rw [hk]; exact h4) (by show (Λ.ents ++ [s]).length + _ ≤ _; rw [List.length_append, List.length_singleton]; omega)]
    unfold Lg.keep
    rw [hz]; simp
  | [], _ :: _, _, h, _ => h.elim
  | _ :: _, [], _, h, _ => h.elim
structure LgW (Λ : Lg) : Prop where
  few : Λ.ents.length ≤ 200
  each : ∀ s ∈ Λ.ents, s.length ≤ 4000
  base : 0 ≤ Λ.base ∧ Λ.base ≤ 9223372036854775807
  snap : Λ.snap.length ≤ 65536
  rows : RowsI Λ.base Λ.ents Λ.zxs
  eps : 0 ≤ Λ.cur ∧ Λ.cur ≤ Λ.acc ∧ Λ.acc ≤ 1073741824
theorem LgW.i {Λ : Lg} (h : LgW Λ) : LgI Λ := ⟨h.few, h.rows.len, fun s hs => by have := h.each s hs; omega, ⟨by have := h.base; omega, h.base.2⟩, h.rows.i64⟩
theorem lparse_back {Λ : Lg} (h : LgW Λ) (hd : Λ.doubt = false) : lparseZ Λ.acc Λ.cur (headL Λ.base Λ.snap ++ Λ.ents) = some Λ := by
  unfold headL lparseZ
  rw [List.cons_append]; dsimp only
  rw [lh_back ⟨by have := h.base; omega, h.base.2⟩ h.snap]; dsimp only
  rw [if_neg (by have := h.base; omega)]
  unfold chunkL
  rw [snap_back Λ.snap.length Λ.snap.length Λ.snap [] Λ.ents (Nat.le_refl _) (by simp)]
  show entsZ ⟨Λ.acc, Λ.cur, Λ.base, [] ++ Λ.snap, [], [], false⟩ Λ.ents = _
  rw [ents_back (zs := Λ.zxs) (Λ := ⟨Λ.acc, Λ.cur, Λ.base, [] ++ Λ.snap, [], [], false⟩) h.rows (by have := h.few; simpa using this)]
  rw [← hd]; simp
/-! ### Calls -/
def placeZ (Λ : Lg) (z : Int) : Option Nat := if z ∈ Λ.zxs then some (Λ.zxs.idxOf z + 1) else if z = Λ.base then some 0 else none
def lgCut2 (s : Ld) (n : Nat) : Ld × Int :=
  if (metL s.Λ (cutZ s.δ s.ω (((headL s.Λ.base s.Λ.snap).length + n : Nat) : Int))).2 = 0 then (⟨(cutZ s.δ s.ω (((headL s.Λ.base s.Λ.snap).length + n : Nat) : Int)).1, (cutZ s.δ s.ω (((headL s.Λ.base s.Λ.snap).length + n : Nat) : Int)).2.1, ⟨s.Λ.acc, s.Λ.cur, s.Λ.base, s.Λ.snap, s.Λ.ents.take n, s.Λ.zxs.take n, s.Λ.doubt⟩⟩, 0) else metL s.Λ (cutZ s.δ s.ω (((headL s.Λ.base s.Λ.snap).length + n : Nat) : Int))
def lgCut (s : Ld) (z : Int) : Ld × Int := if s.Λ.doubt = true then (s, 2) else match placeZ s.Λ z with
  | none => (s, 81)
  | some n => lgCut2 s n
def lgRenew (s : Ld) (base : Int) (snap : Bs) (es : List Bs) (zs : List Int) : Ld × Int :=
  if es.length > 200 then (s, 83) else if (metL s.Λ (renewZ s.δ s.ω (headL base snap ++ es))).2 = 0 then (⟨(renewZ s.δ s.ω (headL base snap ++ es)).1, (renewZ s.δ s.ω (headL base snap ++ es)).2.1, ⟨s.Λ.acc, s.Λ.cur, base, snap, es, zs, s.Λ.doubt⟩⟩, 0) else metL s.Λ (renewZ s.δ s.ω (headL base snap ++ es))
def Rises (b : Int) (zs : List Int) : Prop := ∀ j, j < zs.length → b < zs.getD j 0 ∧ (0 < j → zs.getD (j - 1) 0 < zs.getD j 0)
instance (b : Int) (zs : List Int) : Decidable (Rises b zs) := by unfold Rises; infer_instance
def lgInstall (s : Ld) (z : Int) (snap : Bs) (l : List En) : Ld × Int :=
  if s.Λ.doubt = true then (s, 2) else if z < 0 ∨ snap.length > 65536 then (s, 1) else if l.all fitsE = false then (s, 1) else if ¬ Rises z (l.map (·.zx)) then (s, 81) else lgRenew s z snap (l.map enB) (l.map (·.zx))
def lgCompact (s : Ld) (z : Int) (snap : Bs) : Ld × Int :=
  if s.Λ.doubt = true then (s, 2) else if snap.length > 65536 then (s, 1) else match placeZ s.Λ z with
  | none => (s, 81)
  | some n => lgRenew s z snap (s.Λ.ents.drop n) (s.Λ.zxs.drop n)
def lgF1 (δ : Dk) : Dk × Wl × Int := appendZ (formatZ δ).1 newW (headB 0 0)
def lgF2 (δ : Dk) : Dk × Wl × Int := syncZ (lgF1 δ).1 (lgF1 δ).2.1
def lgFormat (δ : Dk) : Dk × Option Wl := if (formatZ δ).2.isNone = true then ((formatZ δ).1, none) else if (lgF1 δ).2.2 ≠ 0 then ((lgF1 δ).1, none) else if (lgF2 δ).2.2 ≠ 0 then ((lgF2 δ).1, none) else ((lgF2 δ).1, some (lgF2 δ).2.1)
def entAt (q : Bs × Int) : En := (getZ q.1).getD en0
def behindL (Λ : Lg) (z : Int) : List En := ((Λ.ents.zip Λ.zxs).filter fun q => decide (q.2 > z)).map entAt
/-! ### On a disk that lives -/
structure LWell (s : Ld) (N : Int) : Prop where
  well : Well s.δ s.ω N
  w : LgW s.Λ
  live : s.Λ.doubt = false
  recs : s.ω.recs = headL s.Λ.base s.Λ.snap ++ s.Λ.ents
  a : s.ω.a = s.Λ.acc
  b : s.ω.b = s.Λ.cur
theorem LWell.more {s : Ld} {N M : Int} (h : LWell s N) (hN : N ≤ M) : LWell s M := ⟨h.well.more hN, h.w, h.live, h.recs, h.a, h.b⟩
theorem lw_append {s : Ld} {N : Int} (h : LWell s N) {e : En} (he : EnI e) : LWell (lgAppend s e).1 (N + 2000000) ∧ (lgAppend s e).1.δ.now.length = s.δ.now.length ∧
    (((lgAppend s e).2 = 0 ∧ (lgAppend s e).1.Λ = s.Λ.keep (enB e) e.zx ∧ fitsE e = true ∧ lastZ s.Λ < e.zx ∧ (enB e).length ≤ 4000 ∧ s.Λ.ents.length < 200) ∨ ((lgAppend s e).2 ≠ 0 ∧ (lgAppend s e).1 = s)) := by
  have hm := h.more (M := N + 2000000) (by omega)
  unfold lgAppend
  rw [if_neg (by rw [h.live]; decide)]
  split
  · exact ⟨hm, rfl, .inr ⟨show (1 : Int) ≠ 0 by decide, rfl⟩⟩
  rename_i hf
  have hf : fitsE e = true := by simpa using hf
  split
  · exact ⟨hm, rfl, .inr ⟨show (81 : Int) ≠ 0 by decide, rfl⟩⟩
  rename_i hz
  split
  · exact ⟨hm, rfl, .inr ⟨show (83 : Int) ≠ 0 by decide, rfl⟩⟩
  rename_i hr
  obtain ⟨w1, w2, w3⟩ := well_append h.well (enB e)
  have hfew := h.w.few
  rcases w3 with ⟨g1, g2, g3⟩ | ⟨g1, g3⟩ | ⟨g1, g2, g3⟩
  · obtain ⟨δ1, q, hq⟩ : ∃ δ1 q, appendZ s.δ s.ω (enB e) = (δ1, q) := ⟨_, _, rfl⟩
    rw [hq] at w1 w2 g3 ⊢
    dsimp only at w1 w2 g3
    subst g3
    have e0 : metL s.Λ (δ1, ({ s.ω with recs := s.ω.recs ++ [enB e] } : Wl), (0 : Int)) = (⟨δ1, { s.ω with recs := s.ω.recs ++ [enB e] }, s.Λ⟩, 0) := rfl
    rw [e0, if_pos rfl]
    dsimp only at w1 ⊢
    obtain ⟨b, hb⟩ : ∃ b, getZ (enB e) = some b := by
      unfold fitsE at hf
      cases hg : getZ (enB e) with
      | none => rw [hg] at hf; simp at hf
      | some b => exact ⟨b, rfl⟩
    have hbz : b.zx = e.zx := by
      rw [get_back he hb]; rfl
    refine ⟨⟨w1, ⟨?_, ?_, h.w.base, h.w.snap, RowsI.keep ⟨b, hb, hbz⟩ he.zx h.w.rows (by show lastZ s.Λ < _; omega), h.w.eps⟩, h.live, ?_, h.a, h.b⟩, w2, .inl ⟨rfl, rfl, hf, by omega, g1, by omega⟩⟩
    · show (s.Λ.ents ++ [enB e]).length ≤ 200; rw [List.length_append, List.length_singleton]; omega
    · intro x hx
      rcases List.mem_append.1 hx with hx | hx
      · exact h.w.each x hx
      · rw [List.mem_singleton] at hx; subst hx; exact g1
    · show s.ω.recs ++ [enB e] = headL s.Λ.base s.Λ.snap ++ (s.Λ.ents ++ [enB e])
      rw [h.recs, List.append_assoc]
  · rw [g3, if_neg (by show ¬ metE 33 = 0; decide)]
    exact ⟨hm, rfl, .inr ⟨by show metE 33 ≠ 0; decide, rfl⟩⟩
  · rw [g3, if_neg (by show ¬ metE 30 = 0; decide)]
    exact ⟨hm, rfl, .inr ⟨by show metE 30 ≠ 0; decide, rfl⟩⟩
theorem lg0_W : LgW lg0 := ⟨by decide, (fun s hs => by cases hs), by decide, by decide, trivial, by decide⟩
theorem format_lwell {n : Int} (h : 16 ≤ n ∧ n ≤ 32768) : ∃ ω, (lgFormat (Dk.new n)).2 = some ω ∧ LWell ⟨(lgFormat (Dk.new n)).1, ω, lg0⟩ 4000003 ∧ (lgFormat (Dk.new n)).1.now.length = n.toNat ∧ Well (formatZ (Dk.new n)).1 newW 3 ∧ Well (lgF1 (Dk.new n)).1 (lgF1 (Dk.new n)).2.1 2000003 := by
  obtain ⟨f1, f2, f3⟩ := format_well h
  obtain ⟨δ1, hq⟩ : ∃ δ1, (formatZ (Dk.new n)).1 = δ1 := ⟨_, rfl⟩
  have hF1 : lgF1 (Dk.new n) = appendZ δ1 newW (headB 0 0) := by rw [← hq]; rfl
  rw [hq] at f2 f3
  have hnl : δ1.now.length = n.toNat := by rw [f3, List.length_set, List.length_set]; simp [Dk.new]
  obtain ⟨w1, w2, w3⟩ := well_append f2 (headB 0 0)
  have hl : (headB 0 0).length = 2 := by kernel_rfl
  have hh : 7 ≤ halfZ δ1 := by unfold halfZ; omega
  have h0 : (laidZ newW.recs).length = 0 := rfl
  rcases w3 with ⟨-, -, g3⟩ | ⟨g1, -⟩ | ⟨-, g2, -⟩
  rotate_left
  · omega
  · omega
  obtain ⟨⟨δ2, q2⟩, hq2⟩ : ∃ r, appendZ δ1 newW (headB 0 0) = r := ⟨_, rfl⟩
  rw [hq2] at w1 w2 g3 hF1
  dsimp only at w1 w2 g3
  subst g3
  dsimp only at w1
  have hs : syncZ δ2 { newW with recs := newW.recs ++ [headB 0 0] } = dbt (sealZ δ2 { newW with recs := newW.recs ++ [headB 0 0] } 0 [headB 0 0]) := by
    unfold syncZ
    rw [if_neg (by decide), if_neg (by show ¬ ((0 : Int) = ((1 : Nat) : Int)); decide), if_neg (by decide)]; rfl
  obtain ⟨e, w, k⟩ := well_seal w1 (by decide) (area := 0) (by decide) (l := [headB 0 0]) w1.fits w1.al rfl (by have := w1.acts; omega)
  have hF2 : lgF2 (Dk.new n) = dbt (sealZ δ2 { newW with recs := newW.recs ++ [headB 0 0] } 0 [headB 0 0]) := by unfold lgF2; rw [hF1]; exact hs
  have hfm : lgFormat (Dk.new n) = ((lgF2 (Dk.new n)).1, some (lgF2 (Dk.new n)).2.1) := by
    unfold lgFormat
    rw [f1, if_neg (by decide), if_neg (by rw [hF1]; exact fun g => g rfl), if_neg (by rw [hF2, e]; decide)]
  rw [hfm, hF2, hF1, hq]
  dsimp only
  exact ⟨_, rfl, ⟨by rw [e, show (4000003 : Int) = 3 + 2000000 + 2000000 by decide]; exact w, lg0_W, rfl, by rw [e]; rfl, by rw [e]; rfl, by rw [e]; rfl⟩, by rw [k, List.length_set, w2, hnl], f2, w1⟩
end Go.Proofs.YtidjhgbdokcphaaGreat

/- Own work, by program: package ledger: Format, parse, Open, Marks, Entries: walked. -/

namespace Go.Proofs.YtidjhgbdokcphaaGreat
open Go
theorem clipI0_spec : Fn Tryz.prog 52 #[.slice none 0 0] [slR 3 1 (.slice none 0 0) 0 []] fun u L => u = .slice none 0 0 ∧ L = [slR 3 1 u 0 []] := by
 refine Fn.intro (vs := [.slice none 0 0]) Tryz.func52 rfl rfl ?_
 intro F W
 refine G.seq (G.region (G.ag rfl rfl (G.nil (G.then_n (G.seq (G.region (G.mv rfl rfl (G.mv rfl rfl (G.q (Quiet.slen rfl Tryz.underlying31 rfl) rfl (G.mv rfl rfl (G.q (Quiet.slen rfl Tryz.underlying31 rfl) rfl (G.q (Quiet.clip (n := 0) rfl el_31 rfl rfl (Nat.le_refl _) (.inl rfl)) rfl (G.ag rfl rfl (G.nil (G.then_n (G.ret ?_))))))))))))))))
 exact G.dn (l := [.tmp 2]) rfl rfl ⟨rfl, rfl⟩

theorem clipI1_spec (b n c : Nat) (hc : n ≤ c) (xs : List Value) : Fn Tryz.prog 52 #[.slice (some ⟨b, 0, none⟩) n c] [slR 3 1 (.slice (some ⟨b, 0, none⟩) n c) n xs] fun u L => u = .slice (some ⟨b, 0, none⟩) n n ∧ L = [slR 3 1 u n xs] := by
 refine Fn.intro (vs := [.slice (some ⟨b, 0, none⟩) n c]) Tryz.func52 rfl rfl ?_
 intro F W
 refine G.seq (G.region (G.ag rfl rfl (G.nil (G.then_n (G.seq (G.region (G.mv rfl rfl (G.mv rfl rfl (G.q (Quiet.slen rfl Tryz.underlying31 rfl) rfl (G.mv rfl rfl (G.q (Quiet.slen rfl Tryz.underlying31 rfl) rfl ?_)))))))))))
 refine G.q (Quiet.clip (n := n) rfl el_31 rfl rfl hc (.inr ⟨_, _, rfl⟩)) rfl ?_
 refine G.ag rfl rfl (G.nil (G.then_n (G.ret ?_)))
 refine G.slClip (by (repeat' constructor)) ?_
 exact G.dn (l := [.tmp 2]) rfl rfl ⟨rfl, rfl⟩

theorem clipI_spec (v : Value) (n : Nat) (xs : List Value) : Fn Tryz.prog 52 #[v] [slR 3 1 v n xs] fun u L => (∃ a c, u = .slice a n c) ∧ L = [slR 3 1 u n xs] := by
  intro F w hs
  obtain ⟨g1, -, hp⟩ := sep_head hs
  rcases hp with ⟨rfl, rfl, rfl⟩ | ⟨b, cap, rest, fr, rfl, -, -, -, h4, -⟩
  · exact (clipI0_spec F w hs).mono fun e w' ⟨u, L, ⟨h1, h2⟩, h3⟩ => ⟨u, L, ⟨⟨_, _, h1⟩, h2⟩, h3⟩
  · exact (clipI1_spec b n cap h4 xs F w hs).mono fun e w' ⟨u, L, ⟨h1, h2⟩, h3⟩ => ⟨u, L, ⟨⟨_, _, h1⟩, h2⟩, h3⟩
theorem hd00 : (headB 0 0).length = 2 := by kernel_rfl
theorem lformat_spec (d : Nat) (δ : Dk) (hA : δ.acts + 10 < 4611686018427387904) (hI : WlI (formatZ δ).1 newW) (hI1 : WlI (lgF1 δ).1 (lgF1 δ).2.1) : Fn Tryz.prog 12 #[vptr d] [dkR d δ] fun v L => ((lgFormat δ).2 = none ∧ v = .tuple #[.pointer none, vint 2] ∧ L = [dkR d (lgFormat δ).1]) ∨
    (∃ ω g x, (lgFormat δ).2 = some ω ∧ v = .tuple #[vptr g, vint 0] ∧ L = [lgR g x lg0, wlR x d ω, dkR d (lgFormat δ).1]) := by
 refine Fn.intro (vs := [vptr d]) Tryz.func12 rfl rfl ?_
 intro F W
 refine G.seq (G.region (G.ag rfl rfl (G.ag rfl rfl (G.nil (G.then_n (G.seq (G.seq (G.region (G.mv rfl rfl (G.q (Quiet.ptreq rfl rfl Tryz.underlying24) rfl (G.nil (G.then_n (G.condF rfl (G.skip (G.then_n (G.seq (G.region (G.mv rfl rfl ?_))))))))))))))))))
 refine G.oq (OpSpec.call Tryz.func44 rfl rfl (vs := [_]) rfl (format_spec d δ hA)) ?nx6
 rintro v L' (⟨hf, rfl, rfl⟩ | ⟨hf, x, rfl, rfl⟩)
 ·refine G.mv rfl rfl (G.q (Quiet.extract rfl rfl) rfl (G.q (Quiet.extract rfl rfl) rfl (G.ag rfl rfl (G.ag rfl rfl (G.nil (G.then_n (G.seq (G.seq (G.region (G.mv rfl rfl ?_))))))))))
  refine G.q (Quiet.as (v' := .bool true) (by rfl) (Quiet.int rfl rfl rfl)) rfl ?_
  refine G.mv rfl rfl (G.gskip (t := 15) rfl rfl rfl rfl (G.gskip (t := 15) rfl rfl rfl rfl (G.gskip (t := 15) rfl rfl rfl rfl (G.gskip (t := 15) rfl rfl rfl rfl (G.gskip (t := 15) rfl rfl rfl rfl (G.gskip (t := 15) rfl rfl rfl rfl (G.q (Quiet.pickT rfl rfl) rfl (G.mv rfl rfl (G.gskip (t := 23) rfl rfl rfl rfl (G.gskip (t := 23) rfl rfl rfl rfl (G.gskip (t := 23) rfl rfl rfl rfl (G.q (Quiet.pickT rfl rfl) rfl (G.nil (G.then_n (G.condT rfl (G.seq (G.region (G.ag rfl rfl (G.ag rfl rfl (G.nil (G.then_n (G.ret (G.then_r ?_)))))))))))))))))))))))
  have hr : lgFormat δ = ((formatZ δ).1, none) := by unfold lgFormat; rw [hf]; rfl
  rw [hr]
  exact G.dn (l := [.tmp 2, .tmp 3]) rfl rfl (.inl ⟨rfl, rfl, rfl⟩)
 ·refine G.mv rfl rfl (G.q (Quiet.extract rfl rfl) rfl (G.q (Quiet.extract rfl rfl) rfl (G.ag rfl rfl (G.ag rfl rfl (G.nil (G.then_n (G.seq (G.seq (G.region (G.mv rfl rfl ?_))))))))))
  refine G.q (Quiet.as (v' := .bool false) (by rfl) (Quiet.int rfl rfl rfl)) rfl ?_
  refine G.mv rfl rfl (G.grun (t := 15) rfl rfl rfl (G.mv rfl rfl (G.grun (t := 15) rfl rfl rfl ?_)))
  refine G.oq (OpSpec.call Tryz.func46 rfl rfl (vs := [_, _]) rfl (lahead_spec 0 [] (by decide) (by decide))) ?nx19
  rintro v L' ⟨ba, ca, rfl, rfl⟩; rw [show headL 0 [] = [headB 0 0] from rfl]; dsimp only [List.length_cons, List.length_nil]
  refine G.grun (t := 15) rfl rfl rfl ?_
  refine G.q (Quiet.indexAddr rfl rfl el_46 (by omega)) rfl ?_
  refine G.grun (t := 15) rfl rfl rfl ?_
  refine G.q (Quiet.loadEl (p := strR (.slice (some ⟨ba, 0, none⟩) (0 + 1) ca) [headB 0 0]) (i := 0) (v := vstr (headB 0 0)) rfl ag_9 (by (repeat' constructor)) (fun h hp => slR_rd hp) rfl) rfl ?_
  refine G.grun (t := 15) rfl rfl rfl ?_
  refine G.oq (OpSpec.call Tryz.func45 rfl rfl (vs := [_, _]) rfl (wappend_spec x d newW (formatZ δ).1 (headB 0 0) hI (by rw [hd00]; decide))) ?nx23
  rintro v L' ⟨rfl, rfl⟩; rw [show appendZ (formatZ δ).1 newW (headB 0 0) = lgF1 δ from rfl]
  refine G.grun (t := 15) rfl rfl rfl (G.q (Quiet.int rfl rfl rfl) rfl (G.q (Quiet.pickF rfl rfl) rfl (G.mv rfl rfl ?_)))
  refine G.ndec (t := 23) rfl (fun h4_23 => ?_) (fun h4_23 => ?_)
  ·refine G.kNT (t := 21) rfl h4_23 (G.kNT (t := 22) rfl h4_23 (G.gskip (t := 23) rfl rfl rfl rfl (G.gskip (t := 23) rfl rfl rfl rfl (G.gskip (t := 23) rfl rfl rfl rfl (G.q (Quiet.pickT rfl rfl) rfl (G.nil (G.then_n (G.condT rfl (G.seq (G.region (G.ag rfl rfl (G.ag rfl rfl (G.nil (G.then_n (G.ret (G.then_r ?_))))))))))))))))
   have hr : lgFormat δ = ((lgF1 δ).1, none) := by unfold lgFormat; rw [hf, if_neg (by decide),  if_pos h4_23]
   rw [hr]
   exact G.dn (l := [.tmp 2, .tmp 3]) rfl rfl (.inl ⟨rfl, rfl, rfl⟩)
  ·refine G.kNF (t := 21) rfl h4_23 (G.kNF (t := 22) rfl h4_23 (G.grun (t := 23) rfl rfl rfl (G.mv rfl rfl (G.grun (t := 23) rfl rfl rfl ?_))))
   refine G.oq (OpSpec.call Tryz.func47 rfl rfl (vs := [_]) rfl (wsync_spec x d (lgF1 δ).2.1 (lgF1 δ).1 hI1)) ?nx29
   rintro v L' ⟨rfl, rfl⟩; rw [show syncZ (lgF1 δ).1 (lgF1 δ).2.1 = lgF2 δ from rfl]
   refine G.grun (t := 23) rfl rfl rfl (G.q (Quiet.int rfl rfl rfl) rfl (G.q (Quiet.pickF rfl rfl) rfl (G.nil (G.then_n ?_))))
   refine G.condN rfl (fun h27 => ?_) (fun h27 => ?_)
   ·refine G.seq (G.region (G.ag rfl rfl (G.ag rfl rfl (G.nil (G.then_n (G.ret (G.then_r ?_)))))))
    have hr : lgFormat δ = ((lgF2 δ).1, none) := by unfold lgFormat; rw [hf, if_neg (by decide), if_neg (fun g => g h4_23),  if_pos h27]
    rw [hr]
    exact G.dn (l := [.tmp 2, .tmp 3]) rfl rfl (.inl ⟨rfl, rfl, rfl⟩)
   ·refine G.skip (G.then_n (G.seq (G.region (G.mv rfl rfl ?_))))
    refine G.q (Quiet.buildN (pl := [(0, 2), (2, 1), (3, 1), (4, 1), (5, 1), (6, 1), (7, 1)]) (us := [(1, _)]) (cells := [vint 0, vint 0, vptr x, vint 0, vstr [], .slice none 0 0, .slice none 0 0, .bool false]) Tryz.underlying79 (by kernel_rfl) ze_79 rfl rfl) rfl ?_
    refine G.oq (OpSpec.box rfl) ?nx35
    rintro v L' ⟨g, rfl, rfl⟩
    refine G.ag rfl rfl (G.ag rfl rfl (G.nil ?_))
    refine G.ptCast (b := g) (l' := [vint 0, vint 0, vptr x, vint 0, vstr [], .slice none 0 0, .slice none 0 0, .bool false]) (by (repeat' constructor)) rfl ?_
    refine G.then_n (G.ret ?_)
    have hr : lgFormat δ = ((lgF2 δ).1, some (lgF2 δ).2.1) := by unfold lgFormat; rw [hf, if_neg (by decide), if_neg (fun g => g h4_23),  if_neg (fun g => g h27)]
    rw [hr]
    refine G.add (slR_nil 9 1) (G.add (slR_nil 3 1) ?_)
    refine G.lgFold (g := g) (x := x) (ea := none) (ec := 0) (za := none) (zc := 0) (es := []) (zs := []) lg0 (by (repeat' constructor)) rfl rfl rfl rfl rfl ?_
    exact G.dn (l := [.tmp 2, .tmp 3]) rfl rfl (.inr ⟨_, _, _, rfl, rfl, rfl⟩)

theorem llastO_spec (g x : Nat) (Λ : Lg) (hl : LgI Λ) (ea : Option Addr) (ec : Nat) (za : Option Addr) (zc : Nat) : Fn Tryz.prog 17 #[vptr g] [ptc g [vint Λ.acc, vint Λ.cur, vptr x, vint Λ.base, vstr Λ.snap, .slice ea Λ.ents.length ec, .slice za Λ.zxs.length zc, .bool Λ.doubt] 79, strR (.slice ea Λ.ents.length ec) Λ.ents, intR (.slice za Λ.zxs.length zc) Λ.zxs] fun v L => v = vint (lastZ Λ) ∧ L = [ptc g [vint Λ.acc, vint Λ.cur, vptr x, vint Λ.base, vstr Λ.snap, .slice ea Λ.ents.length ec, .slice za Λ.zxs.length zc, .bool Λ.doubt] 79, strR (.slice ea Λ.ents.length ec) Λ.ents, intR (.slice za Λ.zxs.length zc) Λ.zxs] := by
 refine Fn.intro (vs := [vptr g]) Tryz.func17 rfl rfl ?_
 intro F W
 have h1 := hl.ents
 have h2 := hl.same
 refine G.seq (G.region (G.ag rfl rfl (G.nil (G.then_n (G.seq (G.seq (G.region (G.mv rfl rfl (G.q (Quiet.nilp rfl) rfl (G.q (Quiet.fieldAddr rfl fo_79_5) rfl ?_))))))))))
 refine G.q (Quiet.ld rfl ag_31) rfl ?_
 refine G.q (Quiet.slen rfl Tryz.underlying31 rfl) rfl (G.q (Quiet.int rfl rfl rfl) rfl (G.nil (G.then_n ?_)))
 refine G.condD rfl (fun h8 => ?_) (fun h8 => ?_)
 ·refine G.seq (G.region (G.mv rfl rfl (G.q (Quiet.nilp rfl) rfl (G.q (Quiet.fieldAddr rfl fo_79_2) rfl ?_))))
  refine G.q (Quiet.ld rfl ag_3) rfl ?_
  refine G.ag rfl rfl (G.nil (G.then_n (G.ret (G.then_r ?_))))
  rw [last_nil (Λ := Λ) (by omega)]
  exact G.dn (l := [.tmp 2]) rfl rfl ⟨rfl, rfl⟩
 ·refine G.skip (G.then_n (G.seq ?_))
  obtain ⟨i, hi⟩ : ∃ i, i + 1 = Λ.zxs.length := ⟨Λ.zxs.length - 1, by omega⟩
  refine G.slShape (v := .slice za _ zc) (xs := ints Λ.zxs) (by (repeat' constructor)) (by omega) fun bz cz e0 mbz _ => ?_
  simp only [Value.slice.injEq, true_and] at e0
  obtain ⟨rfl, rfl⟩ := e0
  refine G.draw [] [[0, 1, 2, 3, 4, 5, 6, 7, 8, 9, 10, 11, 12]] mixed (by kernel_rfl) ?_
  refine Phases.go [] (by (repeat' constructor)) ?_
  refine D.kw [1, 2, 3, 10, 11, 12] rfl (Quiet.move rfl) ?_
  refine D.kw [2, 3, 10, 11, 12] rfl (Quiet.nilp rfl) ?_
  refine D.kw [3, 10, 11, 12] rfl (Quiet.fieldAddr rfl fo_79_5) ?_
  refine D.kw [10, 11, 12] rfl (Quiet.ld rfl ag_31) ?_
  refine D.kw [5, 6, 7, 8, 9, 10, 11, 12] rfl (Quiet.move rfl) ?_
  refine D.kw [6, 7, 8, 9, 10, 11, 12] rfl (Quiet.nilp rfl) ?_
  refine D.kw [7, 8, 9, 10, 11, 12] rfl (Quiet.fieldAddr rfl fo_79_5) ?_
  refine D.kw [8, 9, 10, 11, 12] rfl (Quiet.ld rfl ag_31) ?_
  refine D.kw [9, 10, 11, 12] rfl (Quiet.slen rfl Tryz.underlying31 rfl) ?_
  refine D.kw [10, 11, 12] rfl (Quiet.as (v' := vint (i : Nat)) (by congr 1; omega) (Quiet.sub rfl rfl (by omega))) ?_
  refine D.kw [11, 12] rfl (Quiet.indexAddr rfl rfl el_31 (by omega)) ?_
  refine D.kw [12] rfl (Quiet.loadEl (p := intR (.slice (some ⟨bz, 0, none⟩) Λ.zxs.length zc) Λ.zxs) (i := i * 1) (v := vint (Λ.zxs[i]'(by omega))) rfl ag_3 (by (repeat' constructor)) (fun h hp => slR_rd hp) (by simp [List.getElem?_eq_getElem (show i < Λ.zxs.length by omega)])) ?_
  refine D.kw [] rfl (Quiet.assign rfl) ?_
  refine D.ph (Phases.fin (G.then_n (G.ret ?_)))
  rw [last_at hi]
  exact G.dn (l := [.tmp 2]) rfl rfl ⟨rfl, rfl⟩

theorem numR_i64 (st : Rs) : I64 (numR st).1 := by
  unfold numR runP
  split
  · decide
  · split
    · rename_i x hx; exact (num_form hx).2
    · decide
theorem get_zx64 {s : Bs} {e : En} (h : getZ s = some e) : I64 e.zx := by
  unfold getZ getR at h
  split at h
  · rename_i q hq
    cases h
    have : e.zx = (numR (some s)).1 := by rw [show e = (enR (some s)).1 by rw [hq]]; rfl
    rw [this]; exact numR_i64 _
  · cases h
theorem LgI.keep {Λ : Lg} (h : LgI Λ) (hl : Λ.ents.length < 200) {s : Bs} (hs : s.length ≤ 1073741824) {z : Int} (hz : I64 z) : LgI (Λ.keep s z) := by
  refine ⟨?_, ?_, ?_, h.base, ?_⟩
  · show (Λ.ents ++ [s]).length ≤ 200; rw [List.length_append, List.length_singleton]; omega
  · show (Λ.zxs ++ [z]).length = (Λ.ents ++ [s]).length; rw [List.length_append, List.length_append, h.same]; rfl
  · intro x hx
    rcases List.mem_append.1 hx with hx | hx
    · exact h.each x hx
    · rw [List.mem_singleton] at hx; subst hx; exact hs
  · intro x hx
    rcases List.mem_append.1 hx with hx | hx
    · exact h.zxs x hx
    · rw [List.mem_singleton] at hx; subst hx; exact hz
def cntX (st : Rs) : Nat × Rs := runP 0 (cntP 65536) st
theorem cntX_le (st : Rs) : (cntX st).1 ≤ 65536 := by
  unfold cntX runP
  split
  · exact Nat.zero_le _
  · split
    · rename_i x hx; exact (cnt_form hx).2
    · exact Nat.zero_le _
theorem lh_ok {s : Bs} (h : (cntX (numR (some s)).2).2 = some []) : lhZ s = some ((numR (some s)).1, (cntX (numR (some s)).2).1) := by
  have e : headR (some s) = (((numR (some s)).1, (cntX (numR (some s)).2).1), some []) := by rw [← h]; rfl
  unfold lhZ; rw [e]
theorem lh_bad {s : Bs} (h : ¬ (cntX (numR (some s)).2).2 = some []) : lhZ s = none := by
  unfold lhZ
  split
  · rename_i q hq; exact absurd (show (headR (some s)).2 = some [] by rw [hq]) h
  · rfl
theorem parse_cons {a b : Int} {l : List Bs} (h : 0 < l.length) : lparseZ a b l = match lhZ (l.getD 0 []) with
    | none => none
    | some (base, n) => if base < 0 then none else restZ a b base (snapZ n [] (l.drop 1)) := by
  cases l with
  | nil => simp at h
  | cons r t => rfl
theorem drop_cons {l : List Bs} {i : Nat} (h : i < l.length) : l.drop i = l.getD i [] :: l.drop (i + 1) := by
  rw [List.drop_eq_getElem_cons h]; simp [List.getD_eq_getElem?_getD, h]
theorem tail_addr (b o c : Nat) : (if c = (1 : Int).toNat then (⟨b, o, none⟩ : Addr) else ⟨b, o + (1 : Int).toNat * 1, none⟩) = ⟨b, if c = 1 then o else o + 1, none⟩ := by
  show (if c = 1 then _ else (⟨b, o + 1, none⟩ : Addr)) = _
  split <;> rfl
theorem rdS_tail {h : Hp} {b o n c : Nat} {l : List Bs} (hr : rdS 1 h (.slice (some ⟨b, o, none⟩) n c) n (strs l)) (hn : 0 < n) (hc : n ≤ c) : rdS 1 h (.slice (some ⟨b, if c = 1 then o else o + 1, none⟩) (n - 1) (c - 1)) (n - 1) (strs (l.drop 1)) := by
  have hl : (strs l).length = n * 1 := rdS_len hr
  rw [show (strs l).length = l.length by simp [strs]] at hl
  rcases Nat.lt_or_ge 1 n with h1 | h1
  · rw [if_neg (by omega)]
    have := rdS_drop (k := 1) hr h1
    rw [show (strs l).drop (1 * 1) = strs (l.drop 1) by simp [strs, List.map_drop]] at this
    exact this
  · obtain rfl : n = 1 := by omega
    refine .inl ⟨rfl, ?_, _, _, rfl⟩
    rw [List.drop_eq_nil_of_le (by omega)]; rfl
theorem lparse_spec (g x : Nat) (a b : Int) (va : Value) (l : List Bs) (p : HP) (hr : ∀ h : Hp, p h → rdS 1 h va l.length (strs l)) (hl : l.length ≤ 1048576) (hs : ∀ s ∈ l, s.length ≤ 1073741824) : Fn Tryz.prog 57 #[vptr g, va] [lgR g x ⟨a, b, 0, [], [], [], false⟩, p] fun v L => ∃ Λ ok, (ok = true → lparseZ a b l = some Λ) ∧ (ok = false → lparseZ a b l = none) ∧ v = .bool ok ∧ L = [lgR g x Λ, p] := by
 refine Fn.intro (vs := [vptr g, va]) Tryz.func57 rfl rfl ?_
 intro F W
 refine G.rdAny (p := p) hr (by (repeat' constructor)) fun aa ca e0 _ => ?_
 subst e0
 refine G.seq (G.region (G.ag rfl rfl (G.nil (G.then_n (G.seq (G.seq (G.region (G.mv rfl rfl (G.q (Quiet.slen rfl Tryz.underlying46 rfl) rfl (G.q (Quiet.int rfl rfl rfl) rfl (G.nil (G.then_n ?_))))))))))))
 refine G.condD rfl (fun h13 => ?_) (fun h13 => ?_)
 ·have hln : l = [] := List.eq_nil_of_length_eq_zero (by omega)
  subst hln
  refine G.seq (G.region (G.ag rfl rfl (G.nil (G.then_n (G.ret (G.then_r ?_))))))
  exact G.dn (l := [.tmp 4]) rfl rfl ⟨_, false, (fun h => by cases h), fun _ => rfl, rfl, rfl⟩
 ·refine G.rdShapeC (p := p) hr (by (repeat' constructor)) (by omega) fun ba oa e hcap => ?_
  subst e
  have hpc := parse_cons (a := a) (b := b) (l := l) (by omega)
  have hs0 : (l.getD 0 []).length ≤ 1073741824 := by cases l with | nil => simp | cons r t => exact hs r (List.mem_cons_self ..)
  refine G.skip (G.then_n (G.seq (G.region (G.mv rfl rfl ?_))))
  refine G.q (Quiet.indexAddr rfl rfl el_46 (by omega)) rfl ?_
  refine G.q (Quiet.loadEl (p := p) (i := 0) (v := vstr (l.getD 0 [])) rfl ag_9 (by (repeat' constructor)) hr (by have hil : 0 < l.length := (by omega); simp [strs, List.getD_eq_getElem?_getD, hil])) rfl ?_
  refine G.oq (OpSpec.call Tryz.func117 rfl rfl (vs := [_]) rfl (cread_spec (l.getD 0 []) (by omega))) ?nx9
  rintro v L' ⟨r, rfl, rfl⟩
  refine G.ag rfl rfl (G.nil (G.then_n (G.seq (G.region (G.mv rfl rfl (G.mv rfl rfl ?_))))))
  refine G.oq (OpSpec.call Tryz.func118 rfl rfl (vs := [_]) rfl (wnum_spec r (some (l.getD 0 [])))) ?nx12
  rintro v L' ⟨rfl, rfl⟩
  refine G.lgOpen (by (repeat' constructor)) fun ea ec za zc => ?_
  refine G.q (Quiet.nilp rfl) rfl (G.q (Quiet.fieldAddr rfl fo_79_2) rfl ?_)
  refine G.oq (OpSpec.store rfl rfl rfl sz_3 ?c16 ?c17) ?nx18
  case c16 => first | decide | (simp; omega) | simp
  case c17 => exact nfz0 _ _
  rintro v L' rfl
  refine G.nil (G.then_n (G.seq (G.region (G.mv rfl rfl ?_))))
  refine G.oq (OpSpec.call Tryz.func119 rfl rfl (vs := [_, _]) rfl (rcount_spec r 65536 (by decide) _)) ?nx19
  rintro v L' ⟨rfl, rfl⟩; rw [show runP 0 (cntP 65536) (numR (some (l.getD 0 []))).2 = cntX (numR (some (l.getD 0 []))).2 from rfl]
  refine G.ag rfl rfl (G.nil (G.then_n (G.seq (G.seq (G.region (G.mv rfl rfl ?_))))))
  refine G.oq (OpSpec.call Tryz.func120 rfl rfl (vs := [_]) rfl (rend_spec r _)) ?nx21
  rintro v L' ⟨e1, he1, rfl, st', rfl⟩
  refine G.q (Quiet.int rfl rfl rfl) rfl (G.mv rfl rfl ?_)
  refine G.ndec (t := 28) rfl (fun h6_28 => ?_) (fun h6_28 => ?_)
  ·refine G.kNT (t := 27) rfl h6_28 (G.gskip (t := 28) rfl rfl rfl rfl (G.gskip (t := 28) rfl rfl rfl rfl (G.gskip (t := 28) rfl rfl rfl rfl (G.gskip (t := 28) rfl rfl rfl rfl (G.gskip (t := 28) rfl rfl rfl rfl (G.q (Quiet.pickT rfl rfl) rfl (G.nil (G.then_n (G.condT rfl (G.seq (G.region (G.ag rfl rfl (G.nil (G.then_n (G.ret (G.then_r ?_))))))))))))))))
   refine G.lgFold (g := g) (x := x) ⟨a, b, (numR (some (l.getD 0 []))).1, [], [], [], false⟩ (by (repeat' constructor)) (by exact rfl) (by first | rfl | simp [Lg.keep]) (by first | rfl | simp [Lg.keep]) (by first | rfl | simp [Lg.keep]) (by first | rfl | simp [Lg.keep]) ?_
   exact G.dn (l := [.tmp 4]) rfl rfl ⟨_, false, (fun h => by cases h), fun _ => by rw [hpc, lh_bad (fun g => h6_28 (he1.2 g))], rfl, rfl⟩
  ·refine G.kNF (t := 27) rfl h6_28 (G.grun (t := 28) rfl rfl rfl (G.mv rfl rfl (G.grun (t := 28) rfl rfl rfl (G.q (Quiet.nilp rfl) rfl (G.grun (t := 28) rfl rfl rfl (G.q (Quiet.fieldAddr rfl fo_79_2) rfl (G.grun (t := 28) rfl rfl rfl ?_)))))))
   refine G.q (Quiet.ld rfl ag_3) rfl ?_
   refine G.grun (t := 28) rfl rfl rfl (G.q (Quiet.int rfl rfl rfl) rfl (G.q (Quiet.pickF rfl rfl) rfl (G.nil (G.then_n ?_))))
   refine G.condD rfl (fun h34 => ?_) (fun h34 => ?_)
   ·refine G.seq (G.region (G.ag rfl rfl (G.nil (G.then_n (G.ret (G.then_r ?_))))))
    refine G.lgFold (g := g) (x := x) ⟨a, b, (numR (some (l.getD 0 []))).1, [], [], [], false⟩ (by (repeat' constructor)) (by exact rfl) (by first | rfl | simp [Lg.keep]) (by first | rfl | simp [Lg.keep]) (by first | rfl | simp [Lg.keep]) (by first | rfl | simp [Lg.keep]) ?_
    exact G.dn (l := [.tmp 4]) rfl rfl ⟨_, false, (fun h => by cases h), fun _ => by rw [hpc, lh_ok (he1.1 (by simpa using h6_28))]; exact if_pos h34, rfl, rfl⟩
   ·have hI0 := numR_i64 (some (l.getD 0 []))
    have hn0 := cntX_le (numR (some (l.getD 0 []))).2
    have hlh := lh_ok (he1.1 (by simpa using h6_28))
    rw [hlh] at hpc
    generalize hbase : (numR (some (l.getD 0 []))).1 = base at *
    generalize hmany : (cntX (numR (some (l.getD 0 []))).2).1 = many at *
    dsimp only at hpc
    rw [if_neg h34] at hpc
    refine G.lgFold (g := g) (x := x) ⟨a, b, base, [], [], [], false⟩ (by (repeat' constructor)) (by exact rfl) (by first | rfl | simp [Lg.keep]) (by first | rfl | simp [Lg.keep]) (by first | rfl | simp [Lg.keep]) (by first | rfl | simp [Lg.keep]) ?_
    refine G.skip (G.then_n (G.seq (G.region (G.mv rfl rfl ?_))))
    refine G.q (Quiet.to (v' := .slice (some ⟨ba, if ca = 1 then oa else oa + 1, none⟩) (l.length - 1) (ca - 1)) (Quiet.slSlice (i := 1) (j := ((l.length : Nat) : Int)) rfl el_46 rfl rfl (by omega)) (by rw [tail_addr]; simp)) rfl ?_
    refine G.ag rfl rfl (G.nil (G.then_n (G.seq (G.block ?_))))
    refine G.loopK (ι := Nat × Nat × Nat × Bs) (fun q E => (1, .slice (some ⟨ba, q.2.1, none⟩) (l.length - q.1) q.2.2.1) :: E) (fun q => [lgR g x ⟨a, b, base, q.2.2.2, [], [], false⟩]) (fun q => q.1 ≤ l.length ∧ l.length - q.1 ≤ q.2.2.1 ∧ (∀ h : Hp, p h → rdS 1 h (.slice (some ⟨ba, q.2.1, none⟩) (l.length - q.1) q.2.2.1) (l.length - q.1) (strs (l.drop q.1))) ∧ lparseZ a b l = restZ a b base (snapZ many q.2.2.2 (l.drop q.1)) ∧ q.2.2.2.length ≤ many) (fun q => l.length - q.1) (1, (if ca = 1 then oa else oa + 1), ca - 1, []) (ts := [0, 6]) (.cons rfl (.cons rfl (.nil))) (⟨by dsimp only; omega, by dsimp only; omega, fun h hp => rdS_tail (hr h hp) (by omega) hcap, hpc, Nat.zero_le _⟩) ⟨rfl, rfl, rfl, trivial⟩ (by (repeat' constructor)) ?_
    rintro ⟨i, o, c, sn⟩ ⟨hi, hic, hru, hpz, hsn⟩
    dsimp only
    dsimp only at hi hic hru hpz hsn
    refine G.lgOpen (by (repeat' constructor)) fun ea ec za zc => ?_
    dsimp only
    refine G.seq (G.seq (G.region (G.mv rfl rfl (G.q (Quiet.nilp rfl) rfl (G.q (Quiet.fieldAddr rfl fo_79_3) rfl ?_)))))
    refine G.q (Quiet.ld rfl ag_9) rfl ?_
    refine G.q (Quiet.strlen rfl Tryz.underlying9 rfl) rfl (G.mv rfl rfl (G.q (Quiet.int rfl rfl rfl) rfl (G.nil (G.then_n ?_))))
    refine G.condD rfl (fun h43 => ?_) (fun h43 => ?_)
    ·refine G.skip (G.then_n (G.block (G.seq (G.seq ?_))))
     refine G.draw [] [[0, 1, 2, 3, 4, 5, 6, 7, 8, 9, 10, 11, 12, 13, 14, 15, 16, 17]] mixed (by kernel_rfl) ?_
     refine Phases.go [] (by (repeat' constructor)) ?_
     refine D.kw [1, 2, 3, 4, 5, 6, 7, 8, 9, 10, 11, 12, 13, 14, 15, 16, 17] rfl (Quiet.move rfl) ?_
     refine D.kw [2, 3, 4, 5, 6, 7, 8, 9, 10, 11, 12, 13, 14, 15, 16, 17] rfl (Quiet.slen rfl Tryz.underlying46 rfl) ?_
     refine D.kw [3, 4, 5, 6, 7, 8, 9, 10, 11, 12, 13, 14, 15, 16, 17] rfl (Quiet.int rfl rfl rfl) ?_
     refine D.kw [4, 5, 6, 7, 8, 9, 10, 11, 12, 13, 14, 15, 16, 17] rfl (Quiet.move rfl) ?_
     refine D.dec (t := 47) rfl (fun h10_47 => ?_) (fun h10_47 => ?_)
     ·refine D.kDT (t := 46) rfl h10_47 ?_
      refine D.gs (t := 47) rfl rfl rfl rfl (by kernel_rfl) ?_
      refine D.gs (t := 47) rfl rfl rfl rfl (by kernel_rfl) ?_
      refine D.gs (t := 47) rfl rfl rfl rfl (by kernel_rfl) ?_
      refine D.gs (t := 47) rfl rfl rfl rfl (by kernel_rfl) ?_
      refine D.gs (t := 47) rfl rfl rfl rfl (by kernel_rfl) ?_
      refine D.gs (t := 47) rfl rfl rfl rfl (by kernel_rfl) ?_
      refine D.gs (t := 47) rfl rfl rfl rfl (by kernel_rfl) ?_
      refine D.gs (t := 47) rfl rfl rfl rfl (by kernel_rfl) ?_
      refine D.gs (t := 47) rfl rfl rfl rfl (by kernel_rfl) ?_
      refine D.gs (t := 47) rfl rfl rfl rfl (by kernel_rfl) ?_
      refine D.gs (t := 47) rfl rfl rfl rfl (by kernel_rfl) ?_
      refine D.gs (t := 47) rfl rfl rfl rfl (by kernel_rfl) ?_
      refine D.gs (t := 47) rfl rfl rfl rfl (by kernel_rfl) ?_
      refine D.kw [] rfl (Quiet.pickT rfl rfl) ?_
      refine D.ph (Phases.fin (G.then_n (G.condT rfl (G.seq (G.region (G.ag rfl rfl (G.nil (G.then_n (G.ret (G.then_r (G.blk_r (G.then_r (G.blk_r (G.then_r ?_))))))))))))))
      refine G.lgFold (g := g) (x := x) ⟨a, b, base, sn, [], [], false⟩ (by (repeat' constructor)) (by exact rfl) (by first | rfl | simp [Lg.keep]) (by first | rfl | simp [Lg.keep]) (by first | rfl | simp [Lg.keep]) (by first | rfl | simp [Lg.keep]) ?_
      exact G.dn (l := [.tmp 4]) rfl rfl ⟨_, false, (fun h => by cases h), fun _ => by rw [hpz]; rw [List.drop_eq_nil_of_le (by omega), snap_none (by omega)]; rfl, rfl, rfl⟩
     ·refine D.kDF (t := 46) rfl h10_47 ?_
      refine D.gqw [5, 6, 7, 16, 17] (t := 47) rfl rfl rfl (by kernel_rfl) (Quiet.move rfl) ?_
      refine D.gqw [6, 7, 16, 17] (t := 47) rfl rfl rfl (by kernel_rfl) (Quiet.indexAddr rfl rfl el_46 (by omega)) ?_
      refine D.gqw [7, 16, 17] (t := 47) rfl rfl rfl (by kernel_rfl) (Quiet.loadEl (p := p) (i := 0) (v := vstr (l.getD i [])) rfl ag_9 (by (repeat' constructor)) hru (by have hil : i < l.length := (by omega); simp [strs, List.getElem?_drop, List.getD_eq_getElem?_getD, hil])) ?_
      refine D.gqw [16, 17] (t := 47) rfl rfl rfl (by kernel_rfl) (Quiet.strlen rfl Tryz.underlying9 rfl) ?_
      refine D.gqw [14, 15, 16, 17] (t := 47) rfl rfl rfl (by kernel_rfl) (Quiet.move rfl) ?_
      refine D.gqw [10, 11, 12, 13, 14, 15, 16, 17] (t := 47) rfl rfl rfl (by kernel_rfl) (Quiet.move rfl) ?_
      refine D.gqw [11, 12, 13, 14, 15, 16, 17] (t := 47) rfl rfl rfl (by kernel_rfl) (Quiet.nilp rfl) ?_
      refine D.gqw [12, 13, 14, 15, 16, 17] (t := 47) rfl rfl rfl (by kernel_rfl) (Quiet.fieldAddr rfl fo_79_3) ?_
      refine D.gqw [13, 14, 15, 16, 17] (t := 47) rfl rfl rfl (by kernel_rfl) (Quiet.ld rfl ag_9) ?_
      refine D.gqw [14, 15, 16, 17] (t := 47) rfl rfl rfl (by kernel_rfl) (Quiet.strlen rfl Tryz.underlying9 rfl) ?_
      refine D.gqw [15, 16, 17] (t := 47) rfl rfl rfl (by kernel_rfl) (Quiet.sub rfl rfl (by omega)) ?_
      refine D.gqw [16, 17] (t := 47) rfl rfl rfl (by kernel_rfl) (Quiet.min2 rfl rfl) ?_
      refine D.gqw [17] (t := 47) rfl rfl rfl (by kernel_rfl) (Quiet.int rfl rfl rfl) ?_
      refine D.kw [] rfl (Quiet.pickF rfl rfl) ?_
      refine D.ph (Phases.fin (G.then_n ?_))
      refine G.condN rfl (fun h61 => ?_) (fun h61 => ?_)
      ·refine G.seq (G.region (G.ag rfl rfl (G.nil (G.then_n (G.ret (G.then_r (G.blk_r (G.then_r (G.blk_r (G.then_r ?_))))))))))
       refine G.lgFold (g := g) (x := x) ⟨a, b, base, sn, [], [], false⟩ (by (repeat' constructor)) (by exact rfl) (by first | rfl | simp [Lg.keep]) (by first | rfl | simp [Lg.keep]) (by first | rfl | simp [Lg.keep]) (by first | rfl | simp [Lg.keep]) ?_
       exact G.dn (l := [.tmp 4]) rfl rfl ⟨_, false, (fun h => by cases h), fun _ => by rw [hpz]; rw [drop_cons (by omega), snap_bad (by omega) (by omega)]; rfl, rfl, rfl⟩
      ·refine G.skip (G.then_n (G.seq ?_))
       refine G.draw [10] [[0, 1, 2, 3, 4, 5, 6, 7, 8, 9, 10]] mixed (by kernel_rfl) ?_
       refine Phases.go [] (by (repeat' constructor)) ?_
       refine D.kw [1, 2, 3, 7, 8, 9, 10] rfl (Quiet.move rfl) ?_
       refine D.kw [2, 3, 7, 8, 9, 10] rfl (Quiet.nilp rfl) ?_
       refine D.kw [3, 7, 8, 9, 10] rfl (Quiet.fieldAddr rfl fo_79_3) ?_
       refine D.kw [7, 8, 9, 10] rfl (Quiet.ld rfl ag_9) ?_
       refine D.kw [5, 6, 7, 8, 9, 10] rfl (Quiet.move rfl) ?_
       refine D.kw [6, 7, 8, 9, 10] rfl (Quiet.indexAddr rfl rfl el_46 (by omega)) ?_
       refine D.kw [7, 8, 9, 10] rfl (Quiet.loadEl (p := p) (i := 0) (v := vstr (l.getD i [])) rfl ag_9 (by (repeat' constructor)) hru (by have hil : i < l.length := (by omega); simp [strs, List.getElem?_drop, List.getD_eq_getElem?_getD, hil])) ?_
       refine D.kw [8, 9, 10] rfl (Quiet.concat rfl rfl (by omega)) ?_
       refine D.kw [9, 10] rfl (Quiet.nilp rfl) ?_
       refine D.kw [10] rfl (Quiet.fieldAddr rfl fo_79_3) ?_
       refine D.h rfl (by kernel_rfl) (OpSpec.store rfl rfl rfl sz_9 ?c70 ?c71) (by (repeat' constructor)) ?nx72
       case c70 => first | decide | (simp; omega) | simp
       case c71 => exact nfz0 _ _
       rintro v L' rfl
       refine D.ph (Phases.fin (G.then_n (G.region (G.mv rfl rfl ?_))))
       refine G.q (Quiet.to (v' := .slice (some ⟨ba, if c = 1 then o else o + 1, none⟩) ((l.length - i) - 1) (c - 1)) (Quiet.slSlice (i := 1) (j := (((l.length - i) : Nat) : Int)) rfl el_46 rfl rfl (by omega)) (by rw [tail_addr]; simp)) rfl ?_
       refine G.ag rfl rfl (G.nil (G.blk_n (G.then_n ?_)))
       refine G.lgFold (g := g) (x := x) ⟨a, b, base, (sn ++ l.getD i []), [], [], false⟩ (by (repeat' constructor)) (by exact rfl) (by first | rfl | simp [Lg.keep]) (by first | rfl | simp [Lg.keep]) (by first | rfl | simp [Lg.keep]) (by first | rfl | simp [Lg.keep]) ?_
       exact G.roundK ((i + 1, (if c = 1 then o else o + 1), c - 1, sn ++ l.getD i [])) (⟨by dsimp only; omega, by dsimp only; omega, fun h hp => by have h9 := rdS_tail (hru h hp) (by omega) hic; rw [List.drop_drop] at h9; exact h9, by rw [hpz, drop_cons (by omega), snap_step (by omega) (by omega)], by dsimp only; rw [List.length_append]; omega⟩) (by dsimp only; omega) ⟨rfl, rfl, rfl, trivial⟩ (by (repeat' constructor)) (by ((repeat (apply Have.cons; (repeat (first | exact Pick.here | apply Pick.there)))); apply Have.base; repeat' constructor))
    ·have hlt1 : ∀ s ∈ l.drop i, s.length ≤ 1073741824 := fun s hs1 => hs s (List.mem_of_mem_drop hs1)
     rw [snap_done (by omega)] at hpz
     refine G.lgFold (g := g) (x := x) ⟨a, b, base, sn, [], [], false⟩ (by (repeat' constructor)) (by exact rfl) (by first | rfl | simp [Lg.keep]) (by first | rfl | simp [Lg.keep]) (by first | rfl | simp [Lg.keep]) (by first | rfl | simp [Lg.keep]) ?_
     refine G.exit (G.then_e (G.then_e (G.blk_e (G.then_n (G.seq (G.seq (G.region (G.mv rfl rfl (G.q (Quiet.slen rfl Tryz.underlying46 rfl) rfl (G.mv rfl rfl (G.nil (G.then_n (G.block ?_)))))))))))))
     refine G.loopK (ι := Nat × Lg) (fun q E => (76, vint q.1) :: E) (fun q => [lgR g x q.2]) (fun q => q.1 ≤ l.length - i ∧ LgI q.2 ∧ lparseZ a b l = entsZ q.2 ((l.drop i).drop q.1)) (fun q => l.length - i - q.1) (0, ⟨a, b, base, sn, [], [], false⟩) (ts := [0, 74, 75]) (.cons rfl (.cons rfl (.cons rfl (.nil)))) (⟨Nat.zero_le _, ⟨Nat.zero_le _, rfl, (fun s hs => by cases hs), hI0, fun z hz => by cases hz⟩, hpz⟩) ⟨rfl, rfl, rfl, rfl, trivial⟩ (by (repeat' constructor)) ?_
     rintro ⟨j, Λ⟩ ⟨hj, hΛ, hpe⟩
     dsimp only
     dsimp only at hj hΛ hpe
     refine G.seq (G.region (G.q (Quiet.int rfl rfl rfl) rfl (G.nil (G.then_n (G.seq ?_)))))
     refine G.condD rfl (fun h77 => ?_) (fun h77 => ?_)
     ·have hjl : j < (l.drop i).length := by rw [List.length_drop]; omega
      have hdj := drop_cons hjl
      have hsl : ((l.drop i).getD j []).length ≤ 1073741824 := by rw [List.getD_eq_getElem?_getD, List.getElem?_eq_getElem hjl]; exact hlt1 _ (List.getElem_mem hjl)
      refine G.skip (G.then_n (G.seq (G.block (G.seq (G.region ?_)))))
      refine G.q (Quiet.indexAddr rfl rfl el_46 (by omega)) rfl ?_
      refine G.q (Quiet.loadEl (p := p) (i := j * 1) (v := vstr ((l.drop i).getD j [])) rfl ag_9 (by (repeat' constructor)) hru (by rw [Nat.mul_one]; simp [strs, List.getElem?_drop, List.getD_eq_getElem?_getD, show i + j < l.length by omega])) rfl ?_
      refine G.ag rfl rfl (G.nil (G.then_n (G.seq (G.region (G.mv rfl rfl ?_)))))
      refine G.oq (OpSpec.call Tryz.func53 rfl rfl (vs := [_]) rfl (wget_spec ((l.drop i).getD j []) (by omega))) ?nx81
      rintro v L' ⟨ge, er, hge, rfl, rfl⟩
      refine G.mv rfl rfl (G.q (Quiet.extract rfl rfl) rfl (G.q (Quiet.extract rfl rfl) rfl ?_))
      refine G.oq (OpSpec.allocA ze_38) ?nx85
      rintro v L' ⟨b9, rfl, rfl⟩
      refine G.oq (OpSpec.storeA rfl rfl ?c87 sz_38 ?c90 ?c88 ?c89) ?nx91
      case c87 => exact hge.cells
      case c90 => rfl
      case c88 => simp [enC, ptC]
      case c89 => exact nfz0 _ _
      rintro v L' rfl
      refine G.ag rfl rfl (G.nil ?_)
      refine G.ptCast (b := b9) (l' := enC ge) (by (repeat' constructor)) (by exact rfl) ?_
      refine G.lgOpen (by (repeat' constructor)) fun ea ec za zc => ?_
      refine G.then_n (G.seq (G.seq ?_))
      refine G.draw [] [[0, 1, 2, 3, 4, 5, 6, 7, 8, 9, 10, 11, 12, 13, 14, 15, 16]] mixed (by kernel_rfl) ?_
      refine Phases.go [ptc b9 _ _, ptc g _ _, strR _ Λ.ents, intR _ Λ.zxs] (by (repeat' constructor)) ?_
      refine D.kw [1, 2, 3, 4, 5, 6, 7, 8, 9, 10, 11, 12, 13, 14, 15, 16] rfl (Quiet.move rfl) ?_
      refine D.kw [2, 3, 4, 5, 6, 7, 8, 9, 10, 11, 12, 13, 14, 15, 16] rfl (Quiet.int rfl rfl rfl) ?_
      refine D.kw [3, 4, 5, 6, 7, 8, 9, 10, 11, 12, 13, 14, 15, 16] rfl (Quiet.move rfl) ?_
      refine D.ndec (t := 87) rfl (fun h18_87 => ?_) (fun h18_87 => ?_)
      ·refine D.kNT (t := 86) rfl h18_87 ?_
       refine D.gs (t := 87) rfl rfl rfl rfl (by kernel_rfl) ?_
       refine D.gs (t := 87) rfl rfl rfl rfl (by kernel_rfl) ?_
       refine D.gs (t := 87) rfl rfl rfl rfl (by kernel_rfl) ?_
       refine D.gs (t := 87) rfl rfl rfl rfl (by kernel_rfl) ?_
       refine D.gs (t := 87) rfl rfl rfl rfl (by kernel_rfl) ?_
       refine D.kw [9, 10, 11, 12, 13, 14, 15, 16] rfl (Quiet.pickT rfl rfl) ?_
       refine D.kw [10, 11, 12, 13, 14, 15, 16] rfl (Quiet.move rfl) ?_
       refine D.gs (t := 94) rfl rfl rfl rfl (by kernel_rfl) ?_
       refine D.gs (t := 94) rfl rfl rfl rfl (by kernel_rfl) ?_
       refine D.gs (t := 94) rfl rfl rfl rfl (by kernel_rfl) ?_
       refine D.gs (t := 94) rfl rfl rfl rfl (by kernel_rfl) ?_
       refine D.gs (t := 94) rfl rfl rfl rfl (by kernel_rfl) ?_
       refine D.gs (t := 94) rfl rfl rfl rfl (by kernel_rfl) ?_
       refine D.kw [] rfl (Quiet.pickT rfl rfl) ?_
       refine D.ph (Phases.fin (G.then_n (G.condT rfl (G.seq (G.region (G.ag rfl rfl (G.nil (G.then_n (G.ret (G.then_r (G.blk_r (G.then_r (G.then_r (G.blk_r (G.then_r ?_)))))))))))))))
       refine G.lgFold (g := g) (x := x) Λ (by (repeat' constructor)) (by exact rfl) (by first | rfl | simp [Lg.keep]) (by first | rfl | simp [Lg.keep]) (by first | rfl | simp [Lg.keep]) (by first | rfl | simp [Lg.keep]) ?_
       exact G.dn (l := [.tmp 4]) rfl rfl ⟨_, false, (fun h => by cases h), fun _ => by rw [hpe, hdj, ents_none (by rcases hge with ⟨g1, -, -⟩ | ⟨-, g2, -⟩; exact absurd g1 h18_87; exact g2)], rfl, rfl⟩
      ·have hgz : getZ ((l.drop i).getD j []) = some ge.pl := by rcases hge with ⟨-, g2, -⟩ | ⟨g1, -⟩; exact g2; omega
       have hgi : I64 ge.zx := (get_zx64 hgz : I64 ge.pl.zx)
       refine D.kNF (t := 86) rfl h18_87 ?_
       refine D.gqw [4, 7, 8, 9, 10, 11, 12, 13, 14, 15, 16] (t := 87) rfl rfl rfl (by kernel_rfl) (Quiet.fieldAddr rfl fo_38_0) ?_
       refine D.gqw [7, 8, 9, 10, 11, 12, 13, 14, 15, 16] (t := 87) rfl rfl rfl (by kernel_rfl) (Quiet.ld rfl ag_3) ?_
       refine D.gqw [6, 7, 8, 9, 10, 11, 12, 13, 14, 15, 16] (t := 87) rfl rfl rfl (by kernel_rfl) (Quiet.move rfl) ?_
       refine D.gm (t := 87) rfl rfl rfl (by kernel_rfl) (OpSpec.call Tryz.func17 rfl rfl (vs := [_]) rfl (llastO_spec g x Λ hΛ ea ec za zc)) (by (repeat' constructor)) ?nx99
       refine D.gqw [8, 9, 10, 11, 12, 13, 14, 15, 16] (t := 87) rfl rfl rfl (by kernel_rfl) (Quiet.int rfl rfl rfl) ?_
       refine D.kw [9, 10, 11, 12, 13, 14, 15, 16] rfl (Quiet.pickF rfl rfl) ?_
       refine D.kw [10, 11, 12, 13, 14, 15, 16] rfl (Quiet.move rfl) ?_
       refine D.dec (t := 94) rfl (fun h18_94 => ?_) (fun h18_94 => ?_)
       ·refine D.kDT (t := 92) rfl h18_94 (D.kDT (t := 93) rfl h18_94 ?_)
        refine D.gs (t := 94) rfl rfl rfl rfl (by kernel_rfl) ?_
        refine D.gs (t := 94) rfl rfl rfl rfl (by kernel_rfl) ?_
        refine D.gs (t := 94) rfl rfl rfl rfl (by kernel_rfl) ?_
        refine D.gs (t := 94) rfl rfl rfl rfl (by kernel_rfl) ?_
        refine D.gs (t := 94) rfl rfl rfl rfl (by kernel_rfl) ?_
        refine D.gs (t := 94) rfl rfl rfl rfl (by kernel_rfl) ?_
        refine D.kw [] rfl (Quiet.pickT rfl rfl) ?_
        refine D.ph (Phases.fin (G.then_n (G.condT rfl (G.seq (G.region (G.ag rfl rfl (G.nil (G.then_n (G.ret (G.then_r (G.blk_r (G.then_r (G.then_r (G.blk_r (G.then_r ?_)))))))))))))))
        refine G.lgFold (g := g) (x := x) Λ (by (repeat' constructor)) (by exact rfl) (by first | rfl | simp [Lg.keep]) (by first | rfl | simp [Lg.keep]) (by first | rfl | simp [Lg.keep]) (by first | rfl | simp [Lg.keep]) ?_
        exact G.dn (l := [.tmp 4]) rfl rfl ⟨_, false, (fun h => by cases h), fun _ => by rw [hpe, hdj, ents_bad hgz (by first | exact .inl h18_94 | exact .inr (by omega))], rfl, rfl⟩
       ·refine D.kDF (t := 92) rfl h18_94 (D.kDF (t := 93) rfl h18_94 ?_)
        refine D.gqw [11, 12, 13, 14, 15, 16] (t := 94) rfl rfl rfl (by kernel_rfl) (Quiet.move rfl) ?_
        refine D.gqw [12, 13, 14, 15, 16] (t := 94) rfl rfl rfl (by kernel_rfl) (Quiet.nilp rfl) ?_
        refine D.gqw [13, 14, 15, 16] (t := 94) rfl rfl rfl (by kernel_rfl) (Quiet.fieldAddr rfl fo_79_4) ?_
        refine D.gqw [14, 15, 16] (t := 94) rfl rfl rfl (by kernel_rfl) (Quiet.ld rfl ag_46) ?_
        refine D.gqw [15, 16] (t := 94) rfl rfl rfl (by kernel_rfl) (Quiet.slen rfl Tryz.underlying46 rfl) ?_
        refine D.gqw [16] (t := 94) rfl rfl rfl (by kernel_rfl) (Quiet.int rfl rfl rfl) ?_
        refine D.kw [] rfl (Quiet.pickF rfl rfl) ?_
        refine D.ph (Phases.fin (G.then_n ?_))
        refine G.condD rfl (fun h101 => ?_) (fun h101 => ?_)
        ·refine G.seq (G.region (G.ag rfl rfl (G.nil (G.then_n (G.ret (G.then_r (G.blk_r (G.then_r (G.then_r (G.blk_r (G.then_r ?_)))))))))))
         refine G.lgFold (g := g) (x := x) Λ (by (repeat' constructor)) (by exact rfl) (by first | rfl | simp [Lg.keep]) (by first | rfl | simp [Lg.keep]) (by first | rfl | simp [Lg.keep]) (by first | rfl | simp [Lg.keep]) ?_
         exact G.dn (l := [.tmp 4]) rfl rfl ⟨_, false, (fun h => by cases h), fun _ => by rw [hpe, hdj, ents_bad hgz (by first | exact .inl h18_94 | exact .inr (by omega))], rfl, rfl⟩
        ·refine G.lgFold (g := g) (x := x) Λ (by (repeat' constructor)) (by exact rfl) (by first | rfl | simp [Lg.keep]) (by first | rfl | simp [Lg.keep]) (by first | rfl | simp [Lg.keep]) (by first | rfl | simp [Lg.keep]) ?_
         have hkI : LgI (Λ.keep ((l.drop i).getD j []) ge.zx) := hΛ.keep (by have := hΛ.ents; omega) hsl hgi
         refine G.skip (G.then_n (G.region (G.mv rfl rfl (G.mv rfl rfl (G.q (Quiet.fieldAddr rfl fo_38_0) rfl ?_)))))
         refine G.q (Quiet.ld rfl ag_3) rfl ?_
         refine G.oq (OpSpec.call Tryz.func51 rfl rfl (vs := [_, _, _]) rfl (lkeep_spec g x Λ ((l.drop i).getD j []) ge.zx hΛ)) ?nx114
         rintro v L' ⟨rfl, rfl⟩
         refine G.nil (G.blk_n (G.then_n (G.region ?_)))
         refine G.q (Quiet.add rfl rfl (by omega)) rfl ?_
         refine G.mv rfl rfl (G.nil (G.then_n ?_))
         exact G.roundK ((j + 1, Λ.keep ((l.drop i).getD j []) ge.zx)) (⟨by dsimp only; omega, hkI, by rw [hpe, hdj, ents_step hgz (by rintro (g1 | g1); exact h18_94 g1; omega)]; rfl⟩) (by dsimp only; omega) ⟨rfl, rfl, rfl, rfl, trivial⟩ (by (repeat' constructor)) (by ((repeat (apply Have.cons; (repeat (first | exact Pick.here | apply Pick.there)))); apply Have.base; repeat' constructor))
     ·refine G.exit (G.then_e (G.then_e (G.blk_e (G.then_n (G.seq (G.region (G.ag rfl rfl (G.nil (G.then_n (G.ret ?_))))))))))
      exact G.dn (l := [.tmp 4]) rfl rfl ⟨_, true, fun _ => by rw [hpe, List.drop_eq_nil_of_le (by rw [List.length_drop]; omega)]; rfl, (fun h => by cases h), rfl, rfl⟩

theorem lopen_spec (d : Nat) (δ : Dk) (hn : 2 ≤ δ.now.length ∧ δ.now.length ≤ 32768) (hok : δ.Ok) (hrs : ∀ ω, openZ δ = some ω → ω.doubt = false ∧ ω.recs.length ≤ 1048576 ∧ ∀ s ∈ ω.recs, s.length ≤ 1073741824) : Fn Tryz.prog 18 #[vptr d] [dkR d δ] fun v L => (δ.dead = true ∧ v = .tuple #[.pointer none, vint 2] ∧ L = [dkR d δ]) ∨
    (δ.dead = false ∧ openZ δ = none ∧ v = .tuple #[.pointer none, vint 80] ∧ L = [dkR d δ]) ∨ (δ.dead = false ∧ ∃ ω, openZ δ = some ω ∧ ((openLZ ω = none ∧ v = .tuple #[.pointer none, vint 80] ∧ L = [dkR d δ]) ∨ (∃ Λ g x, openLZ ω = some Λ ∧ v = .tuple #[vptr g, vint 0] ∧ L = [lgR g x Λ, wlR x d ω, dkR d δ]))) := by
 refine Fn.intro (vs := [vptr d]) Tryz.func18 rfl rfl ?_
 intro F W
 refine G.seq (G.region (G.ag rfl rfl (G.ag rfl rfl (G.nil (G.then_n (G.seq (G.region (G.mv rfl rfl ?_))))))))
 refine G.oq (OpSpec.call Tryz.func54 rfl rfl (vs := [_]) rfl (open_spec d δ hn hok)) ?nx4
 rintro v L' (⟨hdd, rfl, rfl⟩ | ⟨hdd, hop, rfl, rfl⟩ | ⟨hdd, ω, hop, x, rfl, rfl⟩)
 ·refine G.mv rfl rfl (G.q (Quiet.extract rfl rfl) rfl (G.q (Quiet.extract rfl rfl) rfl (G.ag rfl rfl (G.ag rfl rfl (G.nil (G.then_n (G.seq (G.block (G.seq (G.region (G.mv rfl rfl ?_)))))))))))
  refine G.q (Quiet.as (v' := .bool false) (by rfl) (Quiet.int rfl rfl rfl)) rfl ?_
  refine G.ag rfl rfl (G.nil (G.then_n (G.condF rfl (G.seq (G.region (G.mv rfl rfl ?_))))))
  refine G.q (Quiet.as (v' := .bool true) (by rfl) (Quiet.int rfl rfl rfl)) rfl ?_
  refine G.ag rfl rfl (G.nil (G.then_n (G.condT rfl (G.seq (G.region (G.mv rfl rfl (G.ag rfl rfl (G.ag rfl rfl (G.nil (G.then_n (G.ret (G.blk_r (G.then_r ?_)))))))))))))
  exact G.dn (l := [.tmp 2, .tmp 3]) rfl rfl (.inl ⟨hdd, rfl, rfl⟩)
 ·refine G.mv rfl rfl (G.q (Quiet.extract rfl rfl) rfl (G.q (Quiet.extract rfl rfl) rfl (G.ag rfl rfl (G.ag rfl rfl (G.nil (G.then_n (G.seq (G.block (G.seq (G.region (G.mv rfl rfl ?_)))))))))))
  refine G.q (Quiet.as (v' := .bool true) (by rfl) (Quiet.int rfl rfl rfl)) rfl ?_
  refine G.ag rfl rfl (G.nil (G.then_n (G.condT rfl (G.seq (G.region (G.ag rfl rfl (G.ag rfl rfl (G.nil (G.then_n (G.ret (G.blk_r (G.then_r ?_))))))))))))
  exact G.dn (l := [.tmp 2, .tmp 3]) rfl rfl (.inr (.inl ⟨hdd, hop, rfl, rfl⟩))
 ·obtain ⟨hr1, hr2, hr3⟩ := hrs ω hop
  refine G.mv rfl rfl (G.q (Quiet.extract rfl rfl) rfl (G.q (Quiet.extract rfl rfl) rfl (G.ag rfl rfl (G.ag rfl rfl (G.nil (G.then_n (G.seq (G.block (G.seq (G.region (G.mv rfl rfl ?_)))))))))))
  refine G.q (Quiet.as (v' := .bool false) (by rfl) (Quiet.int rfl rfl rfl)) rfl ?_
  refine G.ag rfl rfl (G.nil (G.then_n (G.condF rfl (G.seq (G.region (G.mv rfl rfl ?_))))))
  refine G.q (Quiet.as (v' := .bool false) (by rfl) (Quiet.int rfl rfl rfl)) rfl ?_
  refine G.ag rfl rfl (G.nil (G.then_n (G.condF rfl (G.skip (G.blk_n (G.then_n (G.seq (G.region (G.mv rfl rfl ?_)))))))))
  refine G.oq (OpSpec.call Tryz.func55 rfl rfl (vs := [_]) rfl (wmarks_spec x d ω)) ?nx22
  rintro v L' ⟨rfl, rfl⟩
  refine G.mv rfl rfl (G.q (Quiet.extract rfl rfl) rfl (G.q (Quiet.extract rfl rfl) rfl (G.ag rfl rfl (G.ag rfl rfl (G.nil (G.then_n (G.seq (G.region (G.mv rfl rfl (G.mv rfl rfl ?_))))))))))
  refine G.q (Quiet.build (us := [(0, _), (1, _)]) fl_76 ze_76 rfl rfl (by simp [isCell])) rfl ?_
  refine G.mv rfl rfl ?_
  refine G.q (Quiet.buildN (pl := [(0, 2), (2, 1), (3, 1), (4, 1), (5, 1), (6, 1), (7, 1)]) (us := [(0, _), (1, _)]) (cells := [vint ω.a, vint ω.b, vptr x, vint 0, vstr [], .slice none 0 0, .slice none 0 0, .bool false]) Tryz.underlying79 (by kernel_rfl) ze_79 rfl rfl) rfl ?_
  refine G.oq (OpSpec.box rfl) ?nx28
  rintro v L' ⟨g, rfl, rfl⟩
  refine G.ag rfl rfl (G.nil ?_)
  refine G.ptCast (b := g) (l' := [vint ω.a, vint ω.b, vptr x, vint 0, vstr [], .slice none 0 0, .slice none 0 0, .bool false]) (by (repeat' constructor)) rfl ?_
  refine G.add (slR_nil 9 1) (G.add (slR_nil 3 1) ?_)
  refine G.lgFold (g := g) (x := x) (ea := none) (ec := 0) (za := none) (zc := 0) (es := []) (zs := []) ⟨ω.a, ω.b, 0, [], [], [], false⟩ (by (repeat' constructor)) rfl rfl rfl rfl rfl ?_
  refine G.then_n (G.seq (G.region (G.mv rfl rfl ?_)))
  refine G.oq (OpSpec.call Tryz.func56 rfl rfl (vs := [_]) rfl (wrecords_spec x d ω (by omega))) ?nx30
  rintro v L' (⟨h, -, -⟩ | ⟨-, aR, cR, rfl, rfl⟩); · rw [hr1] at h; cases h
  refine G.mv rfl rfl (G.q (Quiet.extract rfl rfl) rfl (G.q (Quiet.extract rfl rfl) rfl (G.ag rfl rfl (G.ag rfl rfl (G.nil (G.then_n (G.seq (G.seq (G.region (G.mv rfl rfl (G.q (Quiet.int rfl rfl rfl) rfl (G.mv rfl rfl ?_))))))))))))
  refine G.dec (t := 41) rfl (fun h9_41 => ?_) (fun h9_41 => ?_)
  ·refine G.kDT (t := 40) rfl h9_41 (G.gskip (t := 41) rfl rfl rfl rfl (G.gskip (t := 41) rfl rfl rfl rfl (G.gskip (t := 41) rfl rfl rfl rfl (G.q (Quiet.pickT rfl rfl) rfl (G.mv rfl rfl (G.gskip (t := 46) rfl rfl rfl rfl (G.gskip (t := 46) rfl rfl rfl rfl (G.gskip (t := 46) rfl rfl rfl rfl (G.gskip (t := 46) rfl rfl rfl rfl (G.q (Quiet.pickT rfl rfl) rfl (G.nil (G.then_n (G.condT rfl (G.seq (G.region (G.ag rfl rfl (G.ag rfl rfl (G.nil (G.then_n (G.ret (G.then_r ?_)))))))))))))))))))))
   exact G.dn (l := [.tmp 2, .tmp 3]) rfl rfl (.inr (.inr ⟨hdd, ω, hop, .inl ⟨by unfold openLZ; rw [if_pos (.inl h9_41)], rfl, rfl⟩⟩))
  ·refine G.kDF (t := 40) rfl h9_41 (G.grun (t := 41) rfl rfl rfl (G.mv rfl rfl (G.grun (t := 41) rfl rfl rfl (G.mv rfl rfl (G.grun (t := 41) rfl rfl rfl (G.q (Quiet.int rfl rfl rfl) rfl (G.q (Quiet.pickF rfl rfl) rfl (G.mv rfl rfl ?_))))))))
   refine G.dec (t := 46) rfl (fun h9_46 => ?_) (fun h9_46 => ?_)
   ·refine G.kDT (t := 44) rfl h9_46 (G.kDT (t := 45) rfl h9_46 (G.gskip (t := 46) rfl rfl rfl rfl (G.gskip (t := 46) rfl rfl rfl rfl (G.gskip (t := 46) rfl rfl rfl rfl (G.gskip (t := 46) rfl rfl rfl rfl (G.q (Quiet.pickT rfl rfl) rfl (G.nil (G.then_n (G.condT rfl (G.seq (G.region (G.ag rfl rfl (G.ag rfl rfl (G.nil (G.then_n (G.ret (G.then_r ?_)))))))))))))))))
    exact G.dn (l := [.tmp 2, .tmp 3]) rfl rfl (.inr (.inr ⟨hdd, ω, hop, .inl ⟨by unfold openLZ; rw [if_pos (.inr h9_46)], rfl, rfl⟩⟩))
   ·refine G.kDF (t := 44) rfl h9_46 (G.kDF (t := 45) rfl h9_46 (G.grun (t := 46) rfl rfl rfl (G.mv rfl rfl (G.grun (t := 46) rfl rfl rfl (G.mv rfl rfl (G.grun (t := 46) rfl rfl rfl ?_))))))
    refine G.oq (OpSpec.call Tryz.func57 rfl rfl (vs := [_, _]) rfl (lparse_spec g x ω.a ω.b (.slice aR ω.recs.length cR) ω.recs (strR (.slice aR ω.recs.length cR) ω.recs) (fun h hp => slR_rd hp) hr2 hr3)) ?nx43
    rintro v L' ⟨Λ, ok, hpy, hpn, rfl, rfl⟩
    refine G.grun (t := 46) rfl rfl rfl (G.q (Quiet.not rfl) rfl (G.q (Quiet.pickF rfl rfl) rfl (G.nil (G.then_n ?_))))
    refine G.condB rfl (fun h51 => ?_) (fun h51 => ?_)
    ·refine G.seq (G.region (G.ag rfl rfl (G.ag rfl rfl (G.nil (G.then_n (G.ret (G.then_r ?_)))))))
     exact G.dn (l := [.tmp 2, .tmp 3]) rfl rfl (.inr (.inr ⟨hdd, ω, hop, .inl ⟨by unfold openLZ; rw [if_neg (by rintro (g1 | g1); exact h9_41 g1; exact h9_46 g1)]; exact hpn (by simpa using h51), rfl, rfl⟩⟩))
    ·refine G.skip (G.then_n (G.seq (G.region (G.mv rfl rfl (G.ag rfl rfl (G.ag rfl rfl (G.nil (G.then_n (G.ret ?_)))))))))
     exact G.dn (l := [.tmp 2, .tmp 3]) rfl rfl (.inr (.inr ⟨hdd, ω, hop, .inr ⟨Λ, g, x, by unfold openLZ; rw [if_neg (by rintro (g1 | g1); exact h9_41 g1; exact h9_46 g1)]; exact hpy (by simpa using h51), rfl, rfl⟩⟩))

theorem OpSpec.preImp {P : Program} {E : Env} {o : Oper} {p p' : HP} {R : List HP} {K : Value → List HP → Prop} (hi : ∀ h, p h → p' h) (h : OpSpec P o E (p' :: R) K) : OpSpec P o E (p :: R) K := by
  intro ρ w F ha hs
  exact h ρ w F ha (sep_imp hi hs)
theorem shr32 (z : Int) : vint (z.fdiv (2 ^ min (32 : Int).toNat IntKind.i64.bits)) = vint (z / 4294967296) := by
  show vint (z.fdiv 4294967296) = _
  rw [Int.fdiv_eq_ediv_of_nonneg _ (by decide)]
theorem mk_step {all : List Int} {j : Nat} (h : j < all.length) : (all.take (j + 1)).foldl markStep [] = markStep ((all.take j).foldl markStep []) (all.getD j 0) := by
  rw [List.take_succ_eq_append_getElem h, List.foldl_append]
  simp [List.getD_eq_getElem?_getD, h]
theorem mk_0 {out : List Int} {z : Int} (h : z = 0) : markStep out z = out := by unfold markStep; rw [if_pos h]
theorem mk_same {out : List Int} {z : Int} (h : ¬ z = 0) (h2 : out ≠ []) (h3 : out.getLastD 0 / 4294967296 = z / 4294967296) : markStep out z = out.dropLast ++ [z] := by unfold markStep; rw [if_neg h, if_pos ⟨h2, h3⟩]
theorem mk_new {out : List Int} {z : Int} (h : ¬ z = 0) (h2 : out = [] ∨ ¬ out.getLastD 0 / 4294967296 = z / 4294967296) : markStep out z = out ++ [z] := by
  unfold markStep; rw [if_neg h, if_neg]
  rintro ⟨g1, g2⟩; rcases h2 with h2 | h2
  · exact g1 h2
  · exact h2 g2
theorem set_last {out : List Int} {i : Nat} (h : i + 1 = out.length) (z : Int) : out.set i z = out.dropLast ++ [z] := by
  obtain ⟨l, x, rfl⟩ : ∃ l x, out = l ++ [x] := ⟨out.dropLast, out.getLast (by intro g; subst g; simp at h), (List.dropLast_concat_getLast _).symm⟩
  rw [List.length_append, List.length_singleton] at h
  obtain rfl : i = l.length := by omega
  simp
theorem lastD_at {out : List Int} {i : Nat} (h : i + 1 = out.length) : out.getLastD 0 = out.getD i 0 := by
  obtain ⟨l, x, rfl⟩ : ∃ l x, out = l ++ [x] := ⟨out.dropLast, out.getLast (by intro g; subst g; simp at h), (List.dropLast_concat_getLast _).symm⟩
  rw [List.length_append, List.length_singleton] at h
  obtain rfl : i = l.length := by omega
  simp [List.getD_eq_getElem?_getD]
theorem mk_len (out : List Int) (z : Int) : (markStep out z).length ≤ out.length + 1 := by
  unfold markStep
  split
  · omega
  · split
    · rw [List.length_append, List.length_dropLast, List.length_singleton]; omega
    · rw [List.length_append, List.length_singleton]; omega
theorem mk_lens (all : List Int) (j : Nat) (h : j ≤ all.length) : ((all.take j).foldl markStep []).length ≤ j := by
  induction j with
  | zero => simp
  | succ j ih =>
    rw [mk_step (by omega)]
    have := mk_len ((all.take j).foldl markStep []) (all.getD j 0)
    have := ih (by omega)
    omega
theorem lmarks_spec (g x : Nat) (Λ : Lg) (hΛ : LgI Λ) : Fn Tryz.prog 15 #[vptr g] [lgR g x Λ] fun v L => ∃ a c, v = .slice a (marksZ Λ).length c ∧ L = [lgR g x Λ, intR v (marksZ Λ)] := by
 refine Fn.intro (vs := [vptr g]) Tryz.func15 rfl rfl ?_
 intro F W
 refine G.lgOpen (by (repeat' constructor)) fun ea ec za zc => ?_
 have h1 := hΛ.ents
 have h2 := hΛ.same
 refine G.seq (G.region (G.ag rfl rfl (G.nil (G.then_n (G.seq (G.add (slR_nil 3 1) (G.region (G.ag rfl rfl (G.nil (G.then_n (G.seq (G.seq ?_))))))))))))
 refine G.draw [4, 9] [[0, 1, 2, 3, 5, 6, 7, 8, 11, 4, 9, 10]] mixed (by kernel_rfl) ?_
 refine Phases.go [ptc g _ _] (by (repeat' constructor)) ?_
 refine D.kw [1, 2, 3, 4, 9, 10] rfl (Quiet.move rfl) ?_
 refine D.kw [2, 3, 4, 9, 10] rfl (Quiet.nilp rfl) ?_
 refine D.kw [3, 4, 9, 10] rfl (Quiet.fieldAddr rfl fo_79_2) ?_
 refine D.kw [4, 9, 10] rfl (Quiet.ld rfl ag_3) ?_
 refine D.k rfl (Quiet.move rfl) ?_
 refine D.k rfl (Quiet.nilp rfl) ?_
 refine D.k rfl (Quiet.fieldAddr rfl fo_79_5) ?_
 refine D.k rfl (Quiet.ld rfl ag_31) ?_
 refine D.k rfl (Quiet.move rfl) ?_
 refine D.h rfl (by kernel_rfl) (OpSpec.buildSlice1 (vs := [_]) el_31 ze_3 rfl rfl rfl rfl rfl (by decide)) (by (repeat' constructor)) ?nx12
 rintro v L' ⟨b4, rfl, rfl⟩
 refine D.h rfl (by kernel_rfl) (OpSpec.preImp (p := ptc b4 [vint Λ.base] 3) (p' := slR 3 1 (.slice (some ⟨b4, 0, none⟩) 1 1) 1 [vint Λ.base]) (fun h hp => slR_pt hp rfl) (OpSpec.append (n := 1) (m := Λ.zxs.length) (xs := [vint Λ.base]) (ys := ints Λ.zxs) (p := intR (.slice za Λ.zxs.length zc) Λ.zxs) rfl rfl rfl el_31 (.inl ⟨_, Tryz.underlying31⟩) ze_3 rfl rfl ?hc14 ?hr15 ?hb16 (by decide))) (by (repeat' constructor)) ?nx17
 case hc14 => intro y hy; obtain ⟨z, -, rfl⟩ := List.mem_map.1 hy; rfl
 case hr15 => exact fun h hp => slR_rd hp
 case hb16 => omega
 rintro v L' ⟨⟨a9, c9, rfl⟩, rfl⟩
 refine D.kw [] rfl (Quiet.slen rfl Tryz.underlying31 rfl) ?_
 refine D.ph (Phases.fin ?_)
 refine G.slShape (v := .slice a9 _ c9) (by (repeat' constructor)) (by omega) fun b9 cc9 e0 mb9 _ => ?_
 simp only [Value.slice.injEq, true_and] at e0
 obtain ⟨rfl, rfl⟩ := e0
 have hall : (Λ.base :: Λ.zxs).length = 1 + Λ.zxs.length := by rw [List.length_cons]; omega
 refine G.then_n (G.block ?_)
 refine G.loopK (ι := Nat × Value × (List Int)) (fun q E => (18, vint q.1) :: (3, q.2.1) :: E) (fun q => [intR q.2.1 q.2.2]) (fun q => q.1 ≤ 1 + Λ.zxs.length ∧ (∃ a c, q.2.1 = .slice a q.2.2.length c) ∧ q.2.2 = (((Λ.base :: Λ.zxs).take q.1).foldl markStep [])) (fun q => 1 + Λ.zxs.length - q.1) (0, .slice none 0 0, []) (ts := [2, 16, 17]) (.cons rfl (.cons rfl (.cons rfl (.nil)))) (⟨Nat.zero_le _, ⟨none, 0, rfl⟩, rfl⟩) ⟨rfl, rfl, rfl, rfl, rfl, trivial⟩ (by (repeat' constructor)) ?_
 rintro ⟨j, u, out⟩ ⟨hj, ⟨au, cu, hu⟩, ho⟩
 dsimp only
 dsimp only at hj hu ho
 subst hu
 have hol : out.length ≤ j := by rw [ho]; exact mk_lens _ _ (by omega)
 refine G.seq (G.region (G.q (Quiet.int rfl rfl rfl) rfl (G.nil (G.then_n (G.seq ?_)))))
 refine G.condD rfl (fun h19 => ?_) (fun h19 => ?_)
 ·refine G.skip (G.then_n (G.seq (G.block (G.seq (G.region ?_)))))
  refine G.q (Quiet.indexAddr rfl rfl el_31 (by omega)) rfl ?_
  refine G.q (Quiet.loadEl (p := slR 3 1 (.slice (some ⟨b9, 0, none⟩) (1 + Λ.zxs.length) c9) (1 + Λ.zxs.length) ([vint Λ.base] ++ ints Λ.zxs)) (i := j * 1) (v := vint ((Λ.base :: Λ.zxs).getD j 0)) rfl ag_3 (by (repeat' constructor)) (fun h hp => slR_rd hp) (by have hjl : j < (Λ.base :: Λ.zxs).length := (by omega); rw [show [vint Λ.base] ++ ints Λ.zxs = ints (Λ.base :: Λ.zxs) from rfl]; simp only [ints, List.getElem?_map, Nat.mul_one, List.getElem?_eq_getElem hjl, List.getD_eq_getElem?_getD]; rfl)) rfl ?_
  refine G.ag rfl rfl (G.nil (G.then_n (G.seq (G.region (G.mv rfl rfl (G.q (Quiet.slen rfl Tryz.underlying31 rfl) rfl (G.ag rfl rfl (G.nil (G.then_n (G.block (G.seq (G.region (G.mv rfl rfl (G.q (Quiet.int rfl rfl rfl) rfl (G.ag rfl rfl (G.nil (G.then_n ?_)))))))))))))))))
  refine G.condD rfl (fun h28 => ?_) (fun h28 => ?_)
  ·refine G.skip (G.blk_n (G.blk_n (G.then_n (G.region ?_))))
   refine G.q (Quiet.add rfl rfl (by omega)) rfl ?_
   refine G.mv rfl rfl (G.nil (G.then_n ?_))
   exact G.roundK ((j + 1, .slice au out.length cu, out)) (⟨by dsimp only; omega, ⟨_, _, rfl⟩, by dsimp only; rw [mk_step (by omega), ← ho, mk_0 h28]⟩) (by dsimp only; omega) ⟨rfl, rfl, rfl, rfl, rfl, trivial⟩ (by (repeat' constructor)) (by ((repeat (apply Have.cons; (repeat (first | exact Pick.here | apply Pick.there)))); apply Have.base; repeat' constructor))
  ·refine G.seq (G.region (G.mv rfl rfl (G.q (Quiet.int rfl rfl rfl) rfl (G.mv rfl rfl ?_))))
   refine G.dec (t := 34) rfl (fun h8_34 => ?_) (fun h8_34 => ?_)
   ·obtain ⟨i, hi⟩ : ∃ i, i + 1 = out.length := ⟨out.length - 1, by omega⟩
    refine G.slShape (v := .slice au _ cu) (xs := ints out) (by (repeat' constructor)) (by omega) fun bu cu' e0 mbu _ => ?_
    simp only [Value.slice.injEq, true_and] at e0
    obtain ⟨rfl, rfl⟩ := e0
    refine G.kDT (t := 33) rfl h8_34 (G.grun (t := 34) rfl rfl rfl (G.mv rfl rfl (G.grun (t := 34) rfl rfl rfl (G.mv rfl rfl (G.grun (t := 34) rfl rfl rfl ?_)))))
    refine G.q (Quiet.as (v' := vint (i : Nat)) (by congr 1; omega) (Quiet.sub rfl rfl (by omega))) rfl ?_
    refine G.grun (t := 34) rfl rfl rfl ?_
    refine G.q (Quiet.indexAddr rfl rfl el_31 (by omega)) rfl ?_
    refine G.grun (t := 34) rfl rfl rfl ?_
    refine G.q (Quiet.loadEl (p := intR (.slice (some ⟨bu, 0, none⟩) out.length cu) out) (i := i * 1) (v := vint (out.getD i 0)) rfl ag_3 (by (repeat' constructor)) (fun h hp => slR_rd hp) (by have hil : i < out.length := (by omega); simp [ints, List.getD_eq_getElem?_getD, hil])) rfl ?_
    refine G.grun (t := 34) rfl rfl rfl ?_
    refine G.q (Quiet.as (v' := vint (out.getD i 0 / 4294967296)) (by exact shr32 _) (Quiet.shr rfl rfl (by first | decide | omega))) rfl ?_
    refine G.grun (t := 34) rfl rfl rfl (G.mv rfl rfl (G.grun (t := 34) rfl rfl rfl ?_))
    refine G.q (Quiet.as (v' := vint ((Λ.base :: Λ.zxs).getD j 0 / 4294967296)) (by exact shr32 _) (Quiet.shr rfl rfl (by first | decide | omega))) rfl ?_
    refine G.grun (t := 34) rfl rfl rfl (G.q (Quiet.int rfl rfl rfl) rfl (G.q (Quiet.pickT rfl rfl) rfl (G.ag rfl rfl (G.nil (G.then_n ?_)))))
    refine G.condD rfl (fun h31 => ?_) (fun h31 => ?_)
    ·refine G.region (G.mv rfl rfl (G.mv rfl rfl ?_))
     refine G.q (Quiet.as (v' := vint (i : Nat)) (by congr 1; omega) (Quiet.sub rfl rfl (by omega))) rfl ?_
     refine G.mv rfl rfl ?_
     refine G.q (Quiet.indexAddr rfl rfl el_31 (by omega)) rfl ?_
     refine G.oq (OpSpec.storeRd (sz := 1) (n := out.length) (c := cu) (j := i * 1) (xs := ints out) rfl rfl rfl sz_3 ?h138 ?h239) ?nx40
     case h138 => simp
     case h239 => omega
     rintro v L' rfl
     refine G.nil (G.blk_n (G.blk_n (G.then_n (G.region ?_))))
     refine G.q (Quiet.add rfl rfl (by omega)) rfl ?_
     refine G.mv rfl rfl (G.nil (G.then_n ?_))
     refine G.slCast (T := 3) (sz := 1) (m' := (out.set i ((Λ.base :: Λ.zxs).getD j 0)).length) (xs' := ints (out.set i ((Λ.base :: Λ.zxs).getD j 0))) (by (repeat' constructor)) (by simp) (by simp [ints, List.map_set]) ?_
     exact G.roundK ((j + 1, .slice (some ⟨bu, 0, none⟩) out.length cu, out.set i ((Λ.base :: Λ.zxs).getD j 0))) (⟨by dsimp only; omega, ⟨some ⟨bu, 0, none⟩, cu, by simp⟩, by dsimp only; rw [mk_step (by omega), ← ho, mk_same h28 (by intro g; rw [g] at hi; simp at hi) (by rw [lastD_at hi]; exact h31), set_last hi]⟩) (by dsimp only; omega) ⟨rfl, rfl, rfl, rfl, rfl, trivial⟩ (by (repeat' constructor)) (by ((repeat (apply Have.cons; (repeat (first | exact Pick.here | apply Pick.there)))); apply Have.base; repeat' constructor))
    ·refine G.region (G.mv rfl rfl (G.mv rfl rfl ?_))
     refine G.oq (OpSpec.buildSlice1 (vs := [_]) el_31 ze_3 rfl rfl rfl rfl rfl (by decide)) ?nx43
     rintro v L' ⟨b6, rfl, rfl⟩
     refine G.oq (OpSpec.append1 rfl rfl rfl el_31 ze_3 rfl rfl ?c45 ?c46 (Nat.le_refl _) ?c47 (by decide)) ?nx48
     case c45 => (first | (simp [isCell]; done) | (simp [isCell, setAll, Value.cells]; done))
     case c46 => rfl
     case c47 => omega
     rintro v L' ⟨⟨a6, c6, rfl⟩, rfl⟩
     refine G.ag rfl rfl (G.nil (G.blk_n (G.blk_n (G.then_n (G.region ?_)))))
     refine G.q (Quiet.add rfl rfl (by omega)) rfl ?_
     refine G.mv rfl rfl (G.nil (G.then_n ?_))
     refine G.slCast (T := 3) (sz := 1) (m' := (out ++ [(Λ.base :: Λ.zxs).getD j 0]).length) (xs' := ints (out ++ [(Λ.base :: Λ.zxs).getD j 0])) (by (repeat' constructor)) (by simp) (by simp [ints, Value.cells]) ?_
     exact G.roundK ((j + 1, .slice a6 (out.length + 1) c6, out ++ [(Λ.base :: Λ.zxs).getD j 0])) (⟨by dsimp only; omega, ⟨a6, c6, by simp⟩, by dsimp only; rw [mk_step (by omega), ← ho, mk_new h28 (.inr (by rw [lastD_at hi]; exact h31))]⟩) (by dsimp only; omega) ⟨rfl, rfl, rfl, rfl, rfl, trivial⟩ (by (repeat' constructor)) (by ((repeat (apply Have.cons; (repeat (first | exact Pick.here | apply Pick.there)))); apply Have.base; repeat' constructor))
   ·refine G.kDF (t := 33) rfl h8_34 (G.gskip (t := 34) rfl rfl rfl rfl (G.gskip (t := 34) rfl rfl rfl rfl (G.gskip (t := 34) rfl rfl rfl rfl (G.gskip (t := 34) rfl rfl rfl rfl (G.gskip (t := 34) rfl rfl rfl rfl (G.gskip (t := 34) rfl rfl rfl rfl (G.gskip (t := 34) rfl rfl rfl rfl (G.gskip (t := 34) rfl rfl rfl rfl (G.gskip (t := 34) rfl rfl rfl rfl (G.q (Quiet.pickF rfl rfl) rfl (G.ag rfl rfl (G.nil (G.then_n (G.condF rfl (G.region (G.mv rfl rfl (G.mv rfl rfl ?_)))))))))))))))))
    refine G.oq (OpSpec.buildSlice1 (vs := [_]) el_31 ze_3 rfl rfl rfl rfl rfl (by decide)) ?nx53
    rintro v L' ⟨b6, rfl, rfl⟩
    refine G.oq (OpSpec.append1 rfl rfl rfl el_31 ze_3 rfl rfl ?c55 ?c56 (Nat.le_refl _) ?c57 (by decide)) ?nx58
    case c55 => (first | (simp [isCell]; done) | (simp [isCell, setAll, Value.cells]; done))
    case c56 => rfl
    case c57 => omega
    rintro v L' ⟨⟨a6, c6, rfl⟩, rfl⟩
    refine G.ag rfl rfl (G.nil (G.blk_n (G.blk_n (G.then_n (G.region ?_)))))
    refine G.q (Quiet.add rfl rfl (by omega)) rfl ?_
    refine G.mv rfl rfl (G.nil (G.then_n ?_))
    refine G.slCast (T := 3) (sz := 1) (m' := (out ++ [(Λ.base :: Λ.zxs).getD j 0]).length) (xs' := ints (out ++ [(Λ.base :: Λ.zxs).getD j 0])) (by (repeat' constructor)) (by simp) (by simp [ints, Value.cells]) ?_
    exact G.roundK ((j + 1, .slice a6 (out.length + 1) c6, out ++ [(Λ.base :: Λ.zxs).getD j 0])) (⟨by dsimp only; omega, ⟨a6, c6, by simp⟩, by dsimp only; rw [mk_step (by omega), ← ho, mk_new h28 (.inl (List.eq_nil_of_length_eq_zero (by omega)))]⟩) (by dsimp only; omega) ⟨rfl, rfl, rfl, rfl, rfl, trivial⟩ (by (repeat' constructor)) (by ((repeat (apply Have.cons; (repeat (first | exact Pick.here | apply Pick.there)))); apply Have.base; repeat' constructor))
 ·have hje : j = 1 + Λ.zxs.length := by omega
  have hoz : out = marksZ Λ := by rw [ho, hje]; unfold marksZ; rw [List.take_of_length_le (by omega)]
  subst hoz
  refine G.exit (G.then_e (G.then_e (G.blk_e (G.then_n (G.seq (G.region (G.mv rfl rfl ?_)))))))
  refine G.oq (OpSpec.call Tryz.func52 rfl rfl (vs := [_]) rfl (clipI_spec _ _ _)) ?nx62
  rintro v L' ⟨⟨ac, cc, rfl⟩, rfl⟩
  refine G.ag rfl rfl (G.nil (G.then_n (G.ret ?_)))
  refine G.lgFold (g := g) (x := x) (ea := ea) (ec := ec) (za := za) (zc := zc) (m := Λ.ents.length) (k := Λ.zxs.length) Λ (by (repeat' constructor)) (by exact rfl) (by first | rfl | simp [Lg.keep]) (by first | rfl | simp [Lg.keep]) (by first | rfl | simp [Lg.keep]) (by first | rfl | simp [Lg.keep]) ?_
  exact G.dn (l := [.tmp 2]) rfl rfl ⟨_, _, rfl, rfl⟩

def behindT (Λ : Lg) (z : Int) (j : Nat) : List En := (((Λ.ents.zip Λ.zxs).take j).filter fun q => decide (q.2 > z)).map entAt
theorem behind_step {Λ : Lg} {z : Int} {j : Nat} (h1 : j < Λ.ents.length) (h2 : j < Λ.zxs.length) : behindT Λ z (j + 1) = if Λ.zxs.getD j 0 > z then behindT Λ z j ++ [entAt (Λ.ents.getD j [], Λ.zxs.getD j 0)] else behindT Λ z j := by
  have hz : j < (Λ.ents.zip Λ.zxs).length := by rw [List.length_zip]; omega
  unfold behindT
  rw [List.take_succ_eq_append_getElem hz, List.filter_append, List.map_append]
  have e : (Λ.ents.zip Λ.zxs)[j] = (Λ.ents.getD j [], Λ.zxs.getD j 0) := by simp [List.getD_eq_getElem?_getD, h1, h2]
  rw [e]
  split
  · rename_i g
    rw [List.filter_cons_of_pos (by simpa using g)]; rfl
  · rename_i g
    rw [List.filter_cons_of_neg (by simpa using g)]; simp
theorem enK0 : EnK en0 := ⟨⟨rfl, rfl⟩, fun y hy => by cases hy⟩
theorem GotZ.at {s : Bs} {e : En} {er : Int} (h : GotZ s e er) (z : Int) : e.pl = entAt (s, z) ∧ EnK e := by
  unfold entAt
  rcases h with ⟨-, h1, h2⟩ | ⟨-, h1, rfl⟩
  · exact ⟨by dsimp only; rw [h1]; rfl, h2⟩
  · exact ⟨by dsimp only; rw [h1]; rfl, enK0⟩
theorem lentries_spec (g x : Nat) (Λ : Lg) (z : Int) (hΛ : LgI Λ) : Fn Tryz.prog 16 #[vptr g, vint z] [lgR g x Λ] fun v L => (z < Λ.base ∧ v = .tuple #[.slice none 0 0, vint 81] ∧ L = [lgR g x Λ]) ∨ (¬ z < Λ.base ∧ ∃ es : List En, es.map En.pl = behindL Λ z ∧ (∀ e ∈ es, EnK e) ∧ ∃ a c, v = .tuple #[.slice a es.length c, vint 0] ∧ L = [lgR g x Λ, slR 38 11 (.slice a es.length c) es.length (es.flatMap enC), bigR entR es]) := by
 refine Fn.intro (vs := [vptr g, vint z]) Tryz.func16 rfl rfl ?_
 intro F W
 refine G.lgOpen (by (repeat' constructor)) fun ea ec za zc => ?_
 have h1 := hΛ.ents
 have h2 := hΛ.same
 refine G.seq (G.region (G.ag rfl rfl (G.ag rfl rfl (G.nil (G.then_n (G.seq (G.seq (G.region (G.mv rfl rfl (G.mv rfl rfl (G.q (Quiet.nilp rfl) rfl (G.q (Quiet.fieldAddr rfl fo_79_2) rfl ?_))))))))))))
 refine G.q (Quiet.ld rfl ag_3) rfl ?_
 refine G.q (Quiet.int rfl rfl rfl) rfl (G.nil (G.then_n ?_))
 refine G.condD rfl (fun h16 => ?_) (fun h16 => ?_)
 ·refine G.seq (G.region (G.ag rfl rfl (G.ag rfl rfl (G.nil (G.then_n (G.ret (G.then_r ?_)))))))
  refine G.lgFold (g := g) (x := x) (ea := ea) (ec := ec) (za := za) (zc := zc) (m := Λ.ents.length) (k := Λ.zxs.length) Λ (by (repeat' constructor)) (by exact rfl) (by first | rfl | simp [Lg.keep]) (by first | rfl | simp [Lg.keep]) (by first | rfl | simp [Lg.keep]) (by first | rfl | simp [Lg.keep]) ?_
  exact G.dn (l := [.tmp 4, .tmp 5]) rfl rfl (.inl ⟨h16, rfl, rfl⟩)
 ·refine G.skip (G.then_n (G.seq (G.add (slR_nil 38 11) ?_)))
  refine G.add (p := bigR entR []) (fun h => big_nil h) ?_
  refine G.region (G.ag rfl rfl (G.nil (G.then_n (G.seq (G.seq (G.region (G.mv rfl rfl (G.q (Quiet.nilp rfl) rfl (G.q (Quiet.fieldAddr rfl fo_79_4) rfl ?_)))))))))
  refine G.q (Quiet.ld rfl ag_46) rfl ?_
  refine G.q (Quiet.slen rfl Tryz.underlying46 rfl) rfl (G.mv rfl rfl (G.nil (G.then_n (G.block ?_))))
  refine G.loopK (ι := Nat × Value × (List En)) (fun q E => (22, vint q.1) :: (6, q.2.1) :: E) (fun q => [slR 38 11 q.2.1 q.2.2.length (q.2.2.flatMap enC), bigR entR q.2.2]) (fun q => q.1 ≤ Λ.ents.length ∧ (∃ a c, q.2.1 = .slice a q.2.2.length c) ∧ q.2.2.map En.pl = behindT Λ z q.1 ∧ (∀ e ∈ q.2.2, EnK e) ∧ q.2.2.length ≤ q.1) (fun q => Λ.ents.length - q.1) (0, .slice none 0 0, []) (ts := [0, 1, 4, 5, 20, 21]) (.cons rfl (.cons rfl (.cons rfl (.cons rfl (.cons rfl (.cons rfl (.nil))))))) (⟨Nat.zero_le _, ⟨none, 0, rfl⟩, rfl, (fun e he => by cases he), Nat.le_refl _⟩) ⟨rfl, rfl, rfl, rfl, rfl, rfl, rfl, rfl, trivial⟩ (by (repeat' constructor)) ?_
  rintro ⟨j, u, es⟩ ⟨hj, ⟨au, cu, hu⟩, hes, hek, hel⟩
  dsimp only
  dsimp only at hj hu hes hek hel
  subst hu
  refine G.seq (G.region (G.q (Quiet.int rfl rfl rfl) rfl (G.nil (G.then_n (G.seq ?_)))))
  refine G.condD rfl (fun h23 => ?_) (fun h23 => ?_)
  ·have hj2 : j < Λ.ents.length := by omega
   have hjz : j < Λ.zxs.length := by omega
   refine G.slShape (v := .slice ea _ ec) (xs := strs Λ.ents) (by (repeat' constructor)) (by omega) fun be ce' e0 mbe _ => ?_
   simp only [Value.slice.injEq, true_and] at e0
   obtain ⟨rfl, rfl⟩ := e0
   refine G.slShape (v := .slice za _ zc) (xs := ints Λ.zxs) (by (repeat' constructor)) (by omega) fun bz cz e0 mbz _ => ?_
   simp only [Value.slice.injEq, true_and] at e0
   obtain ⟨rfl, rfl⟩ := e0
   have hsl : (Λ.ents.getD j []).length ≤ 1073741824 := by rw [List.getD_eq_getElem?_getD, List.getElem?_eq_getElem hj2]; exact hΛ.each _ (List.getElem_mem hj2)
   refine G.skip (G.then_n (G.seq (G.block (G.seq (G.region (G.mv rfl rfl ?_))))))
   refine G.q (Quiet.indexAddr rfl rfl el_46 (by omega)) rfl ?_
   refine G.q (Quiet.loadEl (p := strR (.slice (some ⟨be, 0, none⟩) Λ.ents.length ec) Λ.ents) (i := j * 1) (v := vstr (Λ.ents.getD j [])) rfl ag_9 (by (repeat' constructor)) (fun h hp => slR_rd hp) (by simp [strs, List.getD_eq_getElem?_getD, hj2])) rfl ?_
   refine G.ag rfl rfl (G.ag rfl rfl (G.nil (G.then_n (G.seq (G.region (G.mv rfl rfl (G.q (Quiet.nilp rfl) rfl (G.q (Quiet.fieldAddr rfl fo_79_5) rfl ?_))))))))
   refine G.q (Quiet.ld rfl ag_31) rfl ?_
   refine G.mv rfl rfl ?_
   refine G.q (Quiet.indexAddr rfl rfl el_31 (by omega)) rfl ?_
   refine G.q (Quiet.loadEl (p := intR (.slice (some ⟨bz, 0, none⟩) Λ.zxs.length zc) Λ.zxs) (i := j * 1) (v := vint (Λ.zxs.getD j 0)) rfl ag_3 (by (repeat' constructor)) (fun h hp => slR_rd hp) (by simp [ints, List.getD_eq_getElem?_getD, hjz])) rfl ?_
   refine G.mv rfl rfl (G.q (Quiet.int rfl rfl rfl) rfl (G.nil (G.then_n ?_)))
   refine G.condD rfl (fun h35 => ?_) (fun h35 => ?_)
   ·refine G.seq (G.region (G.mv rfl rfl ?_))
    refine G.oq (OpSpec.call Tryz.func53 rfl rfl (vs := [_]) rfl (wget_spec (Λ.ents.getD j []) (by omega))) ?nx30
    rintro v L' ⟨ge, er, hge, rfl, rfl⟩
    refine G.mv rfl rfl (G.q (Quiet.extract rfl rfl) rfl (G.q (Quiet.extract rfl rfl) rfl ?_))
    refine G.oq (OpSpec.allocA ze_38) ?nx34
    rintro v L' ⟨b9, rfl, rfl⟩
    refine G.oq (OpSpec.storeA rfl rfl ?c36 sz_38 ?c39 ?c37 ?c38) ?nx40
    case c36 => exact hge.cells
    case c39 => rfl
    case c37 => simp [enC, ptC]
    case c38 => exact nfz0 _ _
    rintro v L' rfl
    refine G.ag rfl rfl (G.nil ?_)
    refine G.ptCast (b := b9) (l' := enC ge) (by (repeat' constructor)) (by exact rfl) ?_
    refine G.then_n (G.region (G.mv rfl rfl ?_))
    refine G.q (Quiet.loadAs (vs := enC ge) rfl ag_38 (by (repeat' constructor)) (by simp [enC, ptC]) rfl) rfl ?_
    refine G.oq (OpSpec.buildSlice (vs := [_]) el_22 ze_38 rfl rfl rfl rfl (by first | (simp [Value.cells]; done) | (intro v hv; simp only [List.mem_cons, List.not_mem_nil, or_false] at hv; (repeat (first | (subst hv; rfl) | (rcases hv with hv | hv; (subst hv; rfl)))))) (by decide)) ?nx43
    rintro v L' ⟨b10, rfl, rfl⟩
    refine G.oq (OpSpec.append1 rfl rfl rfl el_22 ze_38 rfl rfl ?c45 ?c46 (Nat.le_refl _) ?c47 (by decide)) ?nx48
    case c45 => simp only [List.map_cons, List.map_nil, List.flatten_cons, List.flatten_nil, List.append_nil]; simp only [Value.cells]; intro z hz; exact hge.cells z (by simpa using hz)
    case c46 => rfl
    case c47 => omega
    rintro v L' ⟨⟨a6, c6, rfl⟩, rfl⟩
    refine G.ag rfl rfl (G.nil (G.blk_n (G.then_n (G.region ?_))))
    refine G.q (Quiet.add rfl rfl (by omega)) rfl ?_
    refine G.mv rfl rfl (G.nil (G.then_n ?_))
    refine G.bigAdd (f := entR) (l := es) (p := entR ge) ge rfl (by (repeat' constructor)) ?_
    refine G.slCast (T := 38) (sz := 11) (m' := (es ++ [ge]).length) (xs' := (es ++ [ge]).flatMap enC) (by (repeat' constructor)) (by simp) (by rw [List.flatMap_append]; simp [Value.cells]) ?_
    exact G.roundK ((j + 1, .slice a6 (es.length + 1) c6, es ++ [ge])) (⟨by dsimp only; omega, ⟨a6, c6, by simp⟩, by dsimp only; rw [behind_step (by omega) (by omega), if_pos h35, List.map_append, hes, ← (hge.at (Λ.zxs.getD j 0)).1]; rfl, (fun e he => by rcases List.mem_append.1 he with he | he; exact hek e he; rw [List.mem_singleton] at he; subst he; exact (hge.at 0).2), by dsimp only; rw [List.length_append, List.length_singleton]; omega⟩) (by dsimp only; omega) ⟨rfl, rfl, rfl, rfl, rfl, rfl, rfl, rfl, trivial⟩ (by (repeat' constructor)) (by ((repeat (apply Have.cons; (repeat (first | exact Pick.here | apply Pick.there)))); apply Have.base; repeat' constructor))
   ·refine G.skip (G.blk_n (G.then_n (G.region ?_)))
    refine G.q (Quiet.add rfl rfl (by omega)) rfl ?_
    refine G.mv rfl rfl (G.nil (G.then_n ?_))
    exact G.roundK ((j + 1, .slice au es.length cu, es)) (⟨by dsimp only; omega, ⟨au, cu, rfl⟩, by dsimp only; rw [behind_step (by omega) (by omega), if_neg h35]; exact hes, hek, by dsimp only; omega⟩) (by dsimp only; omega) ⟨rfl, rfl, rfl, rfl, rfl, rfl, rfl, rfl, trivial⟩ (by (repeat' constructor)) (by ((repeat (apply Have.cons; (repeat (first | exact Pick.here | apply Pick.there)))); apply Have.base; repeat' constructor))
  ·have hje : j = Λ.ents.length := by omega
   have hes2 : es.map En.pl = behindL Λ z := by rw [hes, hje]; unfold behindT behindL; rw [List.take_of_length_le (by rw [List.length_zip]; omega)]
   refine G.exit (G.then_e (G.then_e (G.blk_e (G.then_n (G.seq (G.region (G.mv rfl rfl (G.ag rfl rfl (G.ag rfl rfl (G.nil (G.then_n (G.ret ?_))))))))))))
   refine G.lgFold (g := g) (x := x) (ea := ea) (ec := ec) (za := za) (zc := zc) (m := Λ.ents.length) (k := Λ.zxs.length) Λ (by (repeat' constructor)) (by exact rfl) (by first | rfl | simp [Lg.keep]) (by first | rfl | simp [Lg.keep]) (by first | rfl | simp [Lg.keep]) (by first | rfl | simp [Lg.keep]) ?_
   exact G.dn (l := [.tmp 4, .tmp 5]) rfl rfl (.inr ⟨h16, es, hes2, hek, _, _, rfl, rfl⟩)

end Go.Proofs.YtidjhgbdokcphaaGreat

