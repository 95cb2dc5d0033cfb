/- Own work, by program: next, seal: walked. -/
import Derived.Test.YtepncdidkjjllaaWalOps
namespace Go.Proofs.Ytepncdidkjjllaa
open Go
set_option maxRecDepth 100000 in
theorem next_spec (x d : Nat) (vr : Value) (sy : Int) (vb : Value) (ar ct a b : Int) (db : Bool) (m : Mk) (δ : Dk) (hc : 0 ≤ ct ∧ ct ≤ 4294967295) (hA : δ.acts + 2 < 4611686018427387904) : Fn Try.prog 121 #[vptr x, .agg (mkC m).toArray] [ptc x (wc d vr sy vb ar ct a b db) 118, dkR d δ] fun v L => v = vint (nextZ δ (⟨ct + 1, m.area, m.len, m.num, m.a, m.b⟩ : Mk)).2 ∧ L = [ptc x (wc d vr sy vb ar (if (nextZ δ (⟨ct + 1, m.area, m.len, m.num, m.a, m.b⟩ : Mk)).2 = 0 then ct + 1 else ct) a b db) 118, dkR d (nextZ δ (⟨ct + 1, m.area, m.len, m.num, m.a, m.b⟩ : Mk)).1] := by
  refine Fn.intro (vs := [vptr x, .agg (mkC m).toArray]) Try.func121 rfl rfl ?_
  intro F W
  generalize hM : (⟨ct + 1, m.area, m.len, m.num, m.a, m.b⟩ : Mk) = M
  have hMc : M.count = ct + 1 := by rw [← hM]
  have hwk := write_keeps δ (M.count % 2) M.sec
  refine G.seq ?_
  refine G.region ?_
  refine G.op (OpSpec.box rfl) (by (repeat (first | exact Picks.nil | (apply Picks.cons; (repeat (first | exact Pick.here | apply Pick.there)))))) rfl ?nx1
  rintro v L' ⟨b3, rfl, rfl⟩
  refine G.q (Quiet.assign rfl) rfl ?_
  refine G.nil ?_
  refine G.then_n ?_
  refine G.seq ?_
  refine G.region ?_
  refine G.q (Quiet.move rfl) rfl ?_
  refine G.q (Quiet.nilp rfl) rfl ?_
  refine G.q (Quiet.fieldAddr rfl fo_118_5) rfl ?_
  refine G.q (Quiet.load rfl ag_3 (by (repeat (first | exact Pick.here | apply Pick.there))) (rfl)) rfl ?_
  refine G.q (Quiet.add rfl rfl (by omega)) rfl ?_
  refine G.q (Quiet.fieldAddr rfl fo_115_0) rfl ?_
  refine G.op (OpSpec.store rfl rfl rfl sz_3 ?c10 ?c11) (by (repeat (first | exact Picks.nil | (apply Picks.cons; (repeat (first | exact Pick.here | apply Pick.there)))))) rfl ?nx12
  case c10 => simp [Value.cells, mkC]
  case c11 => exact nfz0 _ _
  rintro v L' rfl
  refine G.nil ?_
  refine G.ptCast (b := b3) (l' := mkC M) (by (repeat (first | exact Pick.here | apply Pick.there))) (by rw [← hM]; rfl) ?_
  refine G.then_n ?_
  refine G.seq ?_
  refine G.seq ?_
  refine G.draw [9, 16] [[0, 1, 2, 3, 4, 5, 6, 7, 8, 9], [10, 11, 12, 13, 14, 15, 16], [17, 18]] mixed (by kernel_rfl) ?_
  refine Phases.go [ptc x _ _, ptc b3 _ _] (by (repeat (first | exact Picks.nil | (apply Picks.cons; (repeat (first | exact Pick.here | apply Pick.there)))))) ?_
  refine D.qw [1, 2, 3, 9] rfl (by kernel_rfl) (Quiet.move rfl) ?_
  refine D.qw [2, 3, 9] rfl (by kernel_rfl) (Quiet.nilp rfl) ?_
  refine D.qw [3, 9] rfl (by kernel_rfl) (Quiet.fieldAddr rfl fo_118_0) ?_
  refine D.qw [9] rfl (by kernel_rfl) (Quiet.load rfl ag_24 (by (repeat (first | exact Pick.here | apply Pick.there))) (rfl)) ?_
  refine D.qw [5, 6, 9] rfl (by kernel_rfl) (Quiet.fieldAddr rfl fo_115_0) ?_
  refine D.qw [6, 9] rfl (by kernel_rfl) (Quiet.load rfl ag_3 (by (repeat (first | exact Pick.here | apply Pick.there))) (rfl)) ?_
  refine D.qw [9] rfl (by kernel_rfl) (Quiet.remE (a := M.count) rfl rfl (by rw [hMc]; omega) (by decide)) ?_
  refine D.qw [8, 9] rfl (by kernel_rfl) (Quiet.loadAs (vs := mkC M) rfl ag_115 (by (repeat (first | exact Pick.here | apply Pick.there))) (by simp [mkC]) rfl) ?_
  refine D.m rfl (by kernel_rfl) (OpSpec.call Try.func74 rfl rfl (vs := [_]) rfl (sector_spec M)) (by (repeat (first | exact Picks.nil | (apply Picks.cons; (repeat (first | exact Pick.here | apply Pick.there)))))) ?nx21
  refine D.h rfl (by kernel_rfl) (OpSpec.call Try.func17 rfl rfl (vs := [_, _, _]) rfl (write_spec d δ (M.count % 2) M.sec (by omega))) (by (repeat (first | exact Picks.nil | (apply Picks.cons; (repeat (first | exact Pick.here | apply Pick.there)))))) ?nx23
  rintro v L' ⟨rfl, rfl⟩
  refine D.ph ?_
  refine Phases.go [] (by (repeat (first | exact Picks.nil | (apply Picks.cons; (repeat (first | exact Pick.here | apply Pick.there)))))) ?_
  refine D.qw [11, 12, 13, 14, 15, 16] rfl (by kernel_rfl) (Quiet.int rfl rfl rfl) ?_
  refine D.qw [12, 13, 14, 15, 16] rfl (by kernel_rfl) (Quiet.move rfl) ?_
  refine D.ndec (t := 22) rfl (fun h2_22 => ?_) (fun h2_22 => ?_)
  · refine D.kNT (t := 21) rfl h2_22 ?_
    refine D.gs (t := 22) rfl rfl rfl rfl (by kernel_rfl) ?_
    refine D.gs (t := 22) rfl rfl rfl rfl (by kernel_rfl) ?_
    refine D.gs (t := 22) rfl rfl rfl rfl (by kernel_rfl) ?_
    refine D.gs (t := 22) rfl rfl rfl rfl (by kernel_rfl) ?_
    refine D.gs (t := 22) rfl rfl rfl rfl (by kernel_rfl) ?_
    refine D.ph ?_
    refine Phases.go [] (by (repeat (first | exact Picks.nil | (apply Picks.cons; (repeat (first | exact Pick.here | apply Pick.there)))))) ?_
    refine D.gs (t := 22) rfl rfl rfl rfl (by kernel_rfl) ?_
    refine D.qw [] rfl (by kernel_rfl) (Quiet.pickT rfl rfl) ?_
    refine D.ph ?_
    refine Phases.fin ?_
    refine G.then_n ?_
    refine G.condT rfl ?_
    refine G.seq ?_
    refine G.region ?_
    refine G.q (Quiet.assign rfl) rfl ?_
    refine G.nil ?_
    refine G.then_n ?_
    refine G.ret ?_
    refine G.then_r ?_
    have e : nextZ δ M = ((δ.write (M.count % 2) M.sec).1, 2) := by unfold nextZ; rw [if_pos (by simpa using h2_22)]
    rw [e]
    rw [if_neg (show ¬ (2 : Int) = 0 by decide)]
    exact G.done (l := [.tmp 4]) rfl rfl ⟨rfl, rfl⟩ (by (repeat (first | exact Picks.nil | (apply Picks.cons; (repeat (first | exact Pick.here | apply Pick.there)))))) (by (repeat (first | exact Suff.here | apply Suff.there)))
  · refine D.kNF (t := 21) rfl h2_22 ?_
    refine D.gqw [13, 14, 15, 16] (t := 22) rfl rfl rfl (by kernel_rfl) (Quiet.move rfl) ?_
    refine D.gqw [14, 15, 16] (t := 22) rfl rfl rfl (by kernel_rfl) (Quiet.nilp rfl) ?_
    refine D.gqw [15, 16] (t := 22) rfl rfl rfl (by kernel_rfl) (Quiet.fieldAddr rfl fo_118_0) ?_
    refine D.gqw [16] (t := 22) rfl rfl rfl (by kernel_rfl) (Quiet.load rfl ag_24 (by (repeat (first | exact Pick.here | apply Pick.there))) (rfl)) ?_
    refine D.gh (t := 22) rfl rfl rfl (by kernel_rfl) (OpSpec.call Try.func50 rfl rfl (vs := [_]) rfl (sync_spec d (δ.write (M.count % 2) M.sec).1 (by omega))) (by (repeat (first | exact Picks.nil | (apply Picks.cons; (repeat (first | exact Pick.here | apply Pick.there)))))) ?nx32
    rintro v L' ⟨rfl, rfl⟩
    refine D.ph ?_
    refine Phases.go [] (by (repeat (first | exact Picks.nil | (apply Picks.cons; (repeat (first | exact Pick.here | apply Pick.there)))))) ?_
    refine D.gqw [18] (t := 22) rfl rfl rfl (by kernel_rfl) (Quiet.int rfl rfl rfl) ?_
    refine D.qw [] rfl (by kernel_rfl) (Quiet.pickF rfl rfl) ?_
    refine D.ph ?_
    refine Phases.fin ?_
    refine G.then_n ?_
    refine G.condN rfl (fun h29 => ?_) (fun h29 => ?_)
    · refine G.seq ?_
      refine G.region ?_
      refine G.q (Quiet.assign rfl) rfl ?_
      refine G.nil ?_
      refine G.then_n ?_
      refine G.ret ?_
      refine G.then_r ?_
      have e : nextZ δ M = ((δ.write (M.count % 2) M.sec).1.sync.1, 2) := by unfold nextZ; rw [if_neg (by simpa using h2_22), if_pos (by simpa using h29)]
      rw [e]
      rw [if_neg (show ¬ (2 : Int) = 0 by decide)]
      exact G.done (l := [.tmp 4]) rfl rfl ⟨rfl, rfl⟩ (by (repeat (first | exact Picks.nil | (apply Picks.cons; (repeat (first | exact Pick.here | apply Pick.there)))))) (by (repeat (first | exact Suff.here | apply Suff.there)))
    · refine G.skip ?_
      refine G.then_n ?_
      refine G.seq ?_
      refine G.region ?_
      refine G.q (Quiet.move rfl) rfl ?_
      refine G.q (Quiet.fieldAddr rfl fo_115_0) rfl ?_
      refine G.q (Quiet.load rfl ag_3 (by (repeat (first | exact Pick.here | apply Pick.there))) (rfl)) rfl ?_
      refine G.q (Quiet.nilp rfl) rfl ?_
      refine G.q (Quiet.fieldAddr rfl fo_118_5) rfl ?_
      refine G.op (OpSpec.store rfl rfl rfl sz_3 ?c41 ?c42) (by (repeat (first | exact Picks.nil | (apply Picks.cons; (repeat (first | exact Pick.here | apply Pick.there)))))) rfl ?nx43
      case c41 => first | decide | (simp; omega) | simp
      case c42 => exact nfz0 _ _
      rintro v L' rfl
      refine G.nil ?_
      refine G.then_n ?_
      refine G.seq ?_
      refine G.region ?_
      refine G.q (Quiet.assign rfl) rfl ?_
      refine G.nil ?_
      refine G.then_n ?_
      refine G.ret ?_
      have e : nextZ δ M = ((δ.write (M.count % 2) M.sec).1.sync.1, 0) := by unfold nextZ; rw [if_neg (by simpa using h2_22), if_neg (by simpa using h29)]
      rw [e]
      rw [if_pos rfl, ← hMc]
      exact G.done (l := [.tmp 4]) rfl rfl ⟨rfl, rfl⟩ (by (repeat (first | exact Picks.nil | (apply Picks.cons; (repeat (first | exact Pick.here | apply Pick.there)))))) (by (repeat (first | exact Suff.here | apply Suff.there)))

theorem strs_cell (l : List Bs) : ∀ y ∈ strs l, isCell y = true := by
  intro y hy; obtain ⟨c, -, rfl⟩ := List.mem_map.1 hy; rfl
set_option maxRecDepth 100000 in
theorem seal_spec (x d : Nat) (vr vb : Value) (ω : Wl) (δ : Dk) (area : Int) (v1 v2 : Value) (l : List Bs) (p q : HP) (hc : 0 ≤ ω.count ∧ ω.count ≤ 4294967295) (hA : δ.acts + 10 < 4611686018427387904) (hl : (laidZ l).length ≤ 4000000) (hp : ∀ h : Hp, p h → rdS 1 h v1 l.length (strs l)) (hq : ∀ h : Hp, q h → rdS 1 h v2 (laidZ l).length (bysL (laidZ l))) :
    Fn Try.prog 86 #[vptr x, vint area, v1, v2] [ptc x (wc d vr ω.synced vb ω.area ω.count ω.a ω.b ω.doubt) 118, dkR d δ, p, q] fun v L => (∃ δ', sealZ δ ω area l = (δ', ω, 2) ∧ v = vint 2 ∧ L = [ptc x (wc d vr ω.synced vb ω.area ω.count ω.a ω.b ω.doubt) 118, dkR d δ', p, q]) ∨
      (∃ δ', sealZ δ ω area l = (δ', { ω with recs := l, synced := l.length, area := area, count := ω.count + 1 }, 0) ∧ v = vint 0 ∧ ∃ vr' vb', L = [ptc x (wc d vr' l.length vb' area (ω.count + 1) ω.a ω.b ω.doubt) 118, dkR d δ', strR vr' l, bytR vb' (laidZ l), p, q]) := by
  refine Fn.intro (vs := [vptr x, vint area, v1, v2]) Try.func86 rfl rfl ?_
  intro F W
  have hsk := sync_keeps δ
  have hll := laidZ_many l
  refine G.rdAny (p := p) hp (by (repeat (first | exact Pick.here | apply Pick.there))) fun ap cp e _ => ?_
  subst e
  refine G.rdAny (p := q) hq (by (repeat (first | exact Pick.here | apply Pick.there))) fun aq cq e _ => ?_
  subst e
  refine G.seq ?_
  refine G.region ?_
  refine G.q (Quiet.assign rfl) rfl ?_
  refine G.nil ?_
  refine G.then_n ?_
  refine G.seq ?_
  refine G.seq ?_
  refine G.region ?_
  refine G.q (Quiet.move rfl) rfl ?_
  refine G.q (Quiet.nilp rfl) rfl ?_
  refine G.q (Quiet.fieldAddr rfl fo_118_0) rfl ?_
  refine G.q (Quiet.load rfl ag_24 (by (repeat (first | exact Pick.here | apply Pick.there))) (rfl)) rfl ?_
  refine G.op (OpSpec.call Try.func50 rfl rfl (vs := [_]) rfl (sync_spec d δ (by omega))) (by (repeat (first | exact Picks.nil | (apply Picks.cons; (repeat (first | exact Pick.here | apply Pick.there)))))) rfl ?nx6
  rintro v L' ⟨rfl, rfl⟩
  refine G.q (Quiet.int rfl rfl rfl) rfl ?_
  refine G.nil ?_
  refine G.then_n ?_
  refine G.condN rfl (fun h15 => ?_) (fun h15 => ?_)
  · refine G.seq ?_
    refine G.region ?_
    refine G.q (Quiet.assign rfl) rfl ?_
    refine G.nil ?_
    refine G.then_n ?_
    refine G.ret ?_
    refine G.then_r ?_
    have e : sealZ δ ω area l = (δ.sync.1, ω, 2) := by unfold sealZ; rw [if_pos (by simpa using h15)]
    exact G.done (l := [.tmp 8]) rfl rfl (.inl ⟨_, e, rfl, rfl⟩) (by (repeat (first | exact Picks.nil | (apply Picks.cons; (repeat (first | exact Pick.here | apply Pick.there)))))) (by (repeat (first | exact Suff.here | apply Suff.there)))
  · refine G.skip ?_
    refine G.then_n ?_
    refine G.seq ?_
    refine G.seq ?_
    refine G.draw [15] [[0, 1, 2, 3, 4, 5, 6, 7, 8, 9, 10, 11, 12, 13, 14, 15], [16]] mixed (by kernel_rfl) ?_
    refine Phases.go [] (by (repeat (first | exact Picks.nil | (apply Picks.cons; (repeat (first | exact Pick.here | apply Pick.there)))))) ?_
    refine D.qw [15] rfl (by kernel_rfl) (Quiet.move rfl) ?_
    refine D.qw [14, 15] rfl (by kernel_rfl) (Quiet.move rfl) ?_
    refine D.qw [3, 14, 15] rfl (by kernel_rfl) (Quiet.move rfl) ?_
    refine D.qw [14, 15] rfl (by kernel_rfl) (Quiet.slen rfl Try.underlying31 rfl) ?_
    refine D.qw [5, 14, 15] rfl (by kernel_rfl) (Quiet.move rfl) ?_
    refine D.qw [14, 15] rfl (by kernel_rfl) (Quiet.slen rfl Try.underlying22 rfl) ?_
    refine D.qw [7, 8, 9, 14, 15] rfl (by kernel_rfl) (Quiet.move rfl) ?_
    refine D.qw [8, 9, 14, 15] rfl (by kernel_rfl) (Quiet.nilp rfl) ?_
    refine D.qw [9, 14, 15] rfl (by kernel_rfl) (Quiet.fieldAddr rfl fo_118_6) ?_
    refine D.qw [14, 15] rfl (by kernel_rfl) (Quiet.load rfl ag_3 (by (repeat (first | exact Pick.here | apply Pick.there))) (rfl)) ?_
    refine D.qw [11, 12, 13, 14, 15] rfl (by kernel_rfl) (Quiet.move rfl) ?_
    refine D.qw [12, 13, 14, 15] rfl (by kernel_rfl) (Quiet.nilp rfl) ?_
    refine D.qw [13, 14, 15] rfl (by kernel_rfl) (Quiet.fieldAddr rfl fo_118_7) ?_
    refine D.qw [14, 15] rfl (by kernel_rfl) (Quiet.load rfl ag_3 (by (repeat (first | exact Pick.here | apply Pick.there))) (rfl)) ?_
    refine D.qw [15] rfl (by kernel_rfl) (Quiet.to (v' := .agg (mkC ⟨0, area, (laidZ l).length, l.length, ω.a, ω.b⟩).toArray) (Quiet.build (us := [(1, _), (2, _), (3, _), (4, _), (5, _)]) fl_115 ze_115 rfl rfl (by simp [isCell])) rfl) ?_
    refine D.h rfl (by kernel_rfl) (OpSpec.call Try.func121 rfl rfl (vs := [_, _]) rfl (next_spec x d vr ω.synced vb ω.area ω.count ω.a ω.b ω.doubt ⟨0, area, (laidZ l).length, l.length, ω.a, ω.b⟩ δ.sync.1 hc (by omega))) (by (repeat (first | exact Picks.nil | (apply Picks.cons; (repeat (first | exact Pick.here | apply Pick.there)))))) ?nx25
    rintro v L' ⟨rfl, rfl⟩; rw [show (⟨ω.count + 1, area, ((laidZ l).length : Int), (l.length : Int), ω.a, ω.b⟩ : Mk) = ω.mark area l ω.a ω.b from rfl]
    refine D.ph ?_
    refine Phases.go [] (by (repeat (first | exact Picks.nil | (apply Picks.cons; (repeat (first | exact Pick.here | apply Pick.there)))))) ?_
    refine D.qw [] rfl (by kernel_rfl) (Quiet.assign rfl) ?_
    refine D.ph ?_
    refine Phases.fin ?_
    refine G.then_n ?_
    refine G.seq ?_
    refine G.region ?_
    refine G.q (Quiet.move rfl) rfl ?_
    refine G.q (Quiet.int rfl rfl rfl) rfl ?_
    refine G.nil ?_
    refine G.then_n ?_
    refine G.condN rfl (fun h33 => ?_) (fun h33 => ?_)
    · refine G.seq ?_
      refine G.region ?_
      refine G.q (Quiet.move rfl) rfl ?_
      refine G.q (Quiet.assign rfl) rfl ?_
      refine G.nil ?_
      refine G.then_n ?_
      refine G.ret ?_
      refine G.then_r ?_
      have e : sealZ δ ω area l = ((nextZ δ.sync.1 (ω.mark area l ω.a ω.b)).1, ω, 2) := by unfold sealZ; rw [if_neg (by simpa using h15), if_pos (by simpa using h33)]
      have hn2 : (nextZ δ.sync.1 (ω.mark area l ω.a ω.b)).2 = 2 := by rcases (nextZ_keeps δ.sync.1 (ω.mark area l ω.a ω.b)).2.2 with h | h; exact absurd h (by simpa using h33); exact h
      rw [hn2, if_neg (show ¬ (2 : Int) = 0 by decide)]
      exact G.done (l := [.tmp 8]) rfl rfl (.inl ⟨_, e, rfl, rfl⟩) (by (repeat (first | exact Picks.nil | (apply Picks.cons; (repeat (first | exact Pick.here | apply Pick.there)))))) (by (repeat (first | exact Suff.here | apply Suff.there)))
    · refine G.skip ?_
      refine G.then_n ?_
      refine G.seq ?_
      have h33b : (nextZ δ.sync.1 (ω.mark area l ω.a ω.b)).2 = 0 := by simpa using h33
      rw [if_pos h33b]
      refine G.region ?_
      refine G.q (Quiet.move rfl) rfl ?_
      refine G.q (Quiet.move rfl) rfl ?_
      refine G.q (Quiet.move rfl) rfl ?_
      refine G.q (Quiet.move rfl) rfl ?_
      refine G.q (Quiet.move rfl) rfl ?_
      refine G.q (Quiet.move rfl) rfl ?_
      refine G.op (OpSpec.call Try.func110 rfl rfl (vs := [_]) rfl (cloneT_spec _ l.length (strs l) p hp ?h134 ?h235)) (by (repeat (first | exact Picks.nil | (apply Picks.cons; (repeat (first | exact Pick.here | apply Pick.there)))))) rfl ?nx36
      case h134 => exact strs_cell l
      case h235 => omega
      rintro v L' ⟨⟨ar', cr', rfl⟩, rfl⟩
      refine G.q (Quiet.move rfl) rfl ?_
      refine G.op (OpSpec.call Try.func83 rfl rfl (vs := [_]) rfl (cloneB_spec _ (laidZ l).length (bysL (laidZ l)) q hq ?h139 ?h240)) (by (repeat (first | exact Picks.nil | (apply Picks.cons; (repeat (first | exact Pick.here | apply Pick.there)))))) rfl ?nx41
      case h139 => exact bysL_cell _
      case h240 => omega
      rintro v L' ⟨⟨ab', cb', rfl⟩, rfl⟩
      refine G.q (Quiet.move rfl) rfl ?_
      refine G.q (Quiet.slen rfl Try.underlying22 rfl) rfl ?_
      refine G.q (Quiet.nilp rfl) rfl ?_
      refine G.q (Quiet.fieldAddr rfl fo_118_4) rfl ?_
      refine G.op (OpSpec.store rfl rfl rfl sz_3 ?c47 ?c48) (by (repeat (first | exact Picks.nil | (apply Picks.cons; (repeat (first | exact Pick.here | apply Pick.there)))))) rfl ?nx49
      case c47 => first | decide | (simp; omega) | simp
      case c48 => exact nfz0 _ _
      rintro v L' rfl
      refine G.q (Quiet.nilp rfl) rfl ?_
      refine G.q (Quiet.fieldAddr rfl fo_118_1) rfl ?_
      refine G.op (OpSpec.store rfl rfl rfl sz_22 ?c52 ?c53) (by (repeat (first | exact Picks.nil | (apply Picks.cons; (repeat (first | exact Pick.here | apply Pick.there)))))) rfl ?nx54
      case c52 => first | decide | (simp; omega) | simp
      case c53 => exact nfz0 _ _
      rintro v L' rfl
      refine G.q (Quiet.nilp rfl) rfl ?_
      refine G.q (Quiet.fieldAddr rfl fo_118_3) rfl ?_
      refine G.op (OpSpec.store rfl rfl rfl sz_31 ?c57 ?c58) (by (repeat (first | exact Picks.nil | (apply Picks.cons; (repeat (first | exact Pick.here | apply Pick.there)))))) rfl ?nx59
      case c57 => first | decide | (simp; omega) | simp
      case c58 => exact nfz0 _ _
      rintro v L' rfl
      refine G.q (Quiet.nilp rfl) rfl ?_
      refine G.q (Quiet.fieldAddr rfl fo_118_2) rfl ?_
      refine G.op (OpSpec.store rfl rfl rfl sz_3 ?c62 ?c63) (by (repeat (first | exact Picks.nil | (apply Picks.cons; (repeat (first | exact Pick.here | apply Pick.there)))))) rfl ?nx64
      case c62 => first | decide | (simp; omega) | simp
      case c63 => exact nfz0 _ _
      rintro v L' rfl
      refine G.nil ?_
      refine G.then_n ?_
      refine G.seq ?_
      refine G.region ?_
      refine G.q (Quiet.assign rfl) rfl ?_
      refine G.nil ?_
      refine G.then_n ?_
      refine G.ret ?_
      have e : sealZ δ ω area l = ((nextZ δ.sync.1 (ω.mark area l ω.a ω.b)).1, { ω with recs := l, synced := l.length, area := area, count := ω.count + 1 }, 0) := by unfold sealZ; rw [if_neg (by simpa using h15), if_neg (by simpa using h33)]
      exact G.done (l := [.tmp 8]) rfl rfl (.inr ⟨_, e, rfl, _, _, rfl⟩) (by (repeat (first | exact Picks.nil | (apply Picks.cons; (repeat (first | exact Pick.here | apply Pick.there)))))) (by (repeat (first | exact Suff.here | apply Suff.there)))

end Go.Proofs.Ytepncdidkjjllaa
