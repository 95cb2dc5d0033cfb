/- Own work, by program: package tree: Stat, Get, Same: walked. -/
import Derived.Test.YtnnbelmpbmfdnaaDoorTree2
namespace Go.Proofs.YtnnbelmpbmfdnaaDoor
open Go
set_option maxRecDepth 100000 in
theorem trstat_spec (t : Nat) (τ : Tr) (p : Bs) (N : Nat) (ho : τ.Ok N) (hN : N ≤ 1099511627776) : Fn Tryd.prog 26 #[vptr t, vstr p] [treeR t τ] fun v L => v = .tuple #[.agg (stC (statD τ p)).toArray, .bool (decide (thereT τ p))] ∧ L = [treeR t τ] := by
  refine Fn.intro (vs := [vptr t, vstr p]) Tryd.func26 rfl rfl ?_
  intro F W
  refine G.trOpen (τ := τ) (by (repeat (first | exact Pick.here | apply Pick.there))) fun rn rs m s hI => ?_
  have hlen := hI.len ho
  have hfew := ho.few
  refine G.seq ?_
  refine G.region ?_
  refine G.op (OpSpec.allocA ze_71) (by (repeat (first | exact Picks.nil | (apply Picks.cons; (repeat (first | exact Pick.here | apply Pick.there)))))) rfl ?nx1
  rintro v L' ⟨b4, rfl, rfl⟩
  refine G.q (Quiet.assign rfl) rfl ?_
  refine G.nil ?_
  refine G.then_n ?_
  refine G.seq ?_
  refine G.region ?_
  rcases hal : alook m p with _ | px
  · refine G.q (Quiet.move rfl) rfl ?_
    refine G.q (Quiet.nilp rfl) rfl ?_
    refine G.q (Quiet.fieldAddr rfl fo_90_0) rfl ?_
    refine G.q (Quiet.load rfl ag_87 (by (repeat (first | exact Pick.here | apply Pick.there))) (rfl)) rfl ?_
    refine G.q (Quiet.move rfl) rfl ?_
    refine G.q (Quiet.lookupN (m := m) (enc := ndV) (KeyLaw.str Tryd.underlying9) (hal) rfl rfl Tryd.underlying87 ze_82 (by (repeat (first | exact Pick.here | apply Pick.there))) rfl) rfl ?_
    refine G.q (Quiet.assign rfl) rfl ?_
    refine G.nil ?_
    refine G.then_n ?_
    refine G.seq ?_
    refine G.seq ?_
    refine G.region ?_
    refine G.q (Quiet.move rfl) rfl ?_
    refine G.q (Quiet.as (v' := .bool true) (by rfl) (Quiet.ptreq rfl rfl Tryd.underlying82)) rfl ?_
    refine G.nil ?_
    refine G.then_n ?_
    refine G.condT rfl ?_
    refine G.seq ?_
    refine G.region ?_
    refine G.q (Quiet.build (us := []) fl_71 ze_71 rfl rfl (by simp [isCell])) rfl ?_
    refine G.op (OpSpec.storeA rfl rfl ?c12 sz_71 ?c15 ?c13 ?c14) (by (repeat (first | exact Picks.nil | (apply Picks.cons; (repeat (first | exact Pick.here | apply Pick.there)))))) rfl ?nx16
    case c12 => (first | (simp [isCell]; done) | (simp [isCell, setAll, Value.cells]; done))
    case c15 => (first | (simp; done) | (simp [setAll, spl, Value.cells]; done))
    case c13 => (first | (simp; done) | (simp [setAll, spl, Value.cells]; done))
    case c14 => exact nfz0 _ _
    rintro v L' rfl
    refine G.q (Quiet.assign rfl) rfl ?_
    refine G.nil ?_
    refine G.then_n ?_
    refine G.ret ?_
    refine G.then_r ?_
    refine G.ptCast (b := b4) (l' := stC (statD τ p)) (by (repeat (first | exact Pick.here | apply Pick.there))) (by rw [hI.stat0 hal]; rfl) ?_
    refine G.trFold (τ := τ) hI (by (repeat (first | exact Picks.nil | (apply Picks.cons; (repeat (first | exact Pick.here | apply Pick.there)))))) rfl rfl rfl ?_
    exact G.done2 rfl (.cellA rfl ag_71 (by (repeat (first | exact Pick.here | apply Pick.there))) (by simp [stC]) rfl) (.tmp rfl) ⟨by rw [decide_eq_false (hI.none_iff.1 hal)]; rfl, rfl⟩ (by (repeat (first | exact Picks.nil | (apply Picks.cons; (repeat (first | exact Pick.here | apply Pick.there)))))) (by (repeat (first | exact Suff.here | apply Suff.there)))
  · refine G.q (Quiet.move rfl) rfl ?_
    refine G.q (Quiet.nilp rfl) rfl ?_
    refine G.q (Quiet.fieldAddr rfl fo_90_0) rfl ?_
    refine G.q (Quiet.load rfl ag_87 (by (repeat (first | exact Pick.here | apply Pick.there))) (rfl)) rfl ?_
    refine G.q (Quiet.move rfl) rfl ?_
    refine G.q (Quiet.lookupY (m := m) (enc := ndV) (KeyLaw.str Tryd.underlying9) (hal) rfl rfl Tryd.underlying87 ze_82 (by (repeat (first | exact Pick.here | apply Pick.there))) rfl) rfl ?_
    refine G.q (Quiet.assign rfl) rfl ?_
    refine G.nil ?_
    refine G.then_n ?_
    refine G.seq ?_
    refine G.seq ?_
    refine G.region ?_
    refine G.q (Quiet.move rfl) rfl ?_
    refine G.q (Quiet.as (v' := .bool false) (by rfl) (Quiet.ptreq rfl rfl Tryd.underlying82)) rfl ?_
    refine G.nil ?_
    refine G.then_n ?_
    refine G.condF rfl ?_
    refine G.skip ?_
    refine G.then_n ?_
    refine G.seq ?_
    refine G.bigTake hal (by (repeat (first | exact Pick.here | apply Pick.there))) ?_
    refine G.ndOpen (x := (p, px)) (by (repeat (first | exact Pick.here | apply Pick.there))) ?_
    refine G.region ?_
    refine G.q (Quiet.move rfl) rfl ?_
    refine G.q (Quiet.nilp rfl) rfl ?_
    refine G.q (Quiet.fieldAddr rfl fo_86_2) rfl ?_
    refine G.q (Quiet.loadAs (vs := stC px.2.2.st) rfl ag_71 (by (repeat (first | exact Pick.here | apply Pick.there))) (by simp [ndC]) rfl) rfl ?_
    refine G.op (OpSpec.allocA ze_71) (by (repeat (first | exact Picks.nil | (apply Picks.cons; (repeat (first | exact Pick.here | apply Pick.there)))))) rfl ?nx28
    rintro v L' ⟨b7, rfl, rfl⟩
    refine G.op (OpSpec.storeA rfl rfl ?c30 sz_71 ?c33 ?c31 ?c32) (by (repeat (first | exact Picks.nil | (apply Picks.cons; (repeat (first | exact Pick.here | apply Pick.there)))))) rfl ?nx34
    case c30 => intro v hv; simp only [stC, List.mem_cons, List.not_mem_nil, or_false] at hv; rcases hv with rfl | rfl | rfl | rfl | rfl | rfl | rfl | rfl | rfl <;> rfl
    case c33 => rfl
    case c31 => simp [stC]
    case c32 => exact nfz0 _ _
    rintro v L' rfl
    refine G.nil ?_
    refine G.ptCast (b := b7) (l' := stC px.2.2.st) (by (repeat (first | exact Pick.here | apply Pick.there))) rfl ?_
    refine G.then_n ?_
    refine G.seq ?_
    refine G.draw [7, 10, 12] [[0, 1, 2, 3, 4, 5, 6, 9, 7, 8, 10], [11, 12]] mixed (by kernel_rfl) ?_
    refine Phases.go [ptc px.1 _ _] (by (repeat (first | exact Picks.nil | (apply Picks.cons; (repeat (first | exact Pick.here | apply Pick.there)))))) ?_
    refine D.q rfl (by kernel_rfl) (Quiet.move rfl) ?_
    refine D.q rfl (by kernel_rfl) (Quiet.nilp rfl) ?_
    refine D.q rfl (by kernel_rfl) (Quiet.fieldAddr rfl fo_86_0) ?_
    refine D.q rfl (by kernel_rfl) (Quiet.load rfl ag_9 (by (repeat (first | exact Pick.here | apply Pick.there))) (rfl)) ?_
    refine D.q rfl (by kernel_rfl) (Quiet.strlen rfl Tryd.underlying9 rfl) ?_
    refine D.qw [7, 8, 10] rfl (by kernel_rfl) (Quiet.move rfl) ?_
    refine D.qw [7, 8, 10] rfl (by kernel_rfl) (Quiet.move rfl) ?_
    refine D.q rfl (by kernel_rfl) (Quiet.fieldAddr rfl fo_71_7) ?_
    refine D.h rfl (by kernel_rfl) (OpSpec.call Tryd.func38 rfl rfl (vs := [_, _]) rfl (trkids0_spec t rn (.map (some rs)) (vint τ.zx) m p (hI.plen ho) (by omega))) (by (repeat (first | exact Picks.nil | (apply Picks.cons; (repeat (first | exact Pick.here | apply Pick.there)))))) ?nx42
    rintro v L' ⟨⟨a5, c5, rfl⟩, rfl⟩
    refine D.q rfl (by kernel_rfl) (Quiet.slen rfl Tryd.underlying78 rfl) ?_
    refine D.h rfl (by kernel_rfl) (OpSpec.store rfl rfl rfl sz_3 ?c45 ?c46) (by (repeat (first | exact Picks.nil | (apply Picks.cons; (repeat (first | exact Pick.here | apply Pick.there)))))) ?nx47
    case c45 => simp [stC]
    case c46 => exact nfz0 _ _
    rintro v L' rfl
    refine D.ph ?_
    refine Phases.go [] (by (repeat (first | exact Picks.nil | (apply Picks.cons; (repeat (first | exact Pick.here | apply Pick.there)))))) ?_
    refine D.qw [12] rfl (by kernel_rfl) (Quiet.fieldAddr rfl fo_71_8) ?_
    refine D.h rfl (by kernel_rfl) (OpSpec.store rfl rfl rfl sz_3 ?c49 ?c50) (by (repeat (first | exact Picks.nil | (apply Picks.cons; (repeat (first | exact Pick.here | apply Pick.there)))))) ?nx51
    case c49 => simp [stC]
    case c50 => exact nfz0 _ _
    rintro v L' rfl
    refine D.ph ?_
    refine Phases.fin ?_
    refine G.ptCast (b := b7) (l' := stC (statD τ p)) (by (repeat (first | exact Pick.here | apply Pick.there))) (by rw [hI.stat hal, ← hI.kids ho p, sortS_length]; rfl) ?_
    refine G.then_n ?_
    refine G.seq ?_
    refine G.region ?_
    refine G.q (Quiet.loadAs (vs := stC (statD τ p)) rfl ag_71 (by (repeat (first | exact Pick.here | apply Pick.there))) (by simp [stC]) rfl) rfl ?_
    refine G.op (OpSpec.storeA rfl rfl ?c53 sz_71 ?c56 ?c54 ?c55) (by (repeat (first | exact Picks.nil | (apply Picks.cons; (repeat (first | exact Pick.here | apply Pick.there)))))) rfl ?nx57
    case c53 => intro v hv; simp only [stC, List.mem_cons, List.not_mem_nil, or_false] at hv; rcases hv with rfl | rfl | rfl | rfl | rfl | rfl | rfl | rfl | rfl <;> rfl
    case c56 => rfl
    case c54 => simp [stC]
    case c55 => exact nfz0 _ _
    rintro v L' rfl
    refine G.q (Quiet.assign rfl) rfl ?_
    refine G.nil ?_
    refine G.then_n ?_
    refine G.ret ?_
    refine G.ptCast (b := b4) (l' := stC (statD τ p)) (by (repeat (first | exact Pick.here | apply Pick.there))) rfl ?_
    refine G.ndFold (x := (p, px)) (by (repeat (first | exact Picks.nil | (apply Picks.cons; (repeat (first | exact Pick.here | apply Pick.there)))))) rfl rfl rfl rfl ?_
    refine G.bigPut (f := inN) (m := m) p px rfl (by (repeat (first | exact Picks.nil | (apply Picks.cons; (repeat (first | exact Pick.here | apply Pick.there)))))) ?_
    rw [aset_self hal]
    refine G.trFold (τ := τ) hI (by (repeat (first | exact Picks.nil | (apply Picks.cons; (repeat (first | exact Pick.here | apply Pick.there)))))) rfl rfl rfl ?_
    exact G.done2 rfl (.cellA rfl ag_71 (by (repeat (first | exact Pick.here | apply Pick.there))) (by simp [stC]) rfl) (.tmp rfl) ⟨by rw [decide_eq_true (hI.some_iff hal)]; rfl, rfl⟩ (by (repeat (first | exact Picks.nil | (apply Picks.cons; (repeat (first | exact Pick.here | apply Pick.there)))))) (by (repeat (first | exact Suff.here | apply Suff.there)))

set_option maxRecDepth 100000 in
theorem trget_spec (t : Nat) (τ : Tr) (p : Bs) (N : Nat) (ho : τ.Ok N) (hN : N ≤ 1099511627776) : Fn Tryd.prog 25 #[vptr t, vstr p] [treeR t τ] fun v L => v = .tuple #[vstr (dataD τ p), .agg (stC (statD τ p)).toArray, vint (if thereT τ p then 0 else 60)] ∧ L = [treeR t τ] := by
  refine Fn.intro (vs := [vptr t, vstr p]) Tryd.func25 rfl rfl ?_
  intro F W
  refine G.seq ?_
  refine G.region ?_
  refine G.q (Quiet.assign rfl) rfl ?_
  refine G.op (OpSpec.allocA ze_71) (by (repeat (first | exact Picks.nil | (apply Picks.cons; (repeat (first | exact Pick.here | apply Pick.there)))))) rfl ?nx2
  rintro v L' ⟨b5, rfl, rfl⟩
  refine G.q (Quiet.assign rfl) rfl ?_
  refine G.nil ?_
  refine G.then_n ?_
  refine G.seq ?_
  refine G.region ?_
  refine G.q (Quiet.move rfl) rfl ?_
  refine G.q (Quiet.move rfl) rfl ?_
  refine G.op (OpSpec.call Tryd.func26 rfl rfl (vs := [_, _]) rfl (trstat_spec t τ p N ho hN)) (by (repeat (first | exact Picks.nil | (apply Picks.cons; (repeat (first | exact Pick.here | apply Pick.there)))))) rfl ?nx7
  rintro v L' ⟨rfl, rfl⟩
  refine G.q (Quiet.move rfl) rfl ?_
  refine G.q (Quiet.extract rfl rfl) rfl ?_
  refine G.q (Quiet.extract rfl rfl) rfl ?_
  refine G.op (OpSpec.allocA ze_71) (by (repeat (first | exact Picks.nil | (apply Picks.cons; (repeat (first | exact Pick.here | apply Pick.there)))))) rfl ?nx11
  rintro v L' ⟨b7, rfl, rfl⟩
  refine G.op (OpSpec.storeA rfl rfl ?c13 sz_71 ?c16 ?c14 ?c15) (by (repeat (first | exact Picks.nil | (apply Picks.cons; (repeat (first | exact Pick.here | apply Pick.there)))))) rfl ?nx17
  case c13 => intro v hv; simp only [stC, List.mem_cons, List.not_mem_nil, or_false] at hv; rcases hv with rfl | rfl | rfl | rfl | rfl | rfl | rfl | rfl | rfl <;> rfl
  case c16 => rfl
  case c14 => simp [stC]
  case c15 => exact nfz0 _ _
  rintro v L' rfl
  refine G.q (Quiet.assign rfl) rfl ?_
  refine G.nil ?_
  refine G.ptCast (b := b7) (l' := stC (statD τ p)) (by (repeat (first | exact Pick.here | apply Pick.there))) rfl ?_
  refine G.then_n ?_
  refine G.seq ?_
  refine G.seq ?_
  refine G.region ?_
  refine G.q (Quiet.move rfl) rfl ?_
  refine G.q (Quiet.not rfl) rfl ?_
  refine G.nil ?_
  refine G.then_n ?_
  refine G.condN rfl (fun h16 => ?_) (fun h16 => ?_)
  · refine G.seq ?_
    refine G.region ?_
    refine G.q (Quiet.build (us := []) fl_71 ze_71 rfl rfl (by simp [isCell])) rfl ?_
    refine G.q (Quiet.assign rfl) rfl ?_
    refine G.op (OpSpec.storeA rfl rfl ?c21 sz_71 ?c24 ?c22 ?c23) (by (repeat (first | exact Picks.nil | (apply Picks.cons; (repeat (first | exact Pick.here | apply Pick.there)))))) rfl ?nx25
    case c21 => (first | (simp [isCell]; done) | (simp [isCell, setAll, Value.cells]; done))
    case c24 => (first | (simp; done) | (simp [setAll, spl, Value.cells]; done))
    case c22 => (first | (simp; done) | (simp [setAll, spl, Value.cells]; done))
    case c23 => exact nfz0 _ _
    rintro v L' rfl
    refine G.q (Quiet.assign rfl) rfl ?_
    refine G.nil ?_
    refine G.then_n ?_
    refine G.ret ?_
    refine G.then_r ?_
    refine G.ptCast (b := b5) (l' := stC (statD τ p)) (by (repeat (first | exact Pick.here | apply Pick.there))) (by rw [show statD τ p = st0 by unfold statD statZ; unfold thereT at h16; cases e : alook τ.nodes p with | none => rfl | some y => rw [e] at h16; exact absurd rfl h16]; rfl) ?_
    exact G.done3 rfl (.tmp rfl) (.cellA rfl ag_71 (by (repeat (first | exact Pick.here | apply Pick.there))) (by simp [stC]) rfl) (.tmp rfl) ⟨by rw [if_neg h16, show dataD τ p = [] by unfold dataD; unfold thereT at h16; cases e : alook τ.nodes p with | none => rfl | some y => rw [e] at h16; exact absurd rfl h16]; rfl, rfl⟩ (by (repeat (first | exact Picks.nil | (apply Picks.cons; (repeat (first | exact Pick.here | apply Pick.there)))))) (by (repeat (first | exact Suff.here | apply Suff.there)))
  · refine G.skip ?_
    refine G.then_n ?_
    refine G.seq ?_
    refine G.trOpen (τ := τ) (by (repeat (first | exact Pick.here | apply Pick.there))) fun rn rs m s hI => ?_
    obtain ⟨px, hal⟩ : ∃ px, alook m p = some px := by rcases h : alook m p with _ | y; exact absurd h16 (hI.none_iff.1 h); exact ⟨y, rfl⟩
    refine G.bigTake hal (by (repeat (first | exact Pick.here | apply Pick.there))) ?_
    refine G.ndOpen (x := (p, px)) (by (repeat (first | exact Pick.here | apply Pick.there))) ?_
    refine G.draw [11] [[0, 1, 2, 3, 4, 5, 6, 7, 8, 9, 10, 11], [12]] mixed (by kernel_rfl) ?_
    refine Phases.go [] (by (repeat (first | exact Picks.nil | (apply Picks.cons; (repeat (first | exact Pick.here | apply Pick.there)))))) ?_
    refine D.qw [1, 2, 3, 5, 6, 7, 8, 10, 11] rfl (by kernel_rfl) (Quiet.move rfl) ?_
    refine D.qw [2, 3, 5, 6, 7, 8, 10, 11] rfl (by kernel_rfl) (Quiet.nilp rfl) ?_
    refine D.qw [3, 5, 6, 7, 8, 10, 11] rfl (by kernel_rfl) (Quiet.fieldAddr rfl fo_90_0) ?_
    refine D.qw [5, 6, 7, 8, 10, 11] rfl (by kernel_rfl) (Quiet.load rfl ag_87 (by (repeat (first | exact Pick.here | apply Pick.there))) (rfl)) ?_
    refine D.qw [5, 6, 7, 8, 10, 11] rfl (by kernel_rfl) (Quiet.move rfl) ?_
    refine D.qw [6, 7, 8, 10, 11] rfl (by kernel_rfl) (Quiet.lookupY (m := m) (enc := ndV) (KeyLaw.str Tryd.underlying9) (hal) rfl rfl Tryd.underlying87 ze_82 (by (repeat (first | exact Pick.here | apply Pick.there))) rfl) ?_
    refine D.qw [7, 8, 10, 11] rfl (by kernel_rfl) (Quiet.nilp rfl) ?_
    refine D.qw [8, 10, 11] rfl (by kernel_rfl) (Quiet.fieldAddr rfl fo_86_0) ?_
    refine D.qw [10, 11] rfl (by kernel_rfl) (Quiet.load rfl ag_9 (by (repeat (first | exact Pick.here | apply Pick.there))) (rfl)) ?_
    refine D.qw [11] rfl (by kernel_rfl) (Quiet.loadAs (vs := stC (statD τ p)) rfl ag_71 (by (repeat (first | exact Pick.here | apply Pick.there))) (by simp [stC]) rfl) ?_
    refine D.qw [11] rfl (by kernel_rfl) (Quiet.assign rfl) ?_
    refine D.h rfl (by kernel_rfl) (OpSpec.storeA rfl rfl ?c37 sz_71 ?c40 ?c38 ?c39) (by (repeat (first | exact Picks.nil | (apply Picks.cons; (repeat (first | exact Pick.here | apply Pick.there)))))) ?nx41
    case c37 => intro v hv; simp only [stC, List.mem_cons, List.not_mem_nil, or_false] at hv; rcases hv with rfl | rfl | rfl | rfl | rfl | rfl | rfl | rfl | rfl <;> rfl
    case c40 => rfl
    case c38 => simp [stC]
    case c39 => exact nfz0 _ _
    rintro v L' rfl
    refine D.ph ?_
    refine Phases.go [] (by (repeat (first | exact Picks.nil | (apply Picks.cons; (repeat (first | exact Pick.here | apply Pick.there)))))) ?_
    refine D.qw [] rfl (by kernel_rfl) (Quiet.assign rfl) ?_
    refine D.ph ?_
    refine Phases.fin ?_
    refine G.then_n ?_
    refine G.ret ?_
    refine G.ptCast (b := b5) (l' := stC (statD τ p)) (by (repeat (first | exact Pick.here | apply Pick.there))) rfl ?_
    refine G.ndFold (x := (p, px)) (by (repeat (first | exact Picks.nil | (apply Picks.cons; (repeat (first | exact Pick.here | apply Pick.there)))))) rfl rfl rfl rfl ?_
    refine G.bigPut (f := inN) (m := m) p px rfl (by (repeat (first | exact Picks.nil | (apply Picks.cons; (repeat (first | exact Pick.here | apply Pick.there)))))) ?_
    rw [aset_self hal]
    refine G.trFold (τ := τ) hI (by (repeat (first | exact Picks.nil | (apply Picks.cons; (repeat (first | exact Pick.here | apply Pick.there)))))) rfl rfl rfl ?_
    exact G.done3 rfl (.tmp rfl) (.cellA rfl ag_71 (by (repeat (first | exact Pick.here | apply Pick.there))) (by simp [stC]) rfl) (.tmp rfl) ⟨by rw [if_pos h16, show dataD τ p = px.2.2.data by unfold dataD; rw [hI.at hal]; rfl]; rfl, rfl⟩ (by (repeat (first | exact Picks.nil | (apply Picks.cons; (repeat (first | exact Pick.here | apply Pick.there)))))) (by (repeat (first | exact Suff.here | apply Suff.there)))

set_option maxRecDepth 100000 in
theorem aclequal_spec (va vb : Value) (xs ys : List Ac) (hn : xs.length ≤ 1048576) : Fn Tryd.prog 34 #[va, vb] [rdO 2 va xs.length (xs.flatMap acC), rdO 2 vb ys.length (ys.flatMap acC)] fun v L => v = .bool (decide (xs = ys)) ∧ L = [rdO 2 va xs.length (xs.flatMap acC), rdO 2 vb ys.length (ys.flatMap acC)] := by
  refine Fn.intro (vs := [va, vb]) Tryd.func34 rfl rfl ?_
  intro F W
  refine G.rdAny (p := rdO 2 va xs.length (xs.flatMap acC)) (fun h hp => hp) (by (repeat (first | exact Pick.here | apply Pick.there))) fun aa ca e0 _ => ?_
  subst e0
  refine G.rdAny (p := rdO 2 vb ys.length (ys.flatMap acC)) (fun h hp => hp) (by (repeat (first | exact Pick.here | apply Pick.there))) fun ab cb e0 _ => ?_
  subst e0
  refine G.seq ?_
  refine G.region ?_
  refine G.q (Quiet.assign rfl) rfl ?_
  refine G.nil ?_
  refine G.then_n ?_
  refine G.seq ?_
  refine G.seq ?_
  refine G.region ?_
  refine G.q (Quiet.move rfl) rfl ?_
  refine G.q (Quiet.slen rfl Tryd.underlying47 rfl) rfl ?_
  refine G.q (Quiet.move rfl) rfl ?_
  refine G.q (Quiet.slen rfl Tryd.underlying47 rfl) rfl ?_
  refine G.q (Quiet.int rfl rfl rfl) rfl ?_
  refine G.nil ?_
  refine G.then_n ?_
  refine G.condN rfl (fun h10 => ?_) (fun h10 => ?_)
  · refine G.seq ?_
    refine G.region ?_
    refine G.q (Quiet.assign rfl) rfl ?_
    refine G.nil ?_
    refine G.then_n ?_
    refine G.ret ?_
    refine G.then_r ?_
    exact G.done (l := [.tmp 4]) rfl rfl ⟨by rw [decide_eq_false (fun e => h10 (by rw [e]))], rfl⟩ (by (repeat (first | exact Picks.nil | (apply Picks.cons; (repeat (first | exact Pick.here | apply Pick.there)))))) (by (repeat (first | exact Suff.here | apply Suff.there)))
  · have hlen : xs.length = ys.length := by omega
    refine G.skip ?_
    refine G.then_n ?_
    refine G.seq ?_
    refine G.seq ?_
    refine G.region ?_
    refine G.q (Quiet.move rfl) rfl ?_
    refine G.q (Quiet.slen rfl Tryd.underlying47 rfl) rfl ?_
    refine G.q (Quiet.move rfl) rfl ?_
    refine G.nil ?_
    refine G.then_n ?_
    refine G.block ?_
    refine G.loopK (ι := Nat) (fun q E => (13, vint q) :: E) (fun q => []) (fun q => q ≤ xs.length ∧ xs.take q = ys.take q) (fun q => xs.length - q) (0) (ts := [0, 1, 12]) (.cons rfl (.cons rfl (.cons rfl (.nil)))) (⟨Nat.zero_le _, rfl⟩) ⟨rfl, rfl, rfl, rfl, trivial⟩ (by (repeat (first | exact Picks.nil | (apply Picks.cons; (repeat (first | exact Pick.here | apply Pick.there)))))) ?_
    rintro i ⟨hi, hpre⟩
    refine G.seq ?_
    refine G.region ?_
    refine G.q (Quiet.int rfl rfl rfl) rfl ?_
    refine G.nil ?_
    refine G.then_n ?_
    refine G.seq ?_
    refine G.condD rfl (fun h14 => ?_) (fun h14 => ?_)
    · have hi2 : i < xs.length := by omega
      have hi3 : i < ys.length := by omega
      refine G.rdShape (p := rdO 2 _ xs.length (xs.flatMap acC)) (fun h hp => hp) (by (repeat (first | exact Pick.here | apply Pick.there))) (by omega) fun ba oa e0 => ?_
      subst e0
      refine G.rdShape (p := rdO 2 (.slice ab ys.length cb) ys.length (ys.flatMap acC)) (fun h hp => hp) (by (repeat (first | exact Pick.here | apply Pick.there))) (by omega) fun bb ob e0 => ?_
      subst e0
      refine G.skip ?_
      refine G.then_n ?_
      refine G.seq ?_
      refine G.block ?_
      refine G.seq ?_
      refine G.region ?_
      refine G.q (Quiet.move rfl) rfl ?_
      refine G.q (Quiet.assign rfl) rfl ?_
      refine G.nil ?_
      refine G.then_n ?_
      refine G.seq ?_
      refine G.draw [] [[0, 1, 2, 3, 4, 5, 6, 7, 8]] mixed (by kernel_rfl) ?_
      refine Phases.go [] (by (repeat (first | exact Picks.nil | (apply Picks.cons; (repeat (first | exact Pick.here | apply Pick.there)))))) ?_
      refine D.qw [2, 3, 8] rfl (by kernel_rfl) (Quiet.move rfl) ?_
      refine D.qw [2, 3, 8] rfl (by kernel_rfl) (Quiet.move rfl) ?_
      refine D.qw [3, 8] rfl (by kernel_rfl) (Quiet.indexAddr rfl rfl el_47 (by omega)) ?_
      refine D.qw [8] rfl (by kernel_rfl) (Quiet.loadRdA (sz := 2) (j := i * 2) (k := 2) (p := rdO 2 _ xs.length (xs.flatMap acC)) (vs := acC xs[i]) rfl ag_84 (by (repeat (first | exact Pick.here | apply Pick.there))) (fun h hp => hp) (by simp) (by omega) (by omega) (flatMap_at (f := acC) (sz := 2) (fun _ _ => rfl) (by omega))) ?_
      refine D.qw [6, 7, 8] rfl (by kernel_rfl) (Quiet.move rfl) ?_
      refine D.qw [6, 7, 8] rfl (by kernel_rfl) (Quiet.move rfl) ?_
      refine D.qw [7, 8] rfl (by kernel_rfl) (Quiet.indexAddr rfl rfl el_47 (by omega)) ?_
      refine D.qw [8] rfl (by kernel_rfl) (Quiet.loadRdA (sz := 2) (j := i * 2) (k := 2) (p := rdO 2 _ ys.length (ys.flatMap acC)) (vs := acC ys[i]) rfl ag_84 (by (repeat (first | exact Pick.here | apply Pick.there))) (fun h hp => hp) (by simp) (by omega) (by omega) (flatMap_at (f := acC) (sz := 2) (fun _ _ => rfl) (by omega))) ?_
      refine D.qw [] rfl (by kernel_rfl) (Quiet.structNe (r := decide (xs[i] = ys[i])) rfl rfl (by kernel_rfl) (ac_eq 9998 _ _)) ?_
      refine D.ph ?_
      refine Phases.fin ?_
      refine G.then_n ?_
      refine G.condN rfl (fun h24 => ?_) (fun h24 => ?_)
      · refine G.seq ?_
        refine G.region ?_
        refine G.q (Quiet.assign rfl) rfl ?_
        refine G.nil ?_
        refine G.then_n ?_
        refine G.ret ?_
        refine G.blk_r ?_
        refine G.then_r ?_
        refine G.then_r ?_
        refine G.blk_r ?_
        refine G.then_r ?_
        exact G.done (l := [.tmp 4]) rfl rfl ⟨by rw [decide_eq_false (fun e => h24 (by simp only [e]))], rfl⟩ (by (repeat (first | exact Picks.nil | (apply Picks.cons; (repeat (first | exact Pick.here | apply Pick.there)))))) (by (repeat (first | exact Suff.here | apply Suff.there)))
      · refine G.skip ?_
        refine G.blk_n ?_
        refine G.then_n ?_
        refine G.region ?_
        refine G.q (Quiet.add rfl rfl (by omega)) rfl ?_
        refine G.q (Quiet.move rfl) rfl ?_
        refine G.nil ?_
        refine G.then_n ?_
        exact G.roundK (i + 1) (⟨by omega, by rw [List.take_succ_eq_append_getElem hi2, List.take_succ_eq_append_getElem hi3, hpre, h24]⟩) (by omega) ⟨rfl, rfl, rfl, rfl, trivial⟩ (by (repeat (first | exact Picks.nil | (apply Picks.cons; (repeat (first | exact Pick.here | apply Pick.there)))))) (by ((repeat (apply Have.cons; (repeat (first | exact Pick.here | apply Pick.there)))); apply Have.base; repeat (first | exact Suff.here | apply Suff.there)))
    · refine G.exit ?_
      refine G.then_e ?_
      refine G.then_e ?_
      refine G.blk_e ?_
      refine G.then_n ?_
      refine G.seq ?_
      refine G.region ?_
      refine G.q (Quiet.assign rfl) rfl ?_
      refine G.nil ?_
      refine G.then_n ?_
      refine G.ret ?_
      exact G.done (l := [.tmp 4]) rfl rfl ⟨by rw [decide_eq_true (by have hii : i = xs.length := (by omega); rw [hii, List.take_length] at hpre; rw [hlen, List.take_length] at hpre; exact hpre)], rfl⟩ (by (repeat (first | exact Picks.nil | (apply Picks.cons; (repeat (first | exact Pick.here | apply Pick.there)))))) (by (repeat (first | exact Suff.here | apply Suff.there)))

theorem nd_ext {a b : Nd} (h1 : a.data = b.data) (h2 : a.acl = b.acl) (h3 : a.st = b.st) : a = b := by cases a; cases b; cases h1; cases h2; cases h3; rfl
set_option maxRecDepth 100000 in
theorem trsame1_spec (a b : Bs) (px py : Nm) (hn : px.2.2.acl.length ≤ 1048576) : Fn Tryd.prog 33 #[vptr px.1, vptr py.1] [inN (a, px), inN (b, py)] fun v L => v = .bool (decide (px.2.2 = py.2.2)) ∧ L = [inN (a, px), inN (b, py)] := by
  refine Fn.intro (vs := [vptr px.1, vptr py.1]) Tryd.func33 rfl rfl ?_
  intro F W
  refine G.ndOpen (x := (a, px)) (by (repeat (first | exact Pick.here | apply Pick.there))) ?_
  refine G.ndOpen (x := (b, py)) (by (repeat (first | exact Pick.here | apply Pick.there))) ?_
  refine G.seq ?_
  refine G.region ?_
  refine G.q (Quiet.assign rfl) rfl ?_
  refine G.nil ?_
  refine G.then_n ?_
  refine G.seq ?_
  refine G.draw [] [[0, 1, 2, 3, 4, 5, 6, 7, 8, 9, 10, 11, 12, 13, 14, 15, 16, 17, 18, 19, 20, 21, 22, 23, 24, 25, 26, 27, 28, 29, 30, 31]] mixed (by kernel_rfl) ?_
  refine Phases.go [ptc px.1 _ _, ptc py.1 _ _, rdO 2 px.2.1 _ _, rdO 2 py.2.1 _ _] (by (repeat (first | exact Picks.nil | (apply Picks.cons; (repeat (first | exact Pick.here | apply Pick.there)))))) ?_
  refine D.qw [1, 2, 3, 8, 9, 10, 11, 12, 13, 14, 15, 16, 17, 18, 19, 20, 21, 22, 23, 24, 25, 26, 27, 28, 29, 30, 31] rfl (by kernel_rfl) (Quiet.move rfl) ?_
  refine D.qw [2, 3, 8, 9, 10, 11, 12, 13, 14, 15, 16, 17, 18, 19, 20, 21, 22, 23, 24, 25, 26, 27, 28, 29, 30, 31] rfl (by kernel_rfl) (Quiet.nilp rfl) ?_
  refine D.qw [3, 8, 9, 10, 11, 12, 13, 14, 15, 16, 17, 18, 19, 20, 21, 22, 23, 24, 25, 26, 27, 28, 29, 30, 31] rfl (by kernel_rfl) (Quiet.fieldAddr rfl fo_86_0) ?_
  refine D.qw [8, 9, 10, 11, 12, 13, 14, 15, 16, 17, 18, 19, 20, 21, 22, 23, 24, 25, 26, 27, 28, 29, 30, 31] rfl (by kernel_rfl) (Quiet.load rfl ag_9 (by (repeat (first | exact Pick.here | apply Pick.there))) (rfl)) ?_
  refine D.qw [5, 6, 7, 8, 9, 10, 11, 12, 13, 14, 15, 16, 17, 18, 19, 20, 21, 22, 23, 24, 25, 26, 27, 28, 29, 30, 31] rfl (by kernel_rfl) (Quiet.move rfl) ?_
  refine D.qw [6, 7, 8, 9, 10, 11, 12, 13, 14, 15, 16, 17, 18, 19, 20, 21, 22, 23, 24, 25, 26, 27, 28, 29, 30, 31] rfl (by kernel_rfl) (Quiet.nilp rfl) ?_
  refine D.qw [7, 8, 9, 10, 11, 12, 13, 14, 15, 16, 17, 18, 19, 20, 21, 22, 23, 24, 25, 26, 27, 28, 29, 30, 31] rfl (by kernel_rfl) (Quiet.fieldAddr rfl fo_86_0) ?_
  refine D.qw [8, 9, 10, 11, 12, 13, 14, 15, 16, 17, 18, 19, 20, 21, 22, 23, 24, 25, 26, 27, 28, 29, 30, 31] rfl (by kernel_rfl) (Quiet.load rfl ag_9 (by (repeat (first | exact Pick.here | apply Pick.there))) (rfl)) ?_
  refine D.qw [9, 10, 11, 12, 13, 14, 15, 16, 17, 18, 19, 20, 21, 22, 23, 24, 25, 26, 27, 28, 29, 30, 31] rfl (by kernel_rfl) (Quiet.streq rfl rfl) ?_
  refine D.qw [10, 11, 12, 13, 14, 15, 16, 17, 18, 19, 20, 21, 22, 23, 24, 25, 26, 27, 28, 29, 30, 31] rfl (by kernel_rfl) (Quiet.move rfl) ?_
  refine D.dec (t := 14) rfl (fun h1_14 => ?_) (fun h1_14 => ?_)
  · refine D.kDT (t := 13) rfl h1_14 ?_
    refine D.gqw [11, 12, 13, 18, 19, 20, 21, 22, 23, 24, 25, 26, 27, 28, 29, 30, 31] (t := 14) rfl rfl rfl (by kernel_rfl) (Quiet.move rfl) ?_
    refine D.gqw [12, 13, 18, 19, 20, 21, 22, 23, 24, 25, 26, 27, 28, 29, 30, 31] (t := 14) rfl rfl rfl (by kernel_rfl) (Quiet.nilp rfl) ?_
    refine D.gqw [13, 18, 19, 20, 21, 22, 23, 24, 25, 26, 27, 28, 29, 30, 31] (t := 14) rfl rfl rfl (by kernel_rfl) (Quiet.fieldAddr rfl fo_86_2) ?_
    refine D.gqw [18, 19, 20, 21, 22, 23, 24, 25, 26, 27, 28, 29, 30, 31] (t := 14) rfl rfl rfl (by kernel_rfl) (Quiet.loadAs (vs := stC px.2.2.st) rfl ag_71 (by (repeat (first | exact Pick.here | apply Pick.there))) (by simp [ndC]) rfl) ?_
    refine D.gqw [15, 16, 17, 18, 19, 20, 21, 22, 23, 24, 25, 26, 27, 28, 29, 30, 31] (t := 14) rfl rfl rfl (by kernel_rfl) (Quiet.move rfl) ?_
    refine D.gqw [16, 17, 18, 19, 20, 21, 22, 23, 24, 25, 26, 27, 28, 29, 30, 31] (t := 14) rfl rfl rfl (by kernel_rfl) (Quiet.nilp rfl) ?_
    refine D.gqw [17, 18, 19, 20, 21, 22, 23, 24, 25, 26, 27, 28, 29, 30, 31] (t := 14) rfl rfl rfl (by kernel_rfl) (Quiet.fieldAddr rfl fo_86_2) ?_
    refine D.gqw [18, 19, 20, 21, 22, 23, 24, 25, 26, 27, 28, 29, 30, 31] (t := 14) rfl rfl rfl (by kernel_rfl) (Quiet.loadAs (vs := stC py.2.2.st) rfl ag_71 (by (repeat (first | exact Pick.here | apply Pick.there))) (by simp [ndC]) rfl) ?_
    refine D.gqw [19, 20, 21, 22, 23, 24, 25, 26, 27, 28, 29, 30, 31] (t := 14) rfl rfl rfl (by kernel_rfl) (Quiet.structEq (r := decide (px.2.2.st = py.2.2.st)) rfl rfl (by kernel_rfl) (st_eq 9998 _ _)) ?_
    refine D.qw [20, 21, 22, 23, 24, 25, 26, 27, 28, 29, 30, 31] rfl (by kernel_rfl) (Quiet.pickT rfl rfl) ?_
    refine D.qw [21, 22, 23, 24, 25, 26, 27, 28, 29, 30, 31] rfl (by kernel_rfl) (Quiet.move rfl) ?_
    refine D.dec (t := 25) rfl (fun h1_25 => ?_) (fun h1_25 => ?_)
    · refine D.kDT (t := 23) rfl h1_25 ?_
      refine D.kDT (t := 24) rfl h1_25 ?_
      refine D.gqw [22, 23, 24, 29, 30, 31] (t := 25) rfl rfl rfl (by kernel_rfl) (Quiet.move rfl) ?_
      refine D.gqw [23, 24, 29, 30, 31] (t := 25) rfl rfl rfl (by kernel_rfl) (Quiet.nilp rfl) ?_
      refine D.gqw [24, 29, 30, 31] (t := 25) rfl rfl rfl (by kernel_rfl) (Quiet.fieldAddr rfl fo_86_1) ?_
      refine D.gqw [29, 30, 31] (t := 25) rfl rfl rfl (by kernel_rfl) (Quiet.load rfl ag_47 (by (repeat (first | exact Pick.here | apply Pick.there))) (rfl)) ?_
      refine D.gqw [26, 27, 28, 29, 30, 31] (t := 25) rfl rfl rfl (by kernel_rfl) (Quiet.move rfl) ?_
      refine D.gqw [27, 28, 29, 30, 31] (t := 25) rfl rfl rfl (by kernel_rfl) (Quiet.nilp rfl) ?_
      refine D.gqw [28, 29, 30, 31] (t := 25) rfl rfl rfl (by kernel_rfl) (Quiet.fieldAddr rfl fo_86_1) ?_
      refine D.gqw [29, 30, 31] (t := 25) rfl rfl rfl (by kernel_rfl) (Quiet.load rfl ag_47 (by (repeat (first | exact Pick.here | apply Pick.there))) (rfl)) ?_
      refine D.gm (t := 25) rfl rfl rfl (by kernel_rfl) (OpSpec.call Tryd.func34 rfl rfl (vs := [_, _]) rfl (aclequal_spec px.2.1 py.2.1 px.2.2.acl py.2.2.acl hn)) (by (repeat (first | exact Picks.nil | (apply Picks.cons; (repeat (first | exact Pick.here | apply Pick.there)))))) ?nx28
      refine D.qw [31] rfl (by kernel_rfl) (Quiet.pickT rfl rfl) ?_
      refine D.qw [] rfl (by kernel_rfl) (Quiet.assign rfl) ?_
      refine D.ph ?_
      refine Phases.fin ?_
      refine G.then_n ?_
      refine G.ret ?_
      refine G.ndFold (x := (a, px)) (by (repeat (first | exact Picks.nil | (apply Picks.cons; (repeat (first | exact Pick.here | apply Pick.there)))))) rfl rfl rfl rfl ?_
      refine G.ndFold (x := (b, py)) (by (repeat (first | exact Picks.nil | (apply Picks.cons; (repeat (first | exact Pick.here | apply Pick.there)))))) rfl rfl rfl rfl ?_
      exact G.done (l := [.tmp 4]) rfl rfl ⟨by congr 1; exact decide_eq_decide.2 ⟨fun e => nd_ext h1_14 e h1_25, fun e => by rw [e]⟩, rfl⟩ (by (repeat (first | exact Picks.nil | (apply Picks.cons; (repeat (first | exact Pick.here | apply Pick.there)))))) (by (repeat (first | exact Suff.here | apply Suff.there)))
    · refine D.kDF (t := 23) rfl h1_25 ?_
      refine D.kDF (t := 24) rfl h1_25 ?_
      refine D.gs (t := 25) rfl rfl rfl rfl (by kernel_rfl) ?_
      refine D.gs (t := 25) rfl rfl rfl rfl (by kernel_rfl) ?_
      refine D.gs (t := 25) rfl rfl rfl rfl (by kernel_rfl) ?_
      refine D.gs (t := 25) rfl rfl rfl rfl (by kernel_rfl) ?_
      refine D.gs (t := 25) rfl rfl rfl rfl (by kernel_rfl) ?_
      refine D.gs (t := 25) rfl rfl rfl rfl (by kernel_rfl) ?_
      refine D.gs (t := 25) rfl rfl rfl rfl (by kernel_rfl) ?_
      refine D.gs (t := 25) rfl rfl rfl rfl (by kernel_rfl) ?_
      refine D.gs (t := 25) rfl rfl rfl rfl (by kernel_rfl) ?_
      refine D.qw [31] rfl (by kernel_rfl) (Quiet.pickF rfl rfl) ?_
      refine D.qw [] rfl (by kernel_rfl) (Quiet.assign rfl) ?_
      refine D.ph ?_
      refine Phases.fin ?_
      refine G.then_n ?_
      refine G.ret ?_
      refine G.ndFold (x := (a, px)) (by (repeat (first | exact Picks.nil | (apply Picks.cons; (repeat (first | exact Pick.here | apply Pick.there)))))) rfl rfl rfl rfl ?_
      refine G.ndFold (x := (b, py)) (by (repeat (first | exact Picks.nil | (apply Picks.cons; (repeat (first | exact Pick.here | apply Pick.there)))))) rfl rfl rfl rfl ?_
      exact G.done (l := [.tmp 4]) rfl rfl ⟨by rw [decide_eq_false (fun e => h1_25 (by rw [e]))], rfl⟩ (by (repeat (first | exact Picks.nil | (apply Picks.cons; (repeat (first | exact Pick.here | apply Pick.there)))))) (by (repeat (first | exact Suff.here | apply Suff.there)))
  · refine D.kDF (t := 13) rfl h1_14 ?_
    refine D.gs (t := 14) rfl rfl rfl rfl (by kernel_rfl) ?_
    refine D.gs (t := 14) rfl rfl rfl rfl (by kernel_rfl) ?_
    refine D.gs (t := 14) rfl rfl rfl rfl (by kernel_rfl) ?_
    refine D.gs (t := 14) rfl rfl rfl rfl (by kernel_rfl) ?_
    refine D.gs (t := 14) rfl rfl rfl rfl (by kernel_rfl) ?_
    refine D.gs (t := 14) rfl rfl rfl rfl (by kernel_rfl) ?_
    refine D.gs (t := 14) rfl rfl rfl rfl (by kernel_rfl) ?_
    refine D.gs (t := 14) rfl rfl rfl rfl (by kernel_rfl) ?_
    refine D.gs (t := 14) rfl rfl rfl rfl (by kernel_rfl) ?_
    refine D.qw [20, 21, 22, 23, 24, 25, 26, 27, 28, 29, 30, 31] rfl (by kernel_rfl) (Quiet.pickF rfl rfl) ?_
    refine D.qw [21, 22, 23, 24, 25, 26, 27, 28, 29, 30, 31] rfl (by kernel_rfl) (Quiet.move rfl) ?_
    refine D.gs (t := 25) rfl rfl rfl rfl (by kernel_rfl) ?_
    refine D.gs (t := 25) rfl rfl rfl rfl (by kernel_rfl) ?_
    refine D.gs (t := 25) rfl rfl rfl rfl (by kernel_rfl) ?_
    refine D.gs (t := 25) rfl rfl rfl rfl (by kernel_rfl) ?_
    refine D.gs (t := 25) rfl rfl rfl rfl (by kernel_rfl) ?_
    refine D.gs (t := 25) rfl rfl rfl rfl (by kernel_rfl) ?_
    refine D.gs (t := 25) rfl rfl rfl rfl (by kernel_rfl) ?_
    refine D.gs (t := 25) rfl rfl rfl rfl (by kernel_rfl) ?_
    refine D.gs (t := 25) rfl rfl rfl rfl (by kernel_rfl) ?_
    refine D.qw [31] rfl (by kernel_rfl) (Quiet.pickF rfl rfl) ?_
    refine D.qw [] rfl (by kernel_rfl) (Quiet.assign rfl) ?_
    refine D.ph ?_
    refine Phases.fin ?_
    refine G.then_n ?_
    refine G.ret ?_
    refine G.ndFold (x := (a, px)) (by (repeat (first | exact Picks.nil | (apply Picks.cons; (repeat (first | exact Pick.here | apply Pick.there)))))) rfl rfl rfl rfl ?_
    refine G.ndFold (x := (b, py)) (by (repeat (first | exact Picks.nil | (apply Picks.cons; (repeat (first | exact Pick.here | apply Pick.there)))))) rfl rfl rfl rfl ?_
    exact G.done (l := [.tmp 4]) rfl rfl ⟨by rw [decide_eq_false (fun e => h1_14 (by rw [e]))], rfl⟩ (by (repeat (first | exact Picks.nil | (apply Picks.cons; (repeat (first | exact Pick.here | apply Pick.there)))))) (by (repeat (first | exact Suff.here | apply Suff.there)))

theorem ss_eq (d : Nat) (a b : Int × Bs) : EqAt Tryd.prog (d + 2) 92 (ssV a) (ssV b) (decide (a = b)) := by
  have h := EqAt.struct (d := d + 1) (xs := [vint a.1, vstr a.2]) (ys := [vint b.1, vstr b.2]) Tryd.underlying92 (by kernel_rfl)
    (.cons (FEq.cell (by decide) ag_3 rfl rfl (EqAt.int Tryd.underlying3 a.1 b.1)) (.cons (FEq.cell (by decide) ag_9 rfl rfl (EqAt.str Tryd.underlying9 a.2 b.2)) .nil))
  have e : ([decide (a.1 = b.1), decide (a.2 = b.2)].all id) = decide (a = b) := by
    obtain ⟨a1, a2⟩ := a; obtain ⟨b1, b2⟩ := b
    simp [Bool.decide_and]
  rw [← e]; exact h
theorem al_len_of {K β : Type} [DecidableEq K] {a b : List (K × β)} (ha : (a.map (·.1)).Nodup) (hb : (b.map (·.1)).Nodup) (h : ∀ i, alook a i = alook b i) : a.length = b.length := (al_ext_perm ha hb h).length_eq
theorem eq_of_all {K β : Type} [DecidableEq K] {a b : List (K × β)} (ha : (a.map (·.1)).Nodup) (hl : a.length = b.length) (h : ∀ x ∈ a, alook b x.1 = some x.2) : ∀ i, alook a i = alook b i := fun i => by
  rcases e : alook a i with _ | y
  · exact (keys_same ha hl (fun x hx => by rw [h x hx]; rfl) e).symm
  · exact (h (i, y) (al_mem e)).symm
set_option maxRecDepth 100000 in
theorem mapseq_spec (r1 r2 : Nat) (s1 s2 : SsM) (hn1 : (s1.map (·.1)).Nodup) (hn2 : (s2.map (·.1)).Nodup) : Fn Tryd.prog 31 #[.map (some r1), .map (some r2)] [mapR r1 (ssE s1), mapR r2 (ssE s2)] fun v L => ∃ b, v = .bool b ∧ (b = true ↔ ∀ i, alook s1 i = alook s2 i) ∧ L = [mapR r1 (ssE s1), mapR r2 (ssE s2)] := by
  refine Fn.intro (vs := [.map (some r1), .map (some r2)]) Tryd.func31 rfl rfl ?_
  intro F W
  refine G.seq ?_
  refine G.region ?_
  refine G.q (Quiet.assign rfl) rfl ?_
  refine G.nil ?_
  refine G.then_n ?_
  refine G.seq ?_
  refine G.seq ?_
  refine G.region ?_
  refine G.q (Quiet.move rfl) rfl ?_
  refine G.q (Quiet.to (Quiet.maplen rfl Tryd.underlying88 rfl (by (repeat (first | exact Pick.here | apply Pick.there)))) (show _ = vint s1.length by simp [ssE])) rfl ?_
  refine G.q (Quiet.move rfl) rfl ?_
  refine G.q (Quiet.to (Quiet.maplen rfl Tryd.underlying88 rfl (by (repeat (first | exact Pick.here | apply Pick.there)))) (show _ = vint s2.length by simp [ssE])) rfl ?_
  refine G.q (Quiet.int rfl rfl rfl) rfl ?_
  refine G.nil ?_
  refine G.then_n ?_
  refine G.condN rfl (fun h13 => ?_) (fun h13 => ?_)
  · refine G.seq ?_
    refine G.region ?_
    refine G.q (Quiet.assign rfl) rfl ?_
    refine G.nil ?_
    refine G.then_n ?_
    refine G.ret ?_
    refine G.then_r ?_
    exact G.done (l := [.tmp 4]) rfl rfl ⟨false, rfl, ⟨fun e => (by cases e), fun e => absurd (al_len_of hn1 hn2 e) (by omega)⟩, rfl⟩ (by (repeat (first | exact Picks.nil | (apply Picks.cons; (repeat (first | exact Pick.here | apply Pick.there)))))) (by (repeat (first | exact Suff.here | apply Suff.there)))
  · refine G.skip ?_
    refine G.then_n ?_
    refine G.seq ?_
    refine G.seq ?_
    refine G.region ?_
    refine G.q (Quiet.move rfl) rfl ?_
    refine G.op (OpSpec.range (f := fun x : Int × (Int × Bs) => (vint x.1, ssV x.2)) (m := s1) rfl Tryd.underlying88 ?he9) (by (repeat (first | exact Picks.nil | (apply Picks.cons; (repeat (first | exact Pick.here | apply Pick.there)))))) rfl ?nx10
    case he9 => rfl
    rintro v L' ⟨it, rfl, rfl⟩
    refine G.nil ?_
    refine G.then_n ?_
    refine G.block ?_
    refine G.loopK (ι := SsM) (fun q E => E) (fun q => [rangeR (fun x : Int × (Int × Bs) => (vint x.1, ssV x.2)) it r1 s1 q]) (fun q => (∀ x ∈ q, alook s2 x.1 = some x.2) ∧ ∃ rest, s1.Perm (q ++ rest)) (fun q => s1.length - q.length) ([]) (ts := [1, 15]) (.cons rfl (.cons rfl (.nil))) (⟨by simp, s1, .refl _⟩) ⟨rfl, rfl, trivial⟩ (by (repeat (first | exact Picks.nil | (apply Picks.cons; (repeat (first | exact Pick.here | apply Pick.there)))))) ?_
    rintro ss ⟨hall, rest, hm⟩
    have hml := hm.length_eq
    rw [List.length_append] at hml
    refine G.seq ?_
    refine G.region ?_
    refine G.op (OpSpec.next rfl) (by (repeat (first | exact Picks.nil | (apply Picks.cons; (repeat (first | exact Pick.here | apply Pick.there)))))) rfl ?nx12
    rintro v L' (⟨rfl, hp4, rfl⟩ | ⟨x, rest4, rfl, hp4, rfl⟩)
    · refine G.rangeDone (by (repeat (first | exact Pick.here | apply Pick.there))) ?_
      refine G.q (Quiet.extract rfl rfl) rfl ?_
      refine G.nil ?_
      refine G.then_n ?_
      refine G.seq ?_
      refine G.condF rfl ?_
      refine G.exit ?_
      refine G.then_e ?_
      refine G.then_e ?_
      refine G.blk_e ?_
      refine G.then_n ?_
      refine G.seq ?_
      refine G.region ?_
      refine G.q (Quiet.assign rfl) rfl ?_
      refine G.nil ?_
      refine G.then_n ?_
      refine G.ret ?_
      exact G.done (l := [.tmp 4]) rfl rfl ⟨true, rfl, ⟨fun _ => eq_of_all hn1 (by omega) (fun x hx => hall x (hp4.mem_iff.1 hx)), fun _ => rfl⟩, rfl⟩ (by (repeat (first | exact Picks.nil | (apply Picks.cons; (repeat (first | exact Pick.here | apply Pick.there)))))) (by (repeat (first | exact Suff.here | apply Suff.there)))
    · refine G.q (Quiet.extract rfl rfl) rfl ?_
      refine G.nil ?_
      refine G.then_n ?_
      refine G.seq ?_
      refine G.condT rfl ?_
      refine G.skip ?_
      refine G.then_n ?_
      refine G.block ?_
      refine G.seq ?_
      refine G.region ?_
      refine G.q (Quiet.entryE (v := .tuple #[vint x.1, ssV x.2]) rfl (by (repeat (first | exact Pick.here | apply Pick.there))) rfl) rfl ?_
      refine G.q (Quiet.extract rfl rfl) rfl ?_
      refine G.q (Quiet.extract rfl rfl) rfl ?_
      refine G.op (OpSpec.allocA ze_92) (by (repeat (first | exact Picks.nil | (apply Picks.cons; (repeat (first | exact Pick.here | apply Pick.there)))))) rfl ?nx21
      rintro v L' ⟨b6, rfl, rfl⟩
      refine G.q (Quiet.assign rfl) rfl ?_
      refine G.op (OpSpec.storeA (vs := [vint x.2.1, vstr x.2.2]) rfl rfl ?c123 sz_92 rfl ?c224 ?c325) (by (repeat (first | exact Picks.nil | (apply Picks.cons; (repeat (first | exact Pick.here | apply Pick.there)))))) rfl ?nx26
      case c123 => (first | (simp [isCell]; done) | (simp [isCell, setAll, Value.cells]; done))
      case c224 => (first | (simp; done) | (simp [setAll, spl, Value.cells]; done))
      case c325 => exact nfz0 _ _
      rintro v L' rfl
      refine G.nil ?_
      refine G.ptCast (b := b6) (l' := [vint x.2.1, vstr x.2.2]) (by (repeat (first | exact Pick.here | apply Pick.there))) rfl ?_
      have hxm : x ∈ s1 := hp4.mem_iff.2 (by simp)
      have hx1 := al_of_mem (k := x.1) (b := x.2) hn1 hxm
      refine G.then_n ?_
      refine G.seq ?_
      refine G.region ?_
      rcases hy2 : alook s2 x.1 with _ | y
      · refine G.q (Quiet.move rfl) rfl ?_
        refine G.q (Quiet.move rfl) rfl ?_
        refine G.q (Quiet.lookupOkN (m := s2) (enc := ssV) (KeyLaw.int Tryd.underlying3) hy2 rfl rfl Tryd.underlying88 ze_92 (by (repeat (first | exact Pick.here | apply Pick.there))) rfl) rfl ?_
        refine G.q (Quiet.move rfl) rfl ?_
        refine G.q (Quiet.extract rfl rfl) rfl ?_
        refine G.q (Quiet.extract rfl rfl) rfl ?_
        refine G.op (OpSpec.allocA ze_92) (by (repeat (first | exact Picks.nil | (apply Picks.cons; (repeat (first | exact Pick.here | apply Pick.there)))))) rfl ?nx31
        rintro v L' ⟨b7, rfl, rfl⟩
        refine G.op (OpSpec.storeA (vs := [.int .i64 0, .string (bs [])]) rfl rfl ?c133 sz_92 rfl ?c234 ?c335) (by (repeat (first | exact Picks.nil | (apply Picks.cons; (repeat (first | exact Pick.here | apply Pick.there)))))) rfl ?nx36
        case c133 => (first | (simp [isCell]; done) | (simp [isCell, setAll, Value.cells]; done))
        case c234 => (first | (simp; done) | (simp [setAll, spl, Value.cells]; done))
        case c335 => exact nfz0 _ _
        rintro v L' rfl
        refine G.q (Quiet.assign rfl) rfl ?_
        refine G.nil ?_
        refine G.then_n ?_
        refine G.seq ?_
        refine G.region ?_
        refine G.q (Quiet.move rfl) rfl ?_
        refine G.q (Quiet.not rfl) rfl ?_
        refine G.q (Quiet.move rfl) rfl ?_
        refine G.gskip (t := 29) rfl rfl rfl rfl ?_
        refine G.gskip (t := 29) rfl rfl rfl rfl ?_
        refine G.gskip (t := 29) rfl rfl rfl rfl ?_
        refine G.q (Quiet.pickT rfl rfl) rfl ?_
        refine G.nil ?_
        refine G.then_n ?_
        refine G.condT rfl ?_
        refine G.seq ?_
        refine G.region ?_
        refine G.q (Quiet.assign rfl) rfl ?_
        refine G.nil ?_
        refine G.then_n ?_
        refine G.ret ?_
        refine G.blk_r ?_
        refine G.then_r ?_
        refine G.blk_r ?_
        refine G.then_r ?_
        refine G.rangeDone (by (repeat (first | exact Pick.here | apply Pick.there))) ?_
        exact G.done (l := [.tmp 4]) rfl rfl ⟨false, rfl, ⟨fun e => (by cases e), fun e => absurd (e x.1) (by rw [hx1, hy2]; simp)⟩, rfl⟩ (by (repeat (first | exact Picks.nil | (apply Picks.cons; (repeat (first | exact Pick.here | apply Pick.there)))))) (by (repeat (first | exact Suff.here | apply Suff.there)))
      · refine G.q (Quiet.move rfl) rfl ?_
        refine G.q (Quiet.move rfl) rfl ?_
        refine G.q (Quiet.lookupOkY (m := s2) (enc := ssV) (KeyLaw.int Tryd.underlying3) hy2 rfl rfl Tryd.underlying88 ze_92 (by (repeat (first | exact Pick.here | apply Pick.there))) rfl) rfl ?_
        refine G.q (Quiet.move rfl) rfl ?_
        refine G.q (Quiet.extract rfl rfl) rfl ?_
        refine G.q (Quiet.extract rfl rfl) rfl ?_
        refine G.op (OpSpec.allocA ze_92) (by (repeat (first | exact Picks.nil | (apply Picks.cons; (repeat (first | exact Pick.here | apply Pick.there)))))) rfl ?nx44
        rintro v L' ⟨b7, rfl, rfl⟩
        refine G.op (OpSpec.storeA (vs := [vint y.1, vstr y.2]) rfl rfl ?c146 sz_92 rfl ?c247 ?c348) (by (repeat (first | exact Picks.nil | (apply Picks.cons; (repeat (first | exact Pick.here | apply Pick.there)))))) rfl ?nx49
        case c146 => (first | (simp [isCell]; done) | (simp [isCell, setAll, Value.cells]; done))
        case c247 => (first | (simp; done) | (simp [setAll, spl, Value.cells]; done))
        case c348 => exact nfz0 _ _
        rintro v L' rfl
        refine G.q (Quiet.assign rfl) rfl ?_
        refine G.nil ?_
        refine G.ptCast (b := b7) (l' := [vint y.1, vstr y.2]) (by (repeat (first | exact Pick.here | apply Pick.there))) rfl ?_
        refine G.then_n ?_
        refine G.seq ?_
        refine G.region ?_
        refine G.q (Quiet.move rfl) rfl ?_
        refine G.q (Quiet.not rfl) rfl ?_
        refine G.q (Quiet.move rfl) rfl ?_
        refine G.grun (t := 29) rfl rfl rfl ?_
        refine G.q (Quiet.loadAs (vs := [vint x.2.1, vstr x.2.2]) rfl ag_92 (by (repeat (first | exact Pick.here | apply Pick.there))) (by simp) rfl) rfl ?_
        refine G.grun (t := 29) rfl rfl rfl ?_
        refine G.q (Quiet.loadAs (vs := [vint y.1, vstr y.2]) rfl ag_92 (by (repeat (first | exact Pick.here | apply Pick.there))) (by simp) rfl) rfl ?_
        refine G.grun (t := 29) rfl rfl rfl ?_
        refine G.q (Quiet.structNe (r := decide (x.2 = y)) rfl rfl (by kernel_rfl) (ss_eq 9998 x.2 y)) rfl ?_
        refine G.q (Quiet.pickF rfl rfl) rfl ?_
        refine G.nil ?_
        refine G.then_n ?_
        refine G.condN rfl (fun h33 => ?_) (fun h33 => ?_)
        · refine G.seq ?_
          refine G.region ?_
          refine G.q (Quiet.assign rfl) rfl ?_
          refine G.nil ?_
          refine G.then_n ?_
          refine G.ret ?_
          refine G.blk_r ?_
          refine G.then_r ?_
          refine G.blk_r ?_
          refine G.then_r ?_
          refine G.rangeDone (by (repeat (first | exact Pick.here | apply Pick.there))) ?_
          exact G.done (l := [.tmp 4]) rfl rfl ⟨false, rfl, ⟨fun e => (by cases e), fun e => absurd (e x.1) (by rw [hx1, hy2]; intro g; exact h33 (Option.some.inj g))⟩, rfl⟩ (by (repeat (first | exact Picks.nil | (apply Picks.cons; (repeat (first | exact Pick.here | apply Pick.there)))))) (by (repeat (first | exact Suff.here | apply Suff.there)))
        · have h7_x := h33.symm
          refine G.skip ?_
          refine G.blk_n ?_
          refine G.then_n ?_
          have hl := hp4.length_eq
          simp at hl
          exact G.roundK ((ss ++ [x])) (⟨fun z hz => by rcases List.mem_append.1 hz with hz | hz; exact hall z hz; (have hz : z = x := by simpa using hz); subst hz; rw [hy2, h7_x], ⟨_, by simpa using hp4⟩⟩) (by simp; omega) ⟨rfl, rfl, trivial⟩ (by (repeat (first | exact Picks.nil | (apply Picks.cons; (repeat (first | exact Pick.here | apply Pick.there)))))) (by ((repeat (apply Have.cons; (repeat (first | exact Pick.here | apply Pick.there)))); apply Have.base; repeat (first | exact Suff.here | apply Suff.there)))

theorem nd_all {a b : NmM} (ha : (a.map (·.1)).Nodup) (hl : a.length = b.length) (h : ∀ x ∈ a, ∃ y, alook b x.1 = some y ∧ y.2.2 = x.2.2.2) : ∀ p, (alook a p).map (fun x : Nm => x.2.2) = (alook b p).map (fun x : Nm => x.2.2) := fun p => by
  rcases e : alook a p with _ | y
  · rw [keys_same ha hl (fun x hx => by obtain ⟨y, hy, -⟩ := h x hx; rw [hy]; rfl) e]
  · obtain ⟨z, hz, hq⟩ := h (p, y) (al_mem e)
    dsimp only at hz hq
    rw [hz]; simp [hq]
theorem nd_len {a b : NmM} (ha : (a.map (·.1)).Nodup) (hb : (b.map (·.1)).Nodup) (h : ∀ p, (alook a p).map (fun x : Nm => x.2.2) = (alook b p).map (fun x : Nm => x.2.2)) : a.length = b.length := by
  have := ((List.perm_ext_iff_of_nodup ha hb).2 fun p => by
    rw [← al_isSome, ← al_isSome]
    have := congrArg Option.isSome (h p)
    rw [Option.isSome_map, Option.isSome_map] at this
    rw [this]).length_eq
  simpa using this
set_option maxRecDepth 100000 in
theorem mapsef_spec (r1 r2 : Nat) (m1 m2 : NmM) (hn1 : (m1.map (·.1)).Nodup) (hn2 : (m2.map (·.1)).Nodup) (hacl : ∀ x ∈ m1, x.2.2.2.acl.length ≤ 1048576) : Fn Tryd.prog 32 #[.map (some r1), .map (some r2), .func (.func 33) #[] #[]] [mapR r1 (ndE m1), mapR r2 (ndE m2), bigR inN m1, bigR inN m2] fun v L => ∃ b, v = .bool b ∧ (b = true ↔ ∀ p, (alook m1 p).map (fun x : Nm => x.2.2) = (alook m2 p).map (fun x : Nm => x.2.2)) ∧ L = [mapR r1 (ndE m1), mapR r2 (ndE m2), bigR inN m1, bigR inN m2] := by
  refine Fn.intro (vs := [.map (some r1), .map (some r2), .func (.func 33) #[] #[]]) Tryd.func32 rfl rfl ?_
  intro F W
  refine G.seq ?_
  refine G.region ?_
  refine G.q (Quiet.assign rfl) rfl ?_
  refine G.nil ?_
  refine G.then_n ?_
  refine G.seq ?_
  refine G.seq ?_
  refine G.region ?_
  refine G.q (Quiet.move rfl) rfl ?_
  refine G.q (Quiet.to (Quiet.maplen rfl Tryd.underlying87 rfl (by (repeat (first | exact Pick.here | apply Pick.there)))) (show _ = vint m1.length by simp [ndE])) rfl ?_
  refine G.q (Quiet.move rfl) rfl ?_
  refine G.q (Quiet.to (Quiet.maplen rfl Tryd.underlying87 rfl (by (repeat (first | exact Pick.here | apply Pick.there)))) (show _ = vint m2.length by simp [ndE])) rfl ?_
  refine G.q (Quiet.int rfl rfl rfl) rfl ?_
  refine G.nil ?_
  refine G.then_n ?_
  refine G.condN rfl (fun h15 => ?_) (fun h15 => ?_)
  · refine G.seq ?_
    refine G.region ?_
    refine G.q (Quiet.assign rfl) rfl ?_
    refine G.nil ?_
    refine G.then_n ?_
    refine G.ret ?_
    refine G.then_r ?_
    exact G.done (l := [.tmp 6]) rfl rfl ⟨false, rfl, ⟨fun e => (by cases e), fun e => absurd (nd_len hn1 hn2 e) (by omega)⟩, rfl⟩ (by (repeat (first | exact Picks.nil | (apply Picks.cons; (repeat (first | exact Pick.here | apply Pick.there)))))) (by (repeat (first | exact Suff.here | apply Suff.there)))
  · refine G.skip ?_
    refine G.then_n ?_
    refine G.seq ?_
    refine G.seq ?_
    refine G.region ?_
    refine G.q (Quiet.move rfl) rfl ?_
    refine G.op (OpSpec.range (f := fun x : Bs × Nm => (vstr x.1, ndV x.2)) (m := m1) rfl Tryd.underlying87 ?he9) (by (repeat (first | exact Picks.nil | (apply Picks.cons; (repeat (first | exact Pick.here | apply Pick.there)))))) rfl ?nx10
    case he9 => rfl
    rintro v L' ⟨it, rfl, rfl⟩
    refine G.nil ?_
    refine G.then_n ?_
    refine G.block ?_
    refine G.loopK (ι := NmM) (fun q E => E) (fun q => [rangeR (fun x : Bs × Nm => (vstr x.1, ndV x.2)) it r1 m1 q]) (fun q => (∀ x ∈ q, ∃ y, alook m2 x.1 = some y ∧ y.2.2 = x.2.2.2) ∧ ∃ rest, m1.Perm (q ++ rest)) (fun q => m1.length - q.length) ([]) (ts := [1, 2, 17]) (.cons rfl (.cons rfl (.cons rfl (.nil)))) (⟨by simp, m1, .refl _⟩) ⟨rfl, rfl, rfl, trivial⟩ (by (repeat (first | exact Picks.nil | (apply Picks.cons; (repeat (first | exact Pick.here | apply Pick.there)))))) ?_
    rintro ss ⟨hall, rest, hm⟩
    have hml := hm.length_eq
    rw [List.length_append] at hml
    refine G.seq ?_
    refine G.region ?_
    refine G.op (OpSpec.next rfl) (by (repeat (first | exact Picks.nil | (apply Picks.cons; (repeat (first | exact Pick.here | apply Pick.there)))))) rfl ?nx12
    rintro v L' (⟨rfl, hp4, rfl⟩ | ⟨x, rest4, rfl, hp4, rfl⟩)
    · refine G.rangeDone (by (repeat (first | exact Pick.here | apply Pick.there))) ?_
      refine G.q (Quiet.extract rfl rfl) rfl ?_
      refine G.nil ?_
      refine G.then_n ?_
      refine G.seq ?_
      refine G.condF rfl ?_
      refine G.exit ?_
      refine G.then_e ?_
      refine G.then_e ?_
      refine G.blk_e ?_
      refine G.then_n ?_
      refine G.seq ?_
      refine G.region ?_
      refine G.q (Quiet.assign rfl) rfl ?_
      refine G.nil ?_
      refine G.then_n ?_
      refine G.ret ?_
      exact G.done (l := [.tmp 6]) rfl rfl ⟨true, rfl, ⟨fun _ => nd_all hn1 (by omega) (fun x hx => hall x (hp4.mem_iff.1 hx)), fun _ => rfl⟩, rfl⟩ (by (repeat (first | exact Picks.nil | (apply Picks.cons; (repeat (first | exact Pick.here | apply Pick.there)))))) (by (repeat (first | exact Suff.here | apply Suff.there)))
    · refine G.q (Quiet.extract rfl rfl) rfl ?_
      refine G.nil ?_
      refine G.then_n ?_
      refine G.seq ?_
      refine G.condT rfl ?_
      refine G.skip ?_
      refine G.then_n ?_
      refine G.block ?_
      refine G.seq ?_
      refine G.region ?_
      refine G.q (Quiet.entryE (v := .tuple #[vstr x.1, ndV x.2]) rfl (by (repeat (first | exact Pick.here | apply Pick.there))) rfl) rfl ?_
      refine G.q (Quiet.extract rfl rfl) rfl ?_
      refine G.q (Quiet.extract rfl rfl) rfl ?_
      refine G.q (Quiet.assign rfl) rfl ?_
      refine G.q (Quiet.assign rfl) rfl ?_
      refine G.nil ?_
      have hxm : x ∈ m1 := hp4.mem_iff.2 (by simp)
      have hx1 := al_of_mem (k := x.1) (b := x.2) hn1 hxm
      refine G.then_n ?_
      refine G.seq ?_
      refine G.region ?_
      rcases hy2 : alook m2 x.1 with _ | y
      · refine G.q (Quiet.move rfl) rfl ?_
        refine G.q (Quiet.move rfl) rfl ?_
        refine G.q (Quiet.lookupOkN (m := m2) (enc := ndV) (KeyLaw.str Tryd.underlying9) hy2 rfl rfl Tryd.underlying87 ze_82 (by (repeat (first | exact Pick.here | apply Pick.there))) rfl) rfl ?_
        refine G.q (Quiet.move rfl) rfl ?_
        refine G.q (Quiet.extract rfl rfl) rfl ?_
        refine G.q (Quiet.extract rfl rfl) rfl ?_
        refine G.q (Quiet.assign rfl) rfl ?_
        refine G.q (Quiet.assign rfl) rfl ?_
        refine G.nil ?_
        refine G.then_n ?_
        refine G.seq ?_
        refine G.region ?_
        refine G.q (Quiet.move rfl) rfl ?_
        refine G.q (Quiet.not rfl) rfl ?_
        refine G.q (Quiet.move rfl) rfl ?_
        refine G.gskip (t := 31) rfl rfl rfl rfl ?_
        refine G.gskip (t := 31) rfl rfl rfl rfl ?_
        refine G.gskip (t := 31) rfl rfl rfl rfl ?_
        refine G.gskip (t := 31) rfl rfl rfl rfl ?_
        refine G.gskip (t := 31) rfl rfl rfl rfl ?_
        refine G.q (Quiet.pickT rfl rfl) rfl ?_
        refine G.nil ?_
        refine G.then_n ?_
        refine G.condT rfl ?_
        refine G.seq ?_
        refine G.region ?_
        refine G.q (Quiet.assign rfl) rfl ?_
        refine G.nil ?_
        refine G.then_n ?_
        refine G.ret ?_
        refine G.blk_r ?_
        refine G.then_r ?_
        refine G.blk_r ?_
        refine G.then_r ?_
        refine G.rangeDone (by (repeat (first | exact Pick.here | apply Pick.there))) ?_
        exact G.done (l := [.tmp 6]) rfl rfl ⟨false, rfl, ⟨fun e => (by cases e), fun e => absurd (e x.1) (by rw [hx1, hy2]; simp)⟩, rfl⟩ (by (repeat (first | exact Picks.nil | (apply Picks.cons; (repeat (first | exact Pick.here | apply Pick.there)))))) (by (repeat (first | exact Suff.here | apply Suff.there)))
      · refine G.q (Quiet.move rfl) rfl ?_
        refine G.q (Quiet.move rfl) rfl ?_
        refine G.q (Quiet.lookupOkY (m := m2) (enc := ndV) (KeyLaw.str Tryd.underlying9) hy2 rfl rfl Tryd.underlying87 ze_82 (by (repeat (first | exact Pick.here | apply Pick.there))) rfl) rfl ?_
        refine G.q (Quiet.move rfl) rfl ?_
        refine G.q (Quiet.extract rfl rfl) rfl ?_
        refine G.q (Quiet.extract rfl rfl) rfl ?_
        refine G.q (Quiet.assign rfl) rfl ?_
        refine G.q (Quiet.assign rfl) rfl ?_
        refine G.nil ?_
        refine G.then_n ?_
        refine G.seq ?_
        refine G.region ?_
        refine G.q (Quiet.move rfl) rfl ?_
        refine G.q (Quiet.not rfl) rfl ?_
        refine G.q (Quiet.move rfl) rfl ?_
        refine G.bigTake hx1 (by (repeat (first | exact Pick.here | apply Pick.there))) ?_
        refine G.bigTake hy2 (by (repeat (first | exact Pick.here | apply Pick.there))) ?_
        refine G.grun (t := 31) rfl rfl rfl ?_
        refine G.q (Quiet.move rfl) rfl ?_
        refine G.grun (t := 31) rfl rfl rfl ?_
        refine G.q (Quiet.move rfl) rfl ?_
        refine G.grun (t := 31) rfl rfl rfl ?_
        refine G.q (Quiet.move rfl) rfl ?_
        refine G.grun (t := 31) rfl rfl rfl ?_
        refine G.op (OpSpec.callV Tryd.func33 rfl rfl (us := []) (vs := [_, _]) (ws := []) rfl rfl (trsame1_spec x.1 x.1 x.2 y (hacl _ hxm))) (by (repeat (first | exact Picks.nil | (apply Picks.cons; (repeat (first | exact Pick.here | apply Pick.there)))))) rfl ?nx34
        rintro v L' ⟨rfl, rfl⟩
        refine G.bigPut (f := inN) (m := m1) x.1 x.2 rfl (by (repeat (first | exact Picks.nil | (apply Picks.cons; (repeat (first | exact Pick.here | apply Pick.there)))))) ?_
        refine G.bigPut (f := inN) (m := m2) x.1 y rfl (by (repeat (first | exact Picks.nil | (apply Picks.cons; (repeat (first | exact Pick.here | apply Pick.there)))))) ?_
        rw [aset_self hx1, aset_self hy2]
        refine G.grun (t := 31) rfl rfl rfl ?_
        refine G.q (Quiet.not rfl) rfl ?_
        refine G.q (Quiet.pickF rfl rfl) rfl ?_
        refine G.nil ?_
        refine G.then_n ?_
        refine G.condN rfl (fun h37 => ?_) (fun h37 => ?_)
        · refine G.seq ?_
          refine G.region ?_
          refine G.q (Quiet.assign rfl) rfl ?_
          refine G.nil ?_
          refine G.then_n ?_
          refine G.ret ?_
          refine G.blk_r ?_
          refine G.then_r ?_
          refine G.blk_r ?_
          refine G.then_r ?_
          refine G.rangeDone (by (repeat (first | exact Pick.here | apply Pick.there))) ?_
          exact G.done (l := [.tmp 6]) rfl rfl ⟨false, rfl, ⟨fun e => (by cases e), fun e => absurd (e x.1) (by rw [hx1, hy2]; intro g; exact h37 (Option.some.inj g))⟩, rfl⟩ (by (repeat (first | exact Picks.nil | (apply Picks.cons; (repeat (first | exact Pick.here | apply Pick.there)))))) (by (repeat (first | exact Suff.here | apply Suff.there)))
        · have h35 := h37
          refine G.skip ?_
          refine G.blk_n ?_
          refine G.then_n ?_
          have hl := hp4.length_eq
          simp at hl
          exact G.roundK ((ss ++ [x])) (⟨fun z hz => by rcases List.mem_append.1 hz with hz | hz; exact hall z hz; (have hz : z = x := by simpa using hz); subst hz; exact ⟨y, hy2, h35.symm⟩, ⟨_, by simpa using hp4⟩⟩) (by simp; omega) ⟨rfl, rfl, rfl, trivial⟩ (by (repeat (first | exact Picks.nil | (apply Picks.cons; (repeat (first | exact Pick.here | apply Pick.there)))))) (by ((repeat (apply Have.cons; (repeat (first | exact Pick.here | apply Pick.there)))); apply Have.base; repeat (first | exact Suff.here | apply Suff.there)))

set_option maxRecDepth 100000 in
theorem trsame_spec (t u : Nat) (τ υ : Tr) (N M : Nat) (ho : τ.Ok N) (hυ : υ.Ok M) : Fn Tryd.prog 19 #[vptr t, vptr u] [treeR t τ, treeR u υ] fun v L => v = .bool (decide (τ = υ)) ∧ L = [treeR t τ, treeR u υ] := by
  refine Fn.intro (vs := [vptr t, vptr u]) Tryd.func19 rfl rfl ?_
  intro F W
  refine G.trOpen (τ := τ) (by (repeat (first | exact Pick.here | apply Pick.there))) fun rn rs m s hI => ?_
  refine G.trOpen (t := u) (τ := υ) (by (repeat (first | exact Pick.here | apply Pick.there))) fun rn2 rs2 m2 s2 hI2 => ?_
  have hts := tr_same ho hυ hI hI2
  refine G.seq ?_
  refine G.region ?_
  refine G.q (Quiet.assign rfl) rfl ?_
  refine G.nil ?_
  refine G.then_n ?_
  refine G.seq ?_
  refine G.draw [22, 33] [[0, 1, 2, 3, 4, 5, 6, 7, 8, 9, 10, 11, 12, 13, 14, 15, 16, 17, 18, 19, 20, 21, 22], [23, 24, 25, 26, 27, 28, 29, 30, 31, 32, 33], [34, 35]] mixed (by kernel_rfl) ?_
  refine Phases.go [] (by (repeat (first | exact Picks.nil | (apply Picks.cons; (repeat (first | exact Pick.here | apply Pick.there)))))) ?_
  refine D.qw [1, 2, 3, 4, 5, 6, 7, 8, 9, 10, 11, 12, 13, 14, 15, 16, 17, 18, 19, 20, 21, 22] rfl (by kernel_rfl) (Quiet.move rfl) ?_
  refine D.qw [2, 3, 4, 5, 6, 7, 8, 9, 10, 11, 12, 13, 14, 15, 16, 17, 18, 19, 20, 21, 22] rfl (by kernel_rfl) (Quiet.as (v' := .bool true) (by rfl) (Quiet.ptrne rfl rfl Tryd.underlying45)) ?_
  refine D.qw [3, 4, 5, 6, 7, 8, 9, 10, 11, 12, 13, 14, 15, 16, 17, 18, 19, 20, 21, 22] rfl (by kernel_rfl) (Quiet.move rfl) ?_
  refine D.gqw [4, 5, 6, 11, 12, 13, 14, 15, 16, 17, 18, 19, 20, 21, 22] (t := 7) rfl rfl rfl (by kernel_rfl) (Quiet.move rfl) ?_
  refine D.gqw [5, 6, 11, 12, 13, 14, 15, 16, 17, 18, 19, 20, 21, 22] (t := 7) rfl rfl rfl (by kernel_rfl) (Quiet.nilp rfl) ?_
  refine D.gqw [6, 11, 12, 13, 14, 15, 16, 17, 18, 19, 20, 21, 22] (t := 7) rfl rfl rfl (by kernel_rfl) (Quiet.fieldAddr rfl fo_90_2) ?_
  refine D.gqw [11, 12, 13, 14, 15, 16, 17, 18, 19, 20, 21, 22] (t := 7) rfl rfl rfl (by kernel_rfl) (Quiet.load rfl ag_3 (by (repeat (first | exact Pick.here | apply Pick.there))) (rfl)) ?_
  refine D.gqw [8, 9, 10, 11, 12, 13, 14, 15, 16, 17, 18, 19, 20, 21, 22] (t := 7) rfl rfl rfl (by kernel_rfl) (Quiet.move rfl) ?_
  refine D.gqw [9, 10, 11, 12, 13, 14, 15, 16, 17, 18, 19, 20, 21, 22] (t := 7) rfl rfl rfl (by kernel_rfl) (Quiet.nilp rfl) ?_
  refine D.gqw [10, 11, 12, 13, 14, 15, 16, 17, 18, 19, 20, 21, 22] (t := 7) rfl rfl rfl (by kernel_rfl) (Quiet.fieldAddr rfl fo_90_2) ?_
  refine D.gqw [11, 12, 13, 14, 15, 16, 17, 18, 19, 20, 21, 22] (t := 7) rfl rfl rfl (by kernel_rfl) (Quiet.load rfl ag_3 (by (repeat (first | exact Pick.here | apply Pick.there))) (rfl)) ?_
  refine D.gqw [12, 13, 14, 15, 16, 17, 18, 19, 20, 21, 22] (t := 7) rfl rfl rfl (by kernel_rfl) (Quiet.int rfl rfl rfl) ?_
  refine D.qw [13, 14, 15, 16, 17, 18, 19, 20, 21, 22] rfl (by kernel_rfl) (Quiet.pickT rfl rfl) ?_
  refine D.qw [14, 15, 16, 17, 18, 19, 20, 21, 22] rfl (by kernel_rfl) (Quiet.move rfl) ?_
  refine D.dec (t := 18) rfl (fun h1_18 => ?_) (fun h1_18 => ?_)
  · refine D.kDT (t := 16) rfl h1_18 ?_
    refine D.kDT (t := 17) rfl h1_18 ?_
    refine D.gqw [15, 16, 17, 22] (t := 18) rfl rfl rfl (by kernel_rfl) (Quiet.move rfl) ?_
    refine D.gqw [16, 17, 22] (t := 18) rfl rfl rfl (by kernel_rfl) (Quiet.nilp rfl) ?_
    refine D.gqw [17, 22] (t := 18) rfl rfl rfl (by kernel_rfl) (Quiet.fieldAddr rfl fo_90_1) ?_
    refine D.gqw [22] (t := 18) rfl rfl rfl (by kernel_rfl) (Quiet.load rfl ag_88 (by (repeat (first | exact Pick.here | apply Pick.there))) (rfl)) ?_
    refine D.gqw [19, 20, 21, 22] (t := 18) rfl rfl rfl (by kernel_rfl) (Quiet.move rfl) ?_
    refine D.gqw [20, 21, 22] (t := 18) rfl rfl rfl (by kernel_rfl) (Quiet.nilp rfl) ?_
    refine D.gqw [21, 22] (t := 18) rfl rfl rfl (by kernel_rfl) (Quiet.fieldAddr rfl fo_90_1) ?_
    refine D.gqw [22] (t := 18) rfl rfl rfl (by kernel_rfl) (Quiet.load rfl ag_88 (by (repeat (first | exact Pick.here | apply Pick.there))) (rfl)) ?_
    refine D.gh (t := 18) rfl rfl rfl (by kernel_rfl) (OpSpec.call Tryd.func31 rfl rfl (vs := [_, _]) rfl (mapseq_spec rs rs2 s s2 hI.skeys hI2.skeys)) (by (repeat (first | exact Picks.nil | (apply Picks.cons; (repeat (first | exact Pick.here | apply Pick.there)))))) ?nx21
    rintro v L' ⟨b1, rfl, hb1, rfl⟩
    refine D.ph ?_
    refine Phases.go [] (by (repeat (first | exact Picks.nil | (apply Picks.cons; (repeat (first | exact Pick.here | apply Pick.there)))))) ?_
    refine D.qw [24, 25, 26, 27, 28, 29, 30, 31, 32, 33] rfl (by kernel_rfl) (Quiet.pickT rfl rfl) ?_
    refine D.qw [25, 26, 27, 28, 29, 30, 31, 32, 33] rfl (by kernel_rfl) (Quiet.move rfl) ?_
    refine D.bool (t := 29) rfl (fun h1_29 => ?_) (fun h1_29 => ?_)
    · refine D.kB (t := 27) rfl h1_29 ?_
      refine D.kB (t := 28) rfl h1_29 ?_
      refine D.gqw [26, 27, 28, 33] (t := 29) rfl rfl rfl (by kernel_rfl) (Quiet.move rfl) ?_
      refine D.gqw [27, 28, 33] (t := 29) rfl rfl rfl (by kernel_rfl) (Quiet.nilp rfl) ?_
      refine D.gqw [28, 33] (t := 29) rfl rfl rfl (by kernel_rfl) (Quiet.fieldAddr rfl fo_90_0) ?_
      refine D.gqw [33] (t := 29) rfl rfl rfl (by kernel_rfl) (Quiet.load rfl ag_87 (by (repeat (first | exact Pick.here | apply Pick.there))) (rfl)) ?_
      refine D.gqw [30, 31, 32, 33] (t := 29) rfl rfl rfl (by kernel_rfl) (Quiet.move rfl) ?_
      refine D.gqw [31, 32, 33] (t := 29) rfl rfl rfl (by kernel_rfl) (Quiet.nilp rfl) ?_
      refine D.gqw [32, 33] (t := 29) rfl rfl rfl (by kernel_rfl) (Quiet.fieldAddr rfl fo_90_0) ?_
      refine D.gqw [33] (t := 29) rfl rfl rfl (by kernel_rfl) (Quiet.load rfl ag_87 (by (repeat (first | exact Pick.here | apply Pick.there))) (rfl)) ?_
      refine D.gh (t := 29) rfl rfl rfl (by kernel_rfl) (OpSpec.call Tryd.func32 rfl rfl (vs := [_, _, _]) rfl (mapsef_spec rn rn2 m m2 hI.keys hI2.keys (fun x hx => hI.acl ho (al_of_mem (k := x.1) (b := x.2) hI.keys hx)))) (by (repeat (first | exact Picks.nil | (apply Picks.cons; (repeat (first | exact Pick.here | apply Pick.there)))))) ?nx31
      rintro v L' ⟨b2, rfl, hb2, rfl⟩
      refine D.ph ?_
      refine Phases.go [] (by (repeat (first | exact Picks.nil | (apply Picks.cons; (repeat (first | exact Pick.here | apply Pick.there)))))) ?_
      refine D.qw [35] rfl (by kernel_rfl) (Quiet.pickT rfl rfl) ?_
      refine D.qw [] rfl (by kernel_rfl) (Quiet.assign rfl) ?_
      refine D.ph ?_
      refine Phases.fin ?_
      refine G.then_n ?_
      refine G.ret ?_
      refine G.trFold (τ := τ) hI (by (repeat (first | exact Picks.nil | (apply Picks.cons; (repeat (first | exact Pick.here | apply Pick.there)))))) rfl rfl rfl ?_
      refine G.trFold (t := u) (τ := υ) hI2 (by (repeat (first | exact Picks.nil | (apply Picks.cons; (repeat (first | exact Pick.here | apply Pick.there)))))) rfl rfl rfl ?_
      exact G.done (l := [.tmp 4]) rfl rfl ⟨by congr 1; exact Bool.eq_iff_iff.2 (by rw [decide_eq_true_iff, hts]; exact ⟨fun e => ⟨h1_18, hb1.1 h1_29, hb2.1 e⟩, fun e => hb2.2 e.2.2⟩), rfl⟩ (by (repeat (first | exact Picks.nil | (apply Picks.cons; (repeat (first | exact Pick.here | apply Pick.there)))))) (by (repeat (first | exact Suff.here | apply Suff.there)))
    · refine D.kB (t := 27) rfl h1_29 ?_
      refine D.kB (t := 28) rfl h1_29 ?_
      refine D.gs (t := 29) rfl rfl rfl rfl (by kernel_rfl) ?_
      refine D.gs (t := 29) rfl rfl rfl rfl (by kernel_rfl) ?_
      refine D.gs (t := 29) rfl rfl rfl rfl (by kernel_rfl) ?_
      refine D.gs (t := 29) rfl rfl rfl rfl (by kernel_rfl) ?_
      refine D.gs (t := 29) rfl rfl rfl rfl (by kernel_rfl) ?_
      refine D.gs (t := 29) rfl rfl rfl rfl (by kernel_rfl) ?_
      refine D.gs (t := 29) rfl rfl rfl rfl (by kernel_rfl) ?_
      refine D.gs (t := 29) rfl rfl rfl rfl (by kernel_rfl) ?_
      refine D.gs (t := 29) rfl rfl rfl rfl (by kernel_rfl) ?_
      refine D.ph ?_
      refine Phases.go [] (by (repeat (first | exact Picks.nil | (apply Picks.cons; (repeat (first | exact Pick.here | apply Pick.there)))))) ?_
      refine D.qw [35] rfl (by kernel_rfl) (Quiet.pickF rfl rfl) ?_
      refine D.qw [] rfl (by kernel_rfl) (Quiet.assign rfl) ?_
      refine D.ph ?_
      refine Phases.fin ?_
      refine G.then_n ?_
      refine G.ret ?_
      refine G.trFold (τ := τ) hI (by (repeat (first | exact Picks.nil | (apply Picks.cons; (repeat (first | exact Pick.here | apply Pick.there)))))) rfl rfl rfl ?_
      refine G.trFold (t := u) (τ := υ) hI2 (by (repeat (first | exact Picks.nil | (apply Picks.cons; (repeat (first | exact Pick.here | apply Pick.there)))))) rfl rfl rfl ?_
      exact G.done (l := [.tmp 4]) rfl rfl ⟨by rw [decide_eq_false (fun e => by have := hb1.2 (hts.1 e).2.1; rw [h1_29] at this; cases this)], rfl⟩ (by (repeat (first | exact Picks.nil | (apply Picks.cons; (repeat (first | exact Pick.here | apply Pick.there)))))) (by (repeat (first | exact Suff.here | apply Suff.there)))
  · refine D.kDF (t := 16) rfl h1_18 ?_
    refine D.kDF (t := 17) rfl h1_18 ?_
    refine D.gs (t := 18) rfl rfl rfl rfl (by kernel_rfl) ?_
    refine D.gs (t := 18) rfl rfl rfl rfl (by kernel_rfl) ?_
    refine D.gs (t := 18) rfl rfl rfl rfl (by kernel_rfl) ?_
    refine D.gs (t := 18) rfl rfl rfl rfl (by kernel_rfl) ?_
    refine D.gs (t := 18) rfl rfl rfl rfl (by kernel_rfl) ?_
    refine D.gs (t := 18) rfl rfl rfl rfl (by kernel_rfl) ?_
    refine D.gs (t := 18) rfl rfl rfl rfl (by kernel_rfl) ?_
    refine D.gs (t := 18) rfl rfl rfl rfl (by kernel_rfl) ?_
    refine D.gs (t := 18) rfl rfl rfl rfl (by kernel_rfl) ?_
    refine D.ph ?_
    refine Phases.go [] (by (repeat (first | exact Picks.nil | (apply Picks.cons; (repeat (first | exact Pick.here | apply Pick.there)))))) ?_
    refine D.qw [24, 25, 26, 27, 28, 29, 30, 31, 32, 33] rfl (by kernel_rfl) (Quiet.pickF rfl rfl) ?_
    refine D.qw [25, 26, 27, 28, 29, 30, 31, 32, 33] rfl (by kernel_rfl) (Quiet.move rfl) ?_
    refine D.gs (t := 29) rfl rfl rfl rfl (by kernel_rfl) ?_
    refine D.gs (t := 29) rfl rfl rfl rfl (by kernel_rfl) ?_
    refine D.gs (t := 29) rfl rfl rfl rfl (by kernel_rfl) ?_
    refine D.gs (t := 29) rfl rfl rfl rfl (by kernel_rfl) ?_
    refine D.gs (t := 29) rfl rfl rfl rfl (by kernel_rfl) ?_
    refine D.gs (t := 29) rfl rfl rfl rfl (by kernel_rfl) ?_
    refine D.gs (t := 29) rfl rfl rfl rfl (by kernel_rfl) ?_
    refine D.gs (t := 29) rfl rfl rfl rfl (by kernel_rfl) ?_
    refine D.gs (t := 29) rfl rfl rfl rfl (by kernel_rfl) ?_
    refine D.ph ?_
    refine Phases.go [] (by (repeat (first | exact Picks.nil | (apply Picks.cons; (repeat (first | exact Pick.here | apply Pick.there)))))) ?_
    refine D.qw [35] rfl (by kernel_rfl) (Quiet.pickF rfl rfl) ?_
    refine D.qw [] rfl (by kernel_rfl) (Quiet.assign rfl) ?_
    refine D.ph ?_
    refine Phases.fin ?_
    refine G.then_n ?_
    refine G.ret ?_
    refine G.trFold (τ := τ) hI (by (repeat (first | exact Picks.nil | (apply Picks.cons; (repeat (first | exact Pick.here | apply Pick.there)))))) rfl rfl rfl ?_
    refine G.trFold (t := u) (τ := υ) hI2 (by (repeat (first | exact Picks.nil | (apply Picks.cons; (repeat (first | exact Pick.here | apply Pick.there)))))) rfl rfl rfl ?_
    exact G.done (l := [.tmp 4]) rfl rfl ⟨by rw [decide_eq_false (fun e => h1_18 (hts.1 e).1)], rfl⟩ (by (repeat (first | exact Picks.nil | (apply Picks.cons; (repeat (first | exact Pick.here | apply Pick.there)))))) (by (repeat (first | exact Suff.here | apply Suff.there)))

end Go.Proofs.YtnnbelmpbmfdnaaDoor
