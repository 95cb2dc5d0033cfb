/- Own work, some of it printed by program, texts that were built one by one and are laid one behind the other here: the document's tree: Stat, layings, Same: walked. | law 07: pick, Events, awake, texts, numbers: walked. | law 07: a tree tells what the document's does: walked. | law 07: an entry is lent: walked. | steps on a tree: plain. | package tree: a tree and itself: walked. | package tree: Clone: walked. -/
import Derived.Test.YtnnbelmpbmfdnaaGreatDoorCPlays7P3
import Derived.Test.YtnnbelmpbmfdnaaGreatDoorCPlays7P2
import Derived.Shelf.SlMaps.Clone
import Derived.Ground.SlmcProg
import Derived.Test.YtnnbelmpbmfdnaaGreatDoorProg
set_option linter.unusedSimpArgs false
set_option linter.unusedVariables false
/- Own work, by program: the document's tree: Stat, layings, Same: walked. -/

namespace Go.Proofs.YtnnbelmpbmfdnaaGreatDoor
open Go
theorem rn_stat {l : List Rn} {k : Nat} (hk : k < l.length) : ((l.flatMap rnC).drop (k * 12 + 3)).take 9 = stC l[k].2.2.st := by
  have h := flatMap_at (f := rnC) (sz := 12) (l := l) (i := k) (fun _ _ => rfl) hk
  have h2 := congrArg (List.drop 3) h
  rw [List.drop_take, List.drop_drop] at h2
  exact h2
theorem al_get' {β : Type} {l : List (Bs × β)} (hn : (l.map (·.1)).Nodup) {i : Nat} (hi : i < l.length) : alook l l[i].1 = some l[i].2 := al_of_mem hn (List.getElem_mem hi)
theorem stat_none {τ : Tr} {p : Bs} (h : ¬ thereT τ p) : statD τ p = st0 := by
  unfold statD statZ
  unfold thereT at h
  cases e : alook τ.nodes p with
  | none => rfl
  | some y => rw [e] at h; exact absurd rfl h
theorem stat_some {τ : Tr} {p : Bs} {n : Nd} (h : alook τ.nodes p = some n) : statD τ p = { n.st with len := n.data.length, kids := (kidsZ τ p).length } := by
  unfold statD statZ; rw [h]; rfl
theorem there_some' {τ : Tr} {p : Bs} : thereT τ p ↔ ∃ n, alook τ.nodes p = some n := Option.isSome_iff_exists
set_option maxRecDepth 100000 in
theorem rstat_spec (x : Nat) (τ : Tr) (p : Bs) (N : Nat) (ho : τ.Ok N) (hN : N ≤ 1073741824) : Fn Tryz.prog 62 #[vptr x, vstr p] [refR x τ] fun v L => v = .tuple #[.agg (stC (statD τ p)).toArray, .bool (decide (thereT τ p))] ∧ L = [refR x τ] := by
 refine Fn.intro (vs := [vptr x, vstr p]) Tryz.func62 rfl rfl ?_
 intro F W
 have hof := ho.few
 refine G.seq (G.region ?_)
 refine G.op (OpSpec.allocA ze_43) (by (repeat' constructor)) rfl ?nx1
 rintro v L' ⟨b4, rfl, rfl⟩
 refine G.q (Quiet.assign rfl) rfl (G.nil (G.then_n (G.seq (G.region (G.q (Quiet.move rfl) rfl (G.q (Quiet.move rfl) rfl ?_))))))
 refine G.op (OpSpec.call Tryz.func69 rfl rfl (vs := [_, _]) rfl (rplace_spec x τ p (by omega))) (by (repeat' constructor)) rfl ?nx6
 rintro v L' ⟨rfl, rfl⟩
 refine G.q (Quiet.assign rfl) rfl (G.nil (G.then_n (G.seq (G.seq (G.region (G.q (Quiet.move rfl) rfl (G.q (Quiet.int rfl rfl rfl) rfl (G.nil (G.then_n ?_)))))))))
 refine G.condD rfl (fun h12 => ?_) (fun h12 => ?_)
 ·refine G.seq (G.region ?_)
  refine G.q (Quiet.to (v' := .agg (stC st0).toArray) (Quiet.build (us := []) fl_43 ze_43 rfl rfl (by simp [isCell])) rfl) rfl ?_
  refine G.op (OpSpec.storeA rfl rfl ?c10 sz_43 ?c13 ?c11 ?c12) (by (repeat' constructor)) rfl ?nx14
  case c10 => intro v hv; simp only [stC, List.mem_cons, List.not_mem_nil, or_false] at hv; rcases hv with rfl | rfl | rfl | rfl | rfl | rfl | rfl | rfl | rfl <;> rfl
  case c13 => rfl
  case c11 => simp [stC]
  case c12 => exact nfz0 _ _
  rintro v L' rfl
  refine G.q (Quiet.assign rfl) rfl (G.nil (G.then_n (G.ret (G.then_r ?_))))
  have hth : ¬ thereT τ p := fun g => absurd (place_iff.2 g) (by have h0 : placeTo τ.nodes p < 0 := h12; omega)
  refine G.ptCast (b := b4) (l' := stC (statD τ p)) (by (repeat' constructor)) (by rw [stat_none hth]; rfl) ?_
  exact G.done2 rfl (.cellA rfl ag_43 (by (repeat' constructor)) (by simp [stC]) rfl) (.tmp rfl) ⟨by rw [decide_eq_false hth]; rfl, rfl⟩ (by (repeat' constructor)) (by (repeat' constructor))
 ·have h12b : 0 ≤ placeTo τ.nodes p := by have h0 : ¬ placeTo τ.nodes p < 0 := h12; omega
  obtain ⟨k, hk, hpk, hkp⟩ := place_get (l := τ.nodes) h12b
  have hpz : placeZ τ p = k := hpk
  rw [hpz]
  obtain ⟨nd, hnd⟩ : ∃ nd, alook τ.nodes p = some nd := by have g2 : alook τ.nodes (τ.nodes[k]).1 = some (τ.nodes[k]).2 := al_get' (ho.sorted.nodup linB) (i := k) hk; rw [hkp] at g2; exact ⟨_, g2⟩
  have hsd := stat_some hnd
  refine G.skip (G.then_n (G.seq ?_))
  refine G.rfOpen (x := x) (τ := τ) (by (repeat' constructor)) fun am cm as2 cs2 m hm => ?_
  have hml := nds_len hm
  have hkm : k < m.length := by omega
  refine G.slShape (T := 131) (sz := 12) (v := .slice am m.length cm) (xs := m.flatMap rnC) (by (repeat' constructor)) (by omega) fun bm bm' e0 mbm _ => ?_
  simp only [Value.slice.injEq, true_and] at e0
  obtain ⟨rfl, rfl⟩ := e0
  have hlk : alook τ.nodes p = some m[k].2.2 := by have g := nds_get hm (i := k) hkm; have g2 : alook τ.nodes (τ.nodes[k]).1 = some (τ.nodes[k]).2 := al_get' (ho.sorted.nodup linB) (i := k) hk; rw [hkp, show τ.nodes[k] = (m[k].1, m[k].2.2) from g] at g2; exact g2
  have hmn : m[k].2.2 = nd := by rw [hnd] at hlk; exact (Option.some.inj hlk).symm
  refine G.region (G.q (Quiet.move rfl) rfl (G.q (Quiet.nilp rfl) rfl (G.q (Quiet.fieldAddr rfl fo_101_0) rfl ?_)))
  refine G.q (Quiet.load rfl ag_98 (by (repeat' constructor)) (rfl)) rfl ?_
  refine G.q (Quiet.move rfl) rfl ?_
  refine G.q (Quiet.indexAddr rfl rfl el_98 (by omega)) rfl ?_
  refine G.q (Quiet.fieldAddr rfl fo_131_3) rfl ?_
  refine G.q (Quiet.loadRdA (sz := 12) (j := k * 12 + 3) (k := 9) (p := rnR _ m) (vs := stC m[k].2.2.st) rfl ag_43 (by (repeat' constructor)) (fun h hp => slR_rd hp) (by simp) (by omega) (by omega) (rn_stat hkm)) rfl ?_
  refine G.op (OpSpec.allocA ze_43) (by (repeat' constructor)) rfl ?nx23
  rintro v L' ⟨b7, rfl, rfl⟩
  refine G.op (OpSpec.storeA rfl rfl ?c25 sz_43 ?c28 ?c26 ?c27) (by (repeat' constructor)) rfl ?nx29
  case c25 => intro v hv; simp only [stC, List.mem_cons, List.not_mem_nil, or_false] at hv; rcases hv with rfl | rfl | rfl | rfl | rfl | rfl | rfl | rfl | rfl <;> rfl
  case c28 => rfl
  case c26 => simp [stC]
  case c27 => exact nfz0 _ _
  rintro v L' rfl
  refine G.nil ?_
  refine G.ptCast (b := b7) (l' := stC nd.st) (by (repeat' constructor)) (by rw [hmn]; rfl) ?_
  refine G.then_n (G.seq (G.region (G.q (Quiet.move rfl) rfl (G.q (Quiet.nilp rfl) rfl (G.q (Quiet.fieldAddr rfl fo_101_0) rfl ?_)))))
  refine G.q (Quiet.load rfl ag_98 (by (repeat' constructor)) (rfl)) rfl ?_
  refine G.q (Quiet.move rfl) rfl ?_
  refine G.q (Quiet.indexAddr rfl rfl el_98 (by omega)) rfl ?_
  refine G.q (Quiet.fieldAddr rfl fo_131_1) rfl ?_
  refine G.q (Quiet.loadRd (sz := 12) (j := k * 12 + 1) (p := rnR _ m) rfl ag_9 (by (repeat' constructor)) (fun h hp => slR_rd hp) (by omega) ((rn_cell (l := m) (i := k) (k := 1) (by omega) (by decide)).trans rfl)) rfl ?_
  refine G.q (Quiet.strlen rfl Tryz.underlying9 rfl) rfl (G.q (Quiet.fieldAddr rfl fo_43_7) rfl ?_)
  refine G.op (OpSpec.store rfl rfl rfl sz_3 ?c39 ?c40) (by (repeat' constructor)) rfl ?nx41
  case c39 => simp [stC]
  case c40 => exact nfz0 _ _
  rintro v L' rfl
  refine G.nil ?_
  refine G.ptCast (b := b7) (l' := stC { nd.st with len := nd.data.length }) (by (repeat' constructor)) (by rw [hmn]; rfl) ?_
  refine G.rfFold (x := x) (τ := τ) (l := m) hm (by (repeat' constructor)) rfl rfl rfl rfl rfl ?_
  refine G.then_n (G.seq (G.region (G.q (Quiet.move rfl) rfl (G.q (Quiet.move rfl) rfl ?_))))
  refine G.op (OpSpec.call Tryz.func65 rfl rfl (vs := [_, _]) rfl (rkids_spec x τ p N ho (by omega))) (by (repeat' constructor)) rfl ?nx44
  rintro v L' ⟨⟨a7, c7, rfl⟩, rfl⟩
  refine G.q (Quiet.slen rfl Tryz.underlying40 rfl) rfl (G.q (Quiet.fieldAddr rfl fo_43_8) rfl ?_)
  refine G.op (OpSpec.store rfl rfl rfl sz_3 ?c48 ?c49) (by (repeat' constructor)) rfl ?nx50
  case c48 => simp [stC]
  case c49 => exact nfz0 _ _
  rintro v L' rfl
  refine G.nil ?_
  refine G.ptCast (b := b7) (l' := stC (statD τ p)) (by (repeat' constructor)) (by rw [hsd]; rfl) ?_
  refine G.then_n (G.seq (G.region ?_))
  refine G.q (Quiet.loadAs (vs := stC (statD τ p)) rfl ag_43 (by (repeat' constructor)) (by simp [stC]) rfl) rfl ?_
  refine G.op (OpSpec.storeA rfl rfl ?c52 sz_43 ?c55 ?c53 ?c54) (by (repeat' constructor)) rfl ?nx56
  case c52 => intro v hv; simp only [stC, List.mem_cons, List.not_mem_nil, or_false] at hv; rcases hv with rfl | rfl | rfl | rfl | rfl | rfl | rfl | rfl | rfl <;> rfl
  case c55 => rfl
  case c53 => simp [stC]
  case c54 => exact nfz0 _ _
  rintro v L' rfl
  refine G.q (Quiet.assign rfl) rfl (G.nil (G.then_n (G.ret ?_)))
  have hth : thereT τ p := there_some'.2 ⟨nd, hnd⟩
  refine G.ptCast (b := b4) (l' := stC (statD τ p)) (by (repeat' constructor)) rfl ?_
  exact G.done2 rfl (.cellA rfl ag_43 (by (repeat' constructor)) (by simp [stC]) rfl) (.tmp rfl) ⟨by rw [decide_eq_true hth]; rfl, rfl⟩ (by (repeat' constructor)) (by (repeat' constructor))

set_option maxRecDepth 100000 in
theorem rplace0_spec (x : Nat) (p : Bs) (l : List Rn) (an : Option Addr) (cn : Nat) (v2 v3 : Value) (hn : l.length ≤ 1099511627776) : Fn Tryz.prog 69 #[vptr x, vstr p] [ptc x [.slice an l.length cn, v2, v3] 101, rnR (.slice an l.length cn) l] fun v L => v = vint (placeTo l p) ∧ L = [ptc x [.slice an l.length cn, v2, v3] 101, rnR (.slice an l.length cn) l] := by
 refine Fn.intro (vs := [vptr x, vstr p]) Tryz.func69 rfl rfl ?_
 intro F W
 refine G.seq (G.region (G.q (Quiet.assign rfl) rfl (G.nil (G.then_n (G.seq (G.seq (G.region (G.q (Quiet.assign rfl) rfl (G.nil (G.then_n (G.block ?_)))))))))))
 refine G.loopK (ι := Nat) (fun q E => (5, vint q) :: E) (fun q => []) (fun q => q ≤ l.length ∧ ∀ j (hj : j < q), ∀ (hj2 : j < l.length), l[j].1 ≠ p) (fun q => l.length - q) (0) (ts := [0, 1]) (.cons rfl (.cons rfl (.nil))) (⟨Nat.zero_le _, fun j hj => by omega⟩) ⟨rfl, rfl, rfl, trivial⟩ (by (repeat' constructor)) ?_
 rintro i ⟨hi, hno⟩
 refine G.seq (G.seq (G.region (G.q (Quiet.move rfl) rfl (G.q (Quiet.move rfl) rfl (G.q (Quiet.nilp rfl) rfl (G.q (Quiet.fieldAddr rfl fo_101_0) rfl ?_))))))
 refine G.q (Quiet.load rfl ag_98 (by (repeat' constructor)) (rfl)) rfl ?_
 refine G.q (Quiet.slen rfl Tryz.underlying98 rfl) rfl (G.q (Quiet.int rfl rfl rfl) rfl (G.nil (G.then_n ?_)))
 refine G.condD rfl (fun h12 => ?_) (fun h12 => ?_)
 ·have hi2 : i < l.length := by omega
  refine G.slShape (T := 131) (sz := 12) (v := .slice an l.length cn) (xs := l.flatMap rnC) (by (repeat' constructor)) (by omega) fun bn bn' e0 mbn _ => ?_
  simp only [Value.slice.injEq, true_and] at e0
  obtain ⟨rfl, rfl⟩ := e0
  refine G.skip (G.then_n (G.seq (G.block (G.seq (G.region (G.q (Quiet.move rfl) rfl (G.q (Quiet.nilp rfl) rfl (G.q (Quiet.fieldAddr rfl fo_101_0) rfl ?_))))))))
  refine G.q (Quiet.load rfl ag_98 (by (repeat' constructor)) (rfl)) rfl ?_
  refine G.q (Quiet.move rfl) rfl ?_
  refine G.q (Quiet.indexAddr rfl rfl el_98 (by omega)) rfl ?_
  refine G.q (Quiet.fieldAddr rfl fo_131_0) rfl ?_
  refine G.q (Quiet.loadRd (sz := 12) (j := i * 12 + 0) (p := rnR _ l) rfl ag_9 (by (repeat' constructor)) (fun h hp => slR_rd hp) (by omega) ((rn_cell (l := l) (i := i) (k := 0) (by omega) (by decide)).trans rfl)) rfl ?_
  refine G.q (Quiet.move rfl) rfl (G.q (Quiet.streq rfl rfl) rfl (G.nil (G.then_n ?_)))
  refine G.condD rfl (fun h24 => ?_) (fun h24 => ?_)
  ·refine G.seq (G.region (G.q (Quiet.move rfl) rfl (G.q (Quiet.assign rfl) rfl (G.nil (G.then_n (G.ret (G.blk_r (G.then_r (G.then_r (G.blk_r (G.then_r ?_)))))))))))
   have hz : placeTo l p = (i : Int) := by exact place_at hi2 h24 (fun j hj => hno j hj (by omega))
   exact G.done (l := [.tmp 4]) rfl rfl ⟨by rw [hz], rfl⟩ (by (repeat' constructor)) (by (repeat' constructor))
  ·refine G.skip (G.blk_n (G.then_n (G.region (G.q (Quiet.move rfl) rfl ?_))))
   refine G.q (Quiet.add rfl rfl (by omega)) rfl ?_
   refine G.q (Quiet.assign rfl) rfl (G.nil (G.then_n ?_))
   exact G.roundK (i + 1) (⟨by omega, fun j hj hj2 => by by_cases e : j = i; (subst e; exact h24); exact hno j (by omega) hj2⟩) (by omega) ⟨rfl, rfl, rfl, trivial⟩ (by (repeat' constructor)) (by ((repeat (apply Have.cons; (repeat (first | exact Pick.here | apply Pick.there)))); apply Have.base; repeat' constructor))
 ·refine G.exit (G.then_e (G.then_e (G.blk_e (G.then_n (G.seq (G.region (G.q (Quiet.assign rfl) rfl (G.nil (G.then_n (G.ret ?_))))))))))
  have hz : placeTo l p = -1 := by exact place_none (fun j hj => hno j (by omega) hj)
  exact G.done (l := [.tmp 4]) rfl rfl ⟨by rw [hz], rfl⟩ (by (repeat' constructor)) (by (repeat' constructor))

theorem rplace0_is (x : Nat) (τ : Tr) (p : Bs) (l : List Rn) (hl : ndsZ l = τ.nodes) {an : Option Addr} {cn : Nat} {v2 v3 : Value} {k : Nat} (hn : l.length ≤ 1099511627776) (hk : placeTo τ.nodes p = k) : Fn Tryz.prog 69 #[vptr x, vstr p] [ptc x [.slice an l.length cn, v2, v3] 101, rnR (.slice an l.length cn) l] fun v L => v = vint k ∧ L = [ptc x [.slice an l.length cn, v2, v3] 101, rnR (.slice an l.length cn) l] := by
  have h := rplace0_spec x p l an cn v2 v3 hn
  rw [← place_nds, hl, hk] at h
  exact h
set_option maxRecDepth 100000 in
theorem rrowseq_spec (va vb : Value) (xs ys : List Ac) (p q : HP) (hp : ∀ h : Hp, p h → rdS 2 h va xs.length (xs.flatMap acC)) (hq : ∀ h : Hp, q h → rdS 2 h vb ys.length (ys.flatMap acC)) (hn : xs.length ≤ 1048576) : Fn Tryz.prog 64 #[va, vb] [p, q] fun v L => v = .bool (decide (xs = ys)) ∧ L = [p, q] := by
 refine Fn.intro (vs := [va, vb]) Tryz.func64 rfl rfl ?_
 intro F W
 refine G.rdAny (p := p) hp (by (repeat' constructor)) fun aa ca e0 _ => ?_
 subst e0
 refine G.rdAny (p := q) hq (by (repeat' constructor)) fun ab cb e0 _ => ?_
 subst e0
 refine G.seq (G.region (G.q (Quiet.assign rfl) rfl (G.nil (G.then_n (G.seq (G.seq (G.region (G.q (Quiet.move rfl) rfl (G.q (Quiet.slen rfl Tryz.underlying34 rfl) rfl (G.q (Quiet.move rfl) rfl (G.q (Quiet.slen rfl Tryz.underlying34 rfl) rfl (G.q (Quiet.int rfl rfl rfl) rfl (G.nil (G.then_n ?_))))))))))))))
 refine G.condN rfl (fun h10 => ?_) (fun h10 => ?_)
 ·refine G.seq (G.region (G.q (Quiet.assign rfl) rfl (G.nil (G.then_n (G.ret (G.then_r ?_))))))
  exact G.done (l := [.tmp 4]) rfl rfl ⟨by rw [decide_eq_false (fun e => h10 (by rw [e]))], rfl⟩ (by (repeat' constructor)) (by (repeat' constructor))
 ·have hlen : xs.length = ys.length := by omega
  refine G.skip (G.then_n (G.seq (G.seq (G.region (G.q (Quiet.assign rfl) rfl (G.nil (G.then_n (G.block ?_))))))))
  refine G.loopK (ι := Nat) (fun q E => (5, vint q) :: E) (fun q => []) (fun q => q ≤ xs.length ∧ xs.take q = ys.take q) (fun q => xs.length - q) (0) (ts := [0, 1]) (.cons rfl (.cons rfl (.nil))) (⟨Nat.zero_le _, rfl⟩) ⟨rfl, rfl, rfl, trivial⟩ (by (repeat' constructor)) ?_
  rintro i ⟨hi, hpre⟩
  refine G.seq (G.seq (G.region (G.q (Quiet.move rfl) rfl (G.q (Quiet.move rfl) rfl (G.q (Quiet.slen rfl Tryz.underlying34 rfl) rfl (G.q (Quiet.int rfl rfl rfl) rfl (G.nil (G.then_n ?_))))))))
  refine G.condD rfl (fun h14 => ?_) (fun h14 => ?_)
  ·have hi2 : i < xs.length := by omega
   have hi3 : i < ys.length := by omega
   refine G.rdShape (p := p) hp (by (repeat' constructor)) (by omega) fun ba oa e0 => ?_
   subst e0
   refine G.rdShape (p := q) hq (by (repeat' constructor)) (by omega) fun bb ob e0 => ?_
   subst e0
   refine G.skip (G.then_n (G.seq (G.block (G.seq ?_))))
   refine G.draw [] [[0, 1, 2, 3, 4, 5, 6, 7, 8]] mixed (by kernel_rfl) ?_
   refine Phases.go [] (by (repeat' constructor)) ?_
   refine D.qw [2, 3, 8] rfl (by kernel_rfl) (Quiet.move rfl) ?_
   refine D.qw [2, 3, 8] rfl (by kernel_rfl) (Quiet.move rfl) ?_
   refine D.qw [3, 8] rfl (by kernel_rfl) (Quiet.indexAddr rfl rfl el_34 (by omega)) ?_
   refine D.qw [8] rfl (by kernel_rfl) (Quiet.loadRdA (sz := 2) (j := i * 2) (k := 2) (p := p) (vs := acC xs[i]) rfl ag_104 (by (repeat' constructor)) hp (by simp) (by omega) (by omega) (flatMap_at (f := acC) (sz := 2) (fun _ _ => rfl) (by omega))) ?_
   refine D.qw [6, 7, 8] rfl (by kernel_rfl) (Quiet.move rfl) ?_
   refine D.qw [6, 7, 8] rfl (by kernel_rfl) (Quiet.move rfl) ?_
   refine D.qw [7, 8] rfl (by kernel_rfl) (Quiet.indexAddr rfl rfl el_34 (by omega)) ?_
   refine D.qw [8] rfl (by kernel_rfl) (Quiet.loadRdA (sz := 2) (j := i * 2) (k := 2) (p := q) (vs := acC ys[i]) rfl ag_104 (by (repeat' constructor)) hq (by simp) (by omega) (by omega) (flatMap_at (f := acC) (sz := 2) (fun _ _ => rfl) (by omega))) ?_
   refine D.qw [] rfl (by kernel_rfl) (Quiet.structNe (r := decide (xs[i] = ys[i])) rfl rfl (by kernel_rfl) (ac_eq 9998 _ _)) ?_
   refine D.ph (Phases.fin (G.then_n ?_))
   refine G.condN rfl (fun h25 => ?_) (fun h25 => ?_)
   ·refine G.seq (G.region (G.q (Quiet.assign rfl) rfl (G.nil (G.then_n (G.ret (G.blk_r (G.then_r (G.then_r (G.blk_r (G.then_r ?_))))))))))
    exact G.done (l := [.tmp 4]) rfl rfl ⟨by rw [decide_eq_false (fun e => h25 (by simp only [e]))], rfl⟩ (by (repeat' constructor)) (by (repeat' constructor))
   ·refine G.skip (G.blk_n (G.then_n (G.region (G.q (Quiet.move rfl) rfl ?_))))
    refine G.q (Quiet.add rfl rfl (by omega)) rfl ?_
    refine G.q (Quiet.assign rfl) rfl (G.nil (G.then_n ?_))
    exact G.roundK (i + 1) (⟨by omega, by rw [List.take_succ_eq_append_getElem hi2, List.take_succ_eq_append_getElem hi3, hpre, h25]⟩) (by omega) ⟨rfl, rfl, rfl, trivial⟩ (by (repeat' constructor)) (by ((repeat (apply Have.cons; (repeat (first | exact Pick.here | apply Pick.there)))); apply Have.base; repeat' constructor))
  ·refine G.exit (G.then_e (G.then_e (G.blk_e (G.then_n (G.seq (G.region (G.q (Quiet.assign rfl) rfl (G.nil (G.then_n (G.ret ?_))))))))))
   exact G.done (l := [.tmp 4]) rfl rfl ⟨by rw [decide_eq_true (by have hii : i = xs.length := (by omega); rw [hii, List.take_length] at hpre; rw [hlen, List.take_length] at hpre; exact hpre)], rfl⟩ (by (repeat' constructor)) (by (repeat' constructor))

set_option maxRecDepth 100000 in
theorem rlaynode_spec (x : Nat) (τ : Tr) (p d : Bs) (va : Value) (acl : List Ac) (s : Stt) (q : HP) (hq : ∀ h : Hp, q h → rdS 2 h va acl.length (acl.flatMap acC)) (hacl : acl.length ≤ 1048576) (hpl : p.length ≤ 1048576) (N : Nat) (ho : τ.Ok N) (hN : N ≤ 1073741824) : Fn Tryz.prog 74 #[vptr x, vstr p, vstr d, va, .agg (stC s).toArray] [refR x τ, q] fun v L => v = .tuple #[] ∧ L = [refR x (layZ τ p d acl s), q] := by
 refine Fn.intro (vs := [vptr x, vstr p, vstr d, va, .agg (stC s).toArray]) Tryz.func74 rfl rfl ?_
 intro F W
 have hof := ho.few
 refine G.seq (G.region ?_)
 refine G.op (OpSpec.box rfl) (by (repeat' constructor)) rfl ?nx1
 rintro v L' ⟨b9, rfl, rfl⟩
 refine G.nil ?_
 refine G.ptCast (b := b9) (l' := stC s) (by (repeat' constructor)) rfl ?_
 refine G.then_n (G.seq (G.seq (G.region (G.q (Quiet.move rfl) rfl ?_))))
 refine G.op (OpSpec.call Tryz.func111 rfl rfl (vs := [_]) rfl (rcheck_spec p (by omega))) (by (repeat' constructor)) rfl ?nx4
 rintro v L' ⟨rfl, rfl⟩
 refine G.q (Quiet.int rfl rfl rfl) rfl (G.nil (G.then_n ?_))
 refine G.condN rfl (fun h12 => ?_) (fun h12 => ?_)
 ·refine G.ret (G.then_r ?_)
  refine G.rfCast (x := x) (τ' := layZ τ p d acl s) (by (repeat' constructor)) (by unfold layZ; rw [if_neg h12]) ?_
  exact G.done (l := []) rfl rfl ⟨rfl, rfl⟩ (by (repeat' constructor)) (by (repeat' constructor))
 ·refine G.skip (G.then_n (G.seq (G.region (G.q (Quiet.fieldAddr rfl fo_43_7) rfl ?_))))
  refine G.op (OpSpec.store rfl rfl rfl sz_3 ?c8 ?c9) (by (repeat' constructor)) rfl ?nx10
  case c8 => simp [stC]
  case c9 => exact nfz0 _ _
  rintro v L' rfl
  refine G.nil (G.then_n (G.seq (G.region (G.q (Quiet.fieldAddr rfl fo_43_8) rfl ?_))))
  refine G.op (OpSpec.store rfl rfl rfl sz_3 ?c12 ?c13) (by (repeat' constructor)) rfl ?nx14
  case c12 => simp [stC]
  case c13 => exact nfz0 _ _
  rintro v L' rfl
  refine G.nil ?_
  refine G.ptCast (b := b9) (l' := [vint s.cz, vint s.mz, vint s.pz, vint s.ver, vint s.cver, vint s.av, vint s.own, vint 0, vint 0]) (by (repeat' constructor)) rfl ?_
  refine G.then_n ?_
  refine G.draw [4, 7] [[0, 1, 2, 3, 5, 4, 6], [7]] mixed (by kernel_rfl) ?_
  refine Phases.go [ptc b9 _ _] (by (repeat' constructor)) ?_
  refine D.q rfl (by kernel_rfl) (Quiet.move rfl) ?_
  refine D.q rfl (by kernel_rfl) (Quiet.move rfl) ?_
  refine D.q rfl (by kernel_rfl) (Quiet.move rfl) ?_
  refine D.qw [4, 6] rfl (by kernel_rfl) (Quiet.move rfl) ?_
  refine D.q rfl (by kernel_rfl) (Quiet.loadAs (vs := [vint s.cz, vint s.mz, vint s.pz, vint s.ver, vint s.cver, vint s.av, vint s.own, vint 0, vint 0]) rfl ag_43 (by (repeat' constructor)) (by simp) rfl) ?_
  refine D.h rfl (by kernel_rfl) (OpSpec.call Tryz.func105 rfl rfl (vs := [_]) rfl (rrows_spec va acl q hq hacl)) (by (repeat' constructor)) ?nx20
  rintro v L' ⟨⟨a8, c8, rfl⟩, rfl⟩
  refine D.qw [] rfl (by kernel_rfl) (Quiet.buildN (pl := [(0, 1), (1, 1), (2, 1), (3, 9)]) (us := [(0, vstr p), (1, vstr d), (2, .slice a8 acl.length c8), (3, .agg ([vint s.cz, vint s.mz, vint s.pz, vint s.ver, vint s.cver, vint s.av, vint s.own, vint 0, vint 0] : List Value).toArray)]) (cells := [vstr p, vstr d, .slice a8 acl.length c8] ++ [vint s.cz, vint s.mz, vint s.pz, vint s.ver, vint s.cver, vint s.av, vint s.own, vint 0, vint 0]) Tryz.underlying131 (by kernel_rfl) ze_131 rfl (fill_rnode _ _ _ _ _ _ _ _ _ _ _ _ _ _)) ?_
  refine D.ph ?_
  refine Phases.go [] (by (repeat' constructor)) ?_
  refine D.h rfl (by kernel_rfl) (OpSpec.call Tryz.func112 rfl rfl (vs := [_, _]) rfl (rlay2_spec x τ ((p, (.slice a8 acl.length c8, laidN d acl s)) : Rn) rfl N ho (by omega))) (by (repeat' constructor)) ?nx23
  rintro v L' ⟨rfl, rfl⟩
  refine D.ph (Phases.fin (G.done_n ?_))
  refine G.rfCast (x := x) (τ' := layZ τ p d acl s) (by (repeat' constructor)) (by unfold layZ; rw [if_pos h12]) ?_
  exact G.done (l := []) rfl rfl ⟨rfl, rfl⟩ (by (repeat' constructor)) (by (repeat' constructor))

set_option maxRecDepth 100000 in
theorem rlayses_spec (x : Nat) (τ : Tr) (id n : Int) (s : Bs) (N : Nat) (ho : τ.Ok N) (hN : N + 1 ≤ 1073741824) : Fn Tryz.prog 76 #[vptr x, vint id, vint n, vstr s] [refR x τ] fun v L => v = .tuple #[] ∧ L = [refR x (layS τ id n s)] := by
 refine Fn.intro (vs := [vptr x, vint id, vint n, vstr s]) Tryz.func76 rfl rfl ?_
 intro F W
 have hosf := ho.sfew
 refine G.seq (G.region (G.q (Quiet.move rfl) rfl (G.q (Quiet.int rfl rfl rfl) rfl (G.nil (G.then_n ?_)))))
 refine G.condD rfl (fun h9 => ?_) (fun h9 => ?_)
 ·refine G.region (G.q (Quiet.move rfl) rfl (G.q (Quiet.move rfl) rfl (G.q (Quiet.move rfl) rfl (G.q (Quiet.move rfl) rfl ?_))))
  refine G.q (Quiet.to (v' := .agg (rsC (id, (n, s))).toArray) (Quiet.build (us := [(0, _), (1, _), (2, _)]) fl_134 ze_134 rfl rfl (by simp [isCell])) rfl) rfl ?_
  refine G.op (OpSpec.call Tryz.func59 rfl rfl (vs := [_, _]) rfl (ropen_spec x τ id n s N ho (by omega))) (by (repeat' constructor)) rfl ?nx8
  rintro v L' ⟨rfl, rfl⟩
  refine G.nil (G.done_n ?_)
  refine G.rfCast (x := x) (τ' := layS τ id n s) (by (repeat' constructor)) (by unfold layS; rw [if_pos h9]) ?_
  exact G.done (l := []) rfl rfl ⟨rfl, rfl⟩ (by (repeat' constructor)) (by (repeat' constructor))
 ·refine G.skip (G.done_n ?_)
  refine G.rfCast (x := x) (τ' := layS τ id n s) (by (repeat' constructor)) (by unfold layS; rw [if_neg h9]) ?_
  exact G.done (l := []) rfl rfl ⟨rfl, rfl⟩ (by (repeat' constructor)) (by (repeat' constructor))

theorem rs_eq (d : Nat) (a b : Int × (Int × Bs)) : EqAt Tryz.prog (d + 2) 134 (.agg (rsC a).toArray) (.agg (rsC b).toArray) (decide (a = b)) := by
  have h := EqAt.struct (d := d + 1) (xs := rsC a) (ys := rsC b) Tryz.underlying134 (by kernel_rfl)
    (.cons (FEq.cell (by decide) ag_3 rfl rfl (EqAt.int Tryz.underlying3 a.1 b.1)) (.cons (FEq.cell (by decide) ag_3 rfl rfl (EqAt.int Tryz.underlying3 a.2.1 b.2.1)) (.cons (FEq.cell (by decide) ag_9 rfl rfl (EqAt.str Tryz.underlying9 a.2.2 b.2.2)) .nil)))
  have e : ([decide (a.1 = b.1), decide (a.2.1 = b.2.1), decide (a.2.2 = b.2.2)].all id) = decide (a = b) := by
    obtain ⟨a1, a2, a3⟩ := a; obtain ⟨b1, b2, b3⟩ := b
    simp [Bool.decide_and]
  rw [← e]; exact h
set_option maxHeartbeats 1000000 in
set_option maxRecDepth 100000 in
theorem rsame_spec (x y : Nat) (τ υ : Tr) (N M : Nat) (ho : τ.Ok N) (hu : υ.Ok M) (hN : N ≤ 1073741824) (hM : M ≤ 1073741824) : Fn Tryz.prog 29 #[vptr x, vptr y] [refR x τ, refR y υ] fun v L => v = .bool (decide (τ = υ)) ∧ L = [refR x τ, refR y υ] := by
 refine Fn.intro (vs := [vptr x, vptr y]) Tryz.func29 rfl rfl ?_
 intro F W
 have hof := ho.few
 have hosf := ho.sfew
 have huf := hu.few
 have husf := hu.sfew
 refine G.seq (G.region (G.q (Quiet.assign rfl) rfl (G.nil (G.then_n (G.seq (G.seq ?_))))))
 refine G.rfOpen (x := x) (τ := τ) (by (repeat' constructor)) fun an cn as1 cs l hl => ?_
 have hll := nds_len hl
 refine G.rfOpen (x := y) (τ := υ) (by (repeat' constructor)) fun am cm as2 cs2 m hm => ?_
 have hml := nds_len hm
 refine G.draw [] [[0, 1, 2, 3, 4, 5, 6, 7, 8, 9, 10, 11, 12, 13, 14, 15, 16, 17, 18, 19, 20, 21, 22, 23, 24, 25, 26, 27, 28, 29, 30, 31, 32, 33, 34]] mixed (by kernel_rfl) ?_
 refine Phases.go [] (by (repeat' constructor)) ?_
 refine D.qw [1, 2, 3, 4, 10, 11, 12, 13, 14, 15, 16, 17, 18, 19, 20, 21, 22, 23, 24, 25, 26, 27, 28, 29, 30, 31, 32, 33, 34] rfl (by kernel_rfl) (Quiet.move rfl) ?_
 refine D.qw [2, 3, 4, 10, 11, 12, 13, 14, 15, 16, 17, 18, 19, 20, 21, 22, 23, 24, 25, 26, 27, 28, 29, 30, 31, 32, 33, 34] rfl (by kernel_rfl) (Quiet.nilp rfl) ?_
 refine D.qw [3, 4, 10, 11, 12, 13, 14, 15, 16, 17, 18, 19, 20, 21, 22, 23, 24, 25, 26, 27, 28, 29, 30, 31, 32, 33, 34] rfl (by kernel_rfl) (Quiet.fieldAddr rfl fo_101_0) ?_
 refine D.qw [4, 10, 11, 12, 13, 14, 15, 16, 17, 18, 19, 20, 21, 22, 23, 24, 25, 26, 27, 28, 29, 30, 31, 32, 33, 34] rfl (by kernel_rfl) (Quiet.load rfl ag_98 (by (repeat' constructor)) (rfl)) ?_
 refine D.qw [10, 11, 12, 13, 14, 15, 16, 17, 18, 19, 20, 21, 22, 23, 24, 25, 26, 27, 28, 29, 30, 31, 32, 33, 34] rfl (by kernel_rfl) (Quiet.slen rfl Tryz.underlying98 rfl) ?_
 refine D.qw [6, 7, 8, 9, 10, 11, 12, 13, 14, 15, 16, 17, 18, 19, 20, 21, 22, 23, 24, 25, 26, 27, 28, 29, 30, 31, 32, 33, 34] rfl (by kernel_rfl) (Quiet.move rfl) ?_
 refine D.qw [7, 8, 9, 10, 11, 12, 13, 14, 15, 16, 17, 18, 19, 20, 21, 22, 23, 24, 25, 26, 27, 28, 29, 30, 31, 32, 33, 34] rfl (by kernel_rfl) (Quiet.nilp rfl) ?_
 refine D.qw [8, 9, 10, 11, 12, 13, 14, 15, 16, 17, 18, 19, 20, 21, 22, 23, 24, 25, 26, 27, 28, 29, 30, 31, 32, 33, 34] rfl (by kernel_rfl) (Quiet.fieldAddr rfl fo_101_0) ?_
 refine D.qw [9, 10, 11, 12, 13, 14, 15, 16, 17, 18, 19, 20, 21, 22, 23, 24, 25, 26, 27, 28, 29, 30, 31, 32, 33, 34] rfl (by kernel_rfl) (Quiet.load rfl ag_98 (by (repeat' constructor)) (rfl)) ?_
 refine D.qw [10, 11, 12, 13, 14, 15, 16, 17, 18, 19, 20, 21, 22, 23, 24, 25, 26, 27, 28, 29, 30, 31, 32, 33, 34] rfl (by kernel_rfl) (Quiet.slen rfl Tryz.underlying98 rfl) ?_
 refine D.qw [11, 12, 13, 14, 15, 16, 17, 18, 19, 20, 21, 22, 23, 24, 25, 26, 27, 28, 29, 30, 31, 32, 33, 34] rfl (by kernel_rfl) (Quiet.int rfl rfl rfl) ?_
 refine D.qw [12, 13, 14, 15, 16, 17, 18, 19, 20, 21, 22, 23, 24, 25, 26, 27, 28, 29, 30, 31, 32, 33, 34] rfl (by kernel_rfl) (Quiet.move rfl) ?_
 refine D.ndec (t := 21) rfl (fun h1_21 => ?_) (fun h1_21 => ?_)
 ·refine D.kNT (t := 20) rfl h1_21 ?_
  refine D.gs (t := 21) rfl rfl rfl rfl (by kernel_rfl) ?_
  refine D.gs (t := 21) rfl rfl rfl rfl (by kernel_rfl) ?_
  refine D.gs (t := 21) rfl rfl rfl rfl (by kernel_rfl) ?_
  refine D.gs (t := 21) rfl rfl rfl rfl (by kernel_rfl) ?_
  refine D.gs (t := 21) rfl rfl rfl rfl (by kernel_rfl) ?_
  refine D.gs (t := 21) rfl rfl rfl rfl (by kernel_rfl) ?_
  refine D.gs (t := 21) rfl rfl rfl rfl (by kernel_rfl) ?_
  refine D.gs (t := 21) rfl rfl rfl rfl (by kernel_rfl) ?_
  refine D.gs (t := 21) rfl rfl rfl rfl (by kernel_rfl) ?_
  refine D.gs (t := 21) rfl rfl rfl rfl (by kernel_rfl) ?_
  refine D.gs (t := 21) rfl rfl rfl rfl (by kernel_rfl) ?_
  refine D.qw [24, 25, 26, 27, 28, 29, 30, 31, 32, 33, 34] rfl (by kernel_rfl) (Quiet.pickT rfl rfl) ?_
  refine D.qw [25, 26, 27, 28, 29, 30, 31, 32, 33, 34] rfl (by kernel_rfl) (Quiet.move rfl) ?_
  refine D.gs (t := 34) rfl rfl rfl rfl (by kernel_rfl) ?_
  refine D.gs (t := 34) rfl rfl rfl rfl (by kernel_rfl) ?_
  refine D.gs (t := 34) rfl rfl rfl rfl (by kernel_rfl) ?_
  refine D.gs (t := 34) rfl rfl rfl rfl (by kernel_rfl) ?_
  refine D.gs (t := 34) rfl rfl rfl rfl (by kernel_rfl) ?_
  refine D.gs (t := 34) rfl rfl rfl rfl (by kernel_rfl) ?_
  refine D.gs (t := 34) rfl rfl rfl rfl (by kernel_rfl) ?_
  refine D.gs (t := 34) rfl rfl rfl rfl (by kernel_rfl) ?_
  refine D.gs (t := 34) rfl rfl rfl rfl (by kernel_rfl) ?_
  refine D.qw [] rfl (by kernel_rfl) (Quiet.pickT rfl rfl) ?_
  refine D.ph (Phases.fin ?_)
  refine G.rfFold (x := x) (τ := τ) (l := l) hl (by (repeat' constructor)) rfl rfl rfl rfl rfl ?_
  refine G.rfFold (x := y) (τ := υ) (l := m) hm (by (repeat' constructor)) rfl rfl rfl rfl rfl ?_
  refine G.then_n (G.condT rfl (G.seq (G.region (G.q (Quiet.assign rfl) rfl (G.nil (G.then_n (G.ret (G.then_r ?_))))))))
  exact G.done (l := [.tmp 4]) rfl rfl ⟨by rw [decide_eq_false (fun e => by subst e; omega)], rfl⟩ (by (repeat' constructor)) (by (repeat' constructor))
 ·refine D.kNF (t := 20) rfl h1_21 ?_
  refine D.gqw [13, 14, 15, 16, 22, 23, 24, 25, 26, 27, 28, 29, 30, 31, 32, 33, 34] (t := 21) rfl rfl rfl (by kernel_rfl) (Quiet.move rfl) ?_
  refine D.gqw [14, 15, 16, 22, 23, 24, 25, 26, 27, 28, 29, 30, 31, 32, 33, 34] (t := 21) rfl rfl rfl (by kernel_rfl) (Quiet.nilp rfl) ?_
  refine D.gqw [15, 16, 22, 23, 24, 25, 26, 27, 28, 29, 30, 31, 32, 33, 34] (t := 21) rfl rfl rfl (by kernel_rfl) (Quiet.fieldAddr rfl fo_101_1) ?_
  refine D.gqw [16, 22, 23, 24, 25, 26, 27, 28, 29, 30, 31, 32, 33, 34] (t := 21) rfl rfl rfl (by kernel_rfl) (Quiet.load rfl ag_99 (by (repeat' constructor)) (rfl)) ?_
  refine D.gqw [22, 23, 24, 25, 26, 27, 28, 29, 30, 31, 32, 33, 34] (t := 21) rfl rfl rfl (by kernel_rfl) (Quiet.slen rfl Tryz.underlying99 rfl) ?_
  refine D.gqw [18, 19, 20, 21, 22, 23, 24, 25, 26, 27, 28, 29, 30, 31, 32, 33, 34] (t := 21) rfl rfl rfl (by kernel_rfl) (Quiet.move rfl) ?_
  refine D.gqw [19, 20, 21, 22, 23, 24, 25, 26, 27, 28, 29, 30, 31, 32, 33, 34] (t := 21) rfl rfl rfl (by kernel_rfl) (Quiet.nilp rfl) ?_
  refine D.gqw [20, 21, 22, 23, 24, 25, 26, 27, 28, 29, 30, 31, 32, 33, 34] (t := 21) rfl rfl rfl (by kernel_rfl) (Quiet.fieldAddr rfl fo_101_1) ?_
  refine D.gqw [21, 22, 23, 24, 25, 26, 27, 28, 29, 30, 31, 32, 33, 34] (t := 21) rfl rfl rfl (by kernel_rfl) (Quiet.load rfl ag_99 (by (repeat' constructor)) (rfl)) ?_
  refine D.gqw [22, 23, 24, 25, 26, 27, 28, 29, 30, 31, 32, 33, 34] (t := 21) rfl rfl rfl (by kernel_rfl) (Quiet.slen rfl Tryz.underlying99 rfl) ?_
  refine D.gqw [23, 24, 25, 26, 27, 28, 29, 30, 31, 32, 33, 34] (t := 21) rfl rfl rfl (by kernel_rfl) (Quiet.int rfl rfl rfl) ?_
  refine D.qw [24, 25, 26, 27, 28, 29, 30, 31, 32, 33, 34] rfl (by kernel_rfl) (Quiet.pickF rfl rfl) ?_
  refine D.qw [25, 26, 27, 28, 29, 30, 31, 32, 33, 34] rfl (by kernel_rfl) (Quiet.move rfl) ?_
  refine D.ndec (t := 34) rfl (fun h1_34 => ?_) (fun h1_34 => ?_)
  ·refine D.kNT (t := 32) rfl h1_34 (D.kNT (t := 33) rfl h1_34 ?_)
   refine D.gs (t := 34) rfl rfl rfl rfl (by kernel_rfl) ?_
   refine D.gs (t := 34) rfl rfl rfl rfl (by kernel_rfl) ?_
   refine D.gs (t := 34) rfl rfl rfl rfl (by kernel_rfl) ?_
   refine D.gs (t := 34) rfl rfl rfl rfl (by kernel_rfl) ?_
   refine D.gs (t := 34) rfl rfl rfl rfl (by kernel_rfl) ?_
   refine D.gs (t := 34) rfl rfl rfl rfl (by kernel_rfl) ?_
   refine D.gs (t := 34) rfl rfl rfl rfl (by kernel_rfl) ?_
   refine D.gs (t := 34) rfl rfl rfl rfl (by kernel_rfl) ?_
   refine D.gs (t := 34) rfl rfl rfl rfl (by kernel_rfl) ?_
   refine D.qw [] rfl (by kernel_rfl) (Quiet.pickT rfl rfl) ?_
   refine D.ph (Phases.fin ?_)
   refine G.rfFold (x := x) (τ := τ) (l := l) hl (by (repeat' constructor)) rfl rfl rfl rfl rfl ?_
   refine G.rfFold (x := y) (τ := υ) (l := m) hm (by (repeat' constructor)) rfl rfl rfl rfl rfl ?_
   refine G.then_n (G.condT rfl (G.seq (G.region (G.q (Quiet.assign rfl) rfl (G.nil (G.then_n (G.ret (G.then_r ?_))))))))
   exact G.done (l := [.tmp 4]) rfl rfl ⟨by rw [decide_eq_false (fun e => by subst e; omega)], rfl⟩ (by (repeat' constructor)) (by (repeat' constructor))
  ·refine D.kNF (t := 32) rfl h1_34 (D.kNF (t := 33) rfl h1_34 ?_)
   refine D.gqw [26, 27, 28, 33, 34] (t := 34) rfl rfl rfl (by kernel_rfl) (Quiet.move rfl) ?_
   refine D.gqw [27, 28, 33, 34] (t := 34) rfl rfl rfl (by kernel_rfl) (Quiet.nilp rfl) ?_
   refine D.gqw [28, 33, 34] (t := 34) rfl rfl rfl (by kernel_rfl) (Quiet.fieldAddr rfl fo_101_2) ?_
   refine D.gqw [33, 34] (t := 34) rfl rfl rfl (by kernel_rfl) (Quiet.load rfl ag_3 (by (repeat' constructor)) (rfl)) ?_
   refine D.gqw [30, 31, 32, 33, 34] (t := 34) rfl rfl rfl (by kernel_rfl) (Quiet.move rfl) ?_
   refine D.gqw [31, 32, 33, 34] (t := 34) rfl rfl rfl (by kernel_rfl) (Quiet.nilp rfl) ?_
   refine D.gqw [32, 33, 34] (t := 34) rfl rfl rfl (by kernel_rfl) (Quiet.fieldAddr rfl fo_101_2) ?_
   refine D.gqw [33, 34] (t := 34) rfl rfl rfl (by kernel_rfl) (Quiet.load rfl ag_3 (by (repeat' constructor)) (rfl)) ?_
   refine D.gqw [34] (t := 34) rfl rfl rfl (by kernel_rfl) (Quiet.int rfl rfl rfl) ?_
   refine D.qw [] rfl (by kernel_rfl) (Quiet.pickF rfl rfl) ?_
   refine D.ph (Phases.fin ?_)
   refine G.rfFold (x := x) (τ := τ) (l := l) hl (by (repeat' constructor)) rfl rfl rfl rfl rfl ?_
   refine G.rfFold (x := y) (τ := υ) (l := m) hm (by (repeat' constructor)) rfl rfl rfl rfl rfl ?_
   refine G.then_n ?_
   refine G.condN rfl (fun h44 => ?_) (fun h44 => ?_)
   ·refine G.seq (G.region (G.q (Quiet.assign rfl) rfl (G.nil (G.then_n (G.ret (G.then_r ?_))))))
    exact G.done (l := [.tmp 4]) rfl rfl ⟨by rw [decide_eq_false (fun e => by subst e; omega)], rfl⟩ (by (repeat' constructor)) (by (repeat' constructor))
   ·refine G.skip (G.then_n (G.seq (G.seq (G.region (G.q (Quiet.assign rfl) rfl (G.nil (G.then_n (G.block ?_))))))))
    have hnl : τ.nodes.length = υ.nodes.length := by omega
    have hsl : τ.sess.length = υ.sess.length := by omega
    have hzx : τ.zx = υ.zx := by first | assumption | omega
    refine G.loopK (ι := Nat) (fun q E => (5, vint q) :: E) (fun q => [refR x τ, refR y υ]) (fun q => q ≤ τ.sess.length ∧ τ.sess.take q = υ.sess.take q) (fun q => τ.sess.length - q) (0) (ts := [0, 1]) (.cons rfl (.cons rfl (.nil))) (⟨Nat.zero_le _, rfl⟩) ⟨rfl, rfl, rfl, trivial⟩ (by (repeat' constructor)) ?_
    rintro i ⟨hi, hpre⟩
    refine G.seq (G.seq ?_)
    refine G.rfOpen (x := x) (τ := τ) (by (repeat' constructor)) fun an cn as1 cs l hl => ?_
    refine G.region (G.q (Quiet.move rfl) rfl (G.q (Quiet.move rfl) rfl (G.q (Quiet.nilp rfl) rfl (G.q (Quiet.fieldAddr rfl fo_101_1) rfl ?_))))
    refine G.q (Quiet.load rfl ag_99 (by (repeat' constructor)) (rfl)) rfl ?_
    refine G.q (Quiet.slen rfl Tryz.underlying99 rfl) rfl (G.q (Quiet.int rfl rfl rfl) rfl (G.nil ?_))
    refine G.rfFold (x := x) (τ := τ) (l := l) hl (by (repeat' constructor)) rfl rfl rfl rfl rfl ?_
    refine G.then_n ?_
    refine G.condD rfl (fun h51 => ?_) (fun h51 => ?_)
    ·have hi2 : i < τ.sess.length := by omega
     have hi3 : i < υ.sess.length := by omega
     refine G.skip (G.then_n (G.seq (G.block (G.seq ?_))))
     refine G.rfOpen (x := x) (τ := τ) (by (repeat' constructor)) fun an cn as1 cs l hl => ?_
     have hll := nds_len hl
     refine G.rfOpen (x := y) (τ := υ) (by (repeat' constructor)) fun am cm as2 cs2 m hm => ?_
     have hml := nds_len hm
     refine G.slShape (T := 134) (sz := 3) (v := .slice as1 τ.sess.length cs) (xs := τ.sess.flatMap rsC) (by (repeat' constructor)) (by omega) fun bs bs' e0 mbs _ => ?_
     simp only [Value.slice.injEq, true_and] at e0
     obtain ⟨rfl, rfl⟩ := e0
     refine G.slShape (T := 134) (sz := 3) (v := .slice as2 υ.sess.length cs2) (xs := υ.sess.flatMap rsC) (by (repeat' constructor)) (by omega) fun bt bt' e0 mbt _ => ?_
     simp only [Value.slice.injEq, true_and] at e0
     obtain ⟨rfl, rfl⟩ := e0
     refine G.draw [] [[0, 1, 2, 3, 4, 5, 6, 7, 8, 9, 10, 11, 12, 13, 14]] mixed (by kernel_rfl) ?_
     refine Phases.go [] (by (repeat' constructor)) ?_
     refine D.qw [1, 2, 3, 5, 6, 14] rfl (by kernel_rfl) (Quiet.move rfl) ?_
     refine D.qw [2, 3, 5, 6, 14] rfl (by kernel_rfl) (Quiet.nilp rfl) ?_
     refine D.qw [3, 5, 6, 14] rfl (by kernel_rfl) (Quiet.fieldAddr rfl fo_101_1) ?_
     refine D.qw [5, 6, 14] rfl (by kernel_rfl) (Quiet.load rfl ag_99 (by (repeat' constructor)) (rfl)) ?_
     refine D.qw [5, 6, 14] rfl (by kernel_rfl) (Quiet.move rfl) ?_
     refine D.qw [6, 14] rfl (by kernel_rfl) (Quiet.indexAddr rfl rfl el_99 (by omega)) ?_
     refine D.qw [14] rfl (by kernel_rfl) (Quiet.loadRdA (sz := 3) (j := i * 3) (k := 3) (p := rsR _ τ.sess) (vs := rsC τ.sess[i]) rfl ag_134 (by (repeat' constructor)) (fun h hp => slR_rd hp) (by omega) (by omega) (by omega) (flatMap_at (f := rsC) (sz := 3) (fun _ _ => rfl) (by omega))) ?_
     refine D.qw [8, 9, 10, 12, 13, 14] rfl (by kernel_rfl) (Quiet.move rfl) ?_
     refine D.qw [9, 10, 12, 13, 14] rfl (by kernel_rfl) (Quiet.nilp rfl) ?_
     refine D.qw [10, 12, 13, 14] rfl (by kernel_rfl) (Quiet.fieldAddr rfl fo_101_1) ?_
     refine D.qw [12, 13, 14] rfl (by kernel_rfl) (Quiet.load rfl ag_99 (by (repeat' constructor)) (rfl)) ?_
     refine D.qw [12, 13, 14] rfl (by kernel_rfl) (Quiet.move rfl) ?_
     refine D.qw [13, 14] rfl (by kernel_rfl) (Quiet.indexAddr rfl rfl el_99 (by omega)) ?_
     refine D.qw [14] rfl (by kernel_rfl) (Quiet.loadRdA (sz := 3) (j := i * 3) (k := 3) (p := rsR _ υ.sess) (vs := rsC υ.sess[i]) rfl ag_134 (by (repeat' constructor)) (fun h hp => slR_rd hp) (by omega) (by omega) (by omega) (flatMap_at (f := rsC) (sz := 3) (fun _ _ => rfl) (by omega))) ?_
     refine D.qw [] rfl (by kernel_rfl) (Quiet.structNe (r := decide (τ.sess[i] = υ.sess[i])) rfl rfl (by kernel_rfl) (rs_eq 9998 _ _)) ?_
     refine D.ph (Phases.fin ?_)
     refine G.rfFold (x := x) (τ := τ) (l := l) hl (by (repeat' constructor)) rfl rfl rfl rfl rfl ?_
     refine G.rfFold (x := y) (τ := υ) (l := m) hm (by (repeat' constructor)) rfl rfl rfl rfl rfl ?_
     refine G.then_n ?_
     refine G.condN rfl (fun h68 => ?_) (fun h68 => ?_)
     ·refine G.seq (G.region (G.q (Quiet.assign rfl) rfl (G.nil (G.then_n (G.ret (G.blk_r (G.then_r (G.then_r (G.blk_r (G.then_r ?_))))))))))
      exact G.done (l := [.tmp 4]) rfl rfl ⟨by rw [decide_eq_false (fun e => by subst e; exact h68 rfl)], rfl⟩ (by (repeat' constructor)) (by (repeat' constructor))
     ·refine G.skip (G.blk_n (G.then_n (G.region (G.q (Quiet.move rfl) rfl ?_))))
      refine G.q (Quiet.add rfl rfl (by omega)) rfl ?_
      refine G.q (Quiet.assign rfl) rfl (G.nil (G.then_n ?_))
      exact G.roundK (i + 1) (⟨by omega, by rw [List.take_succ_eq_append_getElem hi2, List.take_succ_eq_append_getElem hi3, hpre, h68]⟩) (by omega) ⟨rfl, rfl, rfl, trivial⟩ (by (repeat' constructor)) (by ((repeat (apply Have.cons; (repeat (first | exact Pick.here | apply Pick.there)))); apply Have.base; repeat' constructor))
    ·have hii : i = τ.sess.length := by omega
     have hss : τ.sess = υ.sess := by rw [hii, List.take_length, hsl, List.take_length] at hpre; exact hpre
     refine G.exit (G.then_e (G.then_e (G.blk_e (G.then_n (G.seq (G.seq (G.region (G.q (Quiet.assign rfl) rfl (G.nil (G.then_n (G.block ?_)))))))))))
     refine G.loopK (ι := Nat) (fun q E => (6, vint q) :: E) (fun q => [refR x τ, refR y υ]) (fun q => q ≤ τ.nodes.length ∧ τ.nodes.take q = υ.nodes.take q) (fun q => τ.nodes.length - q) (0) (ts := [0, 1]) (.cons rfl (.cons rfl (.nil))) (⟨Nat.zero_le _, rfl⟩) ⟨rfl, rfl, rfl, trivial⟩ (by (repeat' constructor)) ?_
     rintro j ⟨hj, hprj⟩
     refine G.seq (G.seq ?_)
     refine G.rfOpen (x := x) (τ := τ) (by (repeat' constructor)) fun an cn as1 cs l hl => ?_
     have hll := nds_len hl
     refine G.region (G.q (Quiet.move rfl) rfl (G.q (Quiet.move rfl) rfl (G.q (Quiet.nilp rfl) rfl (G.q (Quiet.fieldAddr rfl fo_101_0) rfl ?_))))
     refine G.q (Quiet.load rfl ag_98 (by (repeat' constructor)) (rfl)) rfl ?_
     refine G.q (Quiet.slen rfl Tryz.underlying98 rfl) rfl (G.q (Quiet.int rfl rfl rfl) rfl (G.nil ?_))
     refine G.rfFold (x := x) (τ := τ) (l := l) hl (by (repeat' constructor)) rfl rfl rfl rfl rfl ?_
     refine G.then_n ?_
     refine G.condD rfl (fun h75 => ?_) (fun h75 => ?_)
     ·have hj2 : j < τ.nodes.length := by omega
      have hj3 : j < υ.nodes.length := by omega
      have haclj := ho.acls _ (List.getElem_mem hj2)
      refine G.skip (G.then_n (G.seq (G.block (G.seq ?_))))
      refine G.rfOpen (x := x) (τ := τ) (by (repeat' constructor)) fun an cn as1 cs l hl => ?_
      have hll := nds_len hl
      refine G.rfOpen (x := y) (τ := υ) (by (repeat' constructor)) fun am cm as2 cs2 m hm => ?_
      have hml := nds_len hm
      have hjl : j < l.length := by omega
      have hjm : j < m.length := by omega
      have hgl := nds_get hl hjl
      have hgm := nds_get hm hjm
      refine G.aclShape (l := l) (i := j) hjl (by (repeat' constructor)) fun hcl => ?_
      refine G.aclShape (l := m) (i := j) hjm (by (repeat' constructor)) fun hcm => ?_
      refine G.slShape (T := 131) (sz := 12) (v := .slice an l.length cn) (xs := l.flatMap rnC) (by (repeat' constructor)) (by omega) fun bn bn' e0 mbn _ => ?_
      simp only [Value.slice.injEq, true_and] at e0
      obtain ⟨rfl, rfl⟩ := e0
      refine G.slShape (T := 131) (sz := 12) (v := .slice am m.length cm) (xs := m.flatMap rnC) (by (repeat' constructor)) (by omega) fun bm bm' e0 mbm _ => ?_
      simp only [Value.slice.injEq, true_and] at e0
      obtain ⟨rfl, rfl⟩ := e0
      refine G.region (G.q (Quiet.move rfl) rfl (G.q (Quiet.nilp rfl) rfl (G.q (Quiet.fieldAddr rfl fo_101_0) rfl ?_)))
      refine G.q (Quiet.load rfl ag_98 (by (repeat' constructor)) (rfl)) rfl ?_
      refine G.q (Quiet.move rfl) rfl ?_
      refine G.q (Quiet.indexAddr rfl rfl el_98 (by omega)) rfl ?_
      refine G.q (Quiet.loadRdA (sz := 12) (j := j * 12) (k := 12) (p := rnR _ l) (vs := rnC l[j]) rfl ag_131 (by (repeat' constructor)) (fun h hp => slR_rd hp) (by omega) (by omega) (by omega) (flatMap_at (f := rnC) (sz := 12) (fun _ _ => rfl) (by omega))) rfl ?_
      refine G.op (OpSpec.allocA ze_131) (by (repeat' constructor)) rfl ?nx80
      rintro v L' ⟨b7, rfl, rfl⟩
      refine G.op (OpSpec.storeA rfl rfl ?c82 sz_131 ?c85 ?c83 ?c84) (by (repeat' constructor)) rfl ?nx86
      case c82 => exact rn_cells hcl
      case c85 => rfl
      case c83 => simp [rnC]
      case c84 => exact nfz0 _ _
      rintro v L' rfl
      refine G.nil ?_
      refine G.ptCast (b := b7) (l' := rnC l[j]) (by (repeat' constructor)) rfl ?_
      refine G.then_n (G.seq (G.region (G.q (Quiet.move rfl) rfl (G.q (Quiet.nilp rfl) rfl (G.q (Quiet.fieldAddr rfl fo_101_0) rfl ?_)))))
      refine G.q (Quiet.load rfl ag_98 (by (repeat' constructor)) (rfl)) rfl ?_
      refine G.q (Quiet.move rfl) rfl ?_
      refine G.q (Quiet.indexAddr rfl rfl el_98 (by omega)) rfl ?_
      refine G.q (Quiet.loadRdA (sz := 12) (j := j * 12) (k := 12) (p := rnR _ m) (vs := rnC m[j]) rfl ag_131 (by (repeat' constructor)) (fun h hp => slR_rd hp) (by omega) (by omega) (by omega) (flatMap_at (f := rnC) (sz := 12) (fun _ _ => rfl) (by omega))) rfl ?_
      refine G.op (OpSpec.allocA ze_131) (by (repeat' constructor)) rfl ?nx94
      rintro v L' ⟨b8, rfl, rfl⟩
      refine G.op (OpSpec.storeA rfl rfl ?c96 sz_131 ?c99 ?c97 ?c98) (by (repeat' constructor)) rfl ?nx100
      case c96 => exact rn_cells hcm
      case c99 => rfl
      case c97 => simp [rnC]
      case c98 => exact nfz0 _ _
      rintro v L' rfl
      refine G.nil ?_
      refine G.ptCast (b := b8) (l' := rnC m[j]) (by (repeat' constructor)) rfl ?_
      refine G.then_n (G.seq (G.region (G.q (Quiet.fieldAddr rfl fo_131_2) rfl ?_)))
      refine G.q (Quiet.load rfl ag_34 (by (repeat' constructor)) (rfl)) rfl ?_
      refine G.q (Quiet.fieldAddr rfl fo_131_2) rfl ?_
      refine G.q (Quiet.load rfl ag_34 (by (repeat' constructor)) (rfl)) rfl ?_
      refine G.op (OpSpec.call Tryz.func64 rfl rfl (vs := [_, _]) rfl (rrowseq_spec l[j].2.1 m[j].2.1 l[j].2.2.acl m[j].2.2.acl (bigR inA l) (bigR inA m) (big_rd hjl) (big_rd hjm) (by rw [hgl] at haclj; exact haclj))) (by (repeat' constructor)) rfl ?nx105
      rintro v L' ⟨rfl, rfl⟩
      refine G.q (Quiet.assign rfl) rfl (G.nil (G.then_n (G.seq (G.region (G.q (Quiet.fieldAddr rfl fo_131_0) rfl ?_)))))
      refine G.q (Quiet.load rfl ag_9 (by (repeat' constructor)) (rfl)) rfl ?_
      refine G.q (Quiet.fieldAddr rfl fo_131_0) rfl ?_
      refine G.q (Quiet.load rfl ag_9 (by (repeat' constructor)) (rfl)) rfl ?_
      refine G.q (Quiet.strne rfl rfl) rfl (G.q (Quiet.move rfl) rfl ?_)
      refine G.ndec (t := 102) rfl (fun h14_102 => ?_) (fun h14_102 => ?_)
      ·refine G.kNT (t := 101) rfl h14_102 (G.gskip (t := 102) rfl rfl rfl rfl (G.gskip (t := 102) rfl rfl rfl rfl (G.gskip (t := 102) rfl rfl rfl rfl (G.gskip (t := 102) rfl rfl rfl rfl (G.gskip (t := 102) rfl rfl rfl rfl (G.q (Quiet.pickT rfl rfl) rfl (G.q (Quiet.move rfl) rfl (G.gskip (t := 109) rfl rfl rfl rfl (G.gskip (t := 109) rfl rfl rfl rfl (G.gskip (t := 109) rfl rfl rfl rfl (G.gskip (t := 109) rfl rfl rfl rfl (G.gskip (t := 109) rfl rfl rfl rfl (G.q (Quiet.pickT rfl rfl) rfl (G.q (Quiet.move rfl) rfl (G.gskip (t := 116) rfl rfl rfl rfl (G.gskip (t := 116) rfl rfl rfl rfl (G.q (Quiet.pickT rfl rfl) rfl (G.nil ?_))))))))))))))))))
       refine G.rfFold (x := x) (τ := τ) (l := l) hl (by (repeat' constructor)) rfl rfl rfl rfl rfl ?_
       refine G.rfFold (x := y) (τ := υ) (l := m) hm (by (repeat' constructor)) rfl rfl rfl rfl rfl ?_
       refine G.then_n (G.condT rfl (G.seq (G.region (G.q (Quiet.assign rfl) rfl (G.nil (G.then_n (G.ret (G.blk_r (G.then_r (G.then_r (G.blk_r (G.then_r ?_))))))))))))
       exact G.done (l := [.tmp 4]) rfl rfl ⟨by rw [decide_eq_false (fun e => by subst e; have hlm : l[j].1 = m[j].1 ∧ l[j].2.2 = m[j].2.2 := Prod.mk.inj (hgl.symm.trans hgm); exact h14_102 hlm.1)], rfl⟩ (by (repeat' constructor)) (by (repeat' constructor))
      ·refine G.kNF (t := 101) rfl h14_102 (G.grun (t := 102) rfl rfl rfl (G.q (Quiet.fieldAddr rfl fo_131_1) rfl (G.grun (t := 102) rfl rfl rfl ?_)))
       refine G.q (Quiet.load rfl ag_9 (by (repeat' constructor)) (rfl)) rfl ?_
       refine G.grun (t := 102) rfl rfl rfl (G.q (Quiet.fieldAddr rfl fo_131_1) rfl (G.grun (t := 102) rfl rfl rfl ?_))
       refine G.q (Quiet.load rfl ag_9 (by (repeat' constructor)) (rfl)) rfl ?_
       refine G.grun (t := 102) rfl rfl rfl (G.q (Quiet.strne rfl rfl) rfl (G.q (Quiet.pickF rfl rfl) rfl (G.q (Quiet.move rfl) rfl ?_)))
       refine G.ndec (t := 109) rfl (fun h14_109 => ?_) (fun h14_109 => ?_)
       ·refine G.kNT (t := 107) rfl h14_109 (G.kNT (t := 108) rfl h14_109 (G.gskip (t := 109) rfl rfl rfl rfl (G.gskip (t := 109) rfl rfl rfl rfl (G.gskip (t := 109) rfl rfl rfl rfl (G.gskip (t := 109) rfl rfl rfl rfl (G.gskip (t := 109) rfl rfl rfl rfl (G.q (Quiet.pickT rfl rfl) rfl (G.q (Quiet.move rfl) rfl (G.gskip (t := 116) rfl rfl rfl rfl (G.gskip (t := 116) rfl rfl rfl rfl (G.q (Quiet.pickT rfl rfl) rfl (G.nil ?_))))))))))))
        refine G.rfFold (x := x) (τ := τ) (l := l) hl (by (repeat' constructor)) rfl rfl rfl rfl rfl ?_
        refine G.rfFold (x := y) (τ := υ) (l := m) hm (by (repeat' constructor)) rfl rfl rfl rfl rfl ?_
        refine G.then_n (G.condT rfl (G.seq (G.region (G.q (Quiet.assign rfl) rfl (G.nil (G.then_n (G.ret (G.blk_r (G.then_r (G.then_r (G.blk_r (G.then_r ?_))))))))))))
        exact G.done (l := [.tmp 4]) rfl rfl ⟨by rw [decide_eq_false (fun e => by subst e; have hlm : l[j].1 = m[j].1 ∧ l[j].2.2 = m[j].2.2 := Prod.mk.inj (hgl.symm.trans hgm); exact h14_109 (by rw [hlm.2]))], rfl⟩ (by (repeat' constructor)) (by (repeat' constructor))
       ·refine G.kNF (t := 107) rfl h14_109 (G.kNF (t := 108) rfl h14_109 (G.grun (t := 109) rfl rfl rfl (G.q (Quiet.fieldAddr rfl fo_131_3) rfl (G.grun (t := 109) rfl rfl rfl ?_))))
        refine G.q (Quiet.loadAs (vs := stC l[j].2.2.st) rfl ag_43 (by (repeat' constructor)) (by simp [rnC]) rfl) rfl ?_
        refine G.grun (t := 109) rfl rfl rfl (G.q (Quiet.fieldAddr rfl fo_131_3) rfl (G.grun (t := 109) rfl rfl rfl ?_))
        refine G.q (Quiet.loadAs (vs := stC m[j].2.2.st) rfl ag_43 (by (repeat' constructor)) (by simp [rnC]) rfl) rfl ?_
        refine G.grun (t := 109) rfl rfl rfl ?_
        refine G.q (Quiet.structNe (r := decide (l[j].2.2.st = m[j].2.2.st)) rfl rfl (by kernel_rfl) (st_eq 9998 _ _)) rfl ?_
        refine G.q (Quiet.pickF rfl rfl) rfl (G.q (Quiet.move rfl) rfl ?_)
        refine G.ndec (t := 116) rfl (fun h14_116 => ?_) (fun h14_116 => ?_)
        ·refine G.kNT (t := 114) rfl h14_116 (G.kNT (t := 115) rfl h14_116 (G.gskip (t := 116) rfl rfl rfl rfl (G.gskip (t := 116) rfl rfl rfl rfl (G.q (Quiet.pickT rfl rfl) rfl (G.nil ?_)))))
         refine G.rfFold (x := x) (τ := τ) (l := l) hl (by (repeat' constructor)) rfl rfl rfl rfl rfl ?_
         refine G.rfFold (x := y) (τ := υ) (l := m) hm (by (repeat' constructor)) rfl rfl rfl rfl rfl ?_
         refine G.then_n (G.condT rfl (G.seq (G.region (G.q (Quiet.assign rfl) rfl (G.nil (G.then_n (G.ret (G.blk_r (G.then_r (G.then_r (G.blk_r (G.then_r ?_))))))))))))
         exact G.done (l := [.tmp 4]) rfl rfl ⟨by rw [decide_eq_false (fun e => by subst e; have hlm : l[j].1 = m[j].1 ∧ l[j].2.2 = m[j].2.2 := Prod.mk.inj (hgl.symm.trans hgm); exact h14_116 (by rw [hlm.2]))], rfl⟩ (by (repeat' constructor)) (by (repeat' constructor))
        ·refine G.kNF (t := 114) rfl h14_116 (G.kNF (t := 115) rfl h14_116 (G.grun (t := 116) rfl rfl rfl (G.q (Quiet.move rfl) rfl (G.grun (t := 116) rfl rfl rfl (G.q (Quiet.not rfl) rfl (G.q (Quiet.pickF rfl rfl) rfl (G.nil ?_)))))))
         refine G.rfFold (x := x) (τ := τ) (l := l) hl (by (repeat' constructor)) rfl rfl rfl rfl rfl ?_
         refine G.rfFold (x := y) (τ := υ) (l := m) hm (by (repeat' constructor)) rfl rfl rfl rfl rfl ?_
         refine G.then_n ?_
         refine G.condN rfl (fun h119 => ?_) (fun h119 => ?_)
         ·refine G.seq (G.region (G.q (Quiet.assign rfl) rfl (G.nil (G.then_n (G.ret (G.blk_r (G.then_r (G.then_r (G.blk_r (G.then_r ?_))))))))))
          exact G.done (l := [.tmp 4]) rfl rfl ⟨by rw [decide_eq_false (fun e => by subst e; have hlm : l[j].1 = m[j].1 ∧ l[j].2.2 = m[j].2.2 := Prod.mk.inj (hgl.symm.trans hgm); exact h119 (by rw [hlm.2]))], rfl⟩ (by (repeat' constructor)) (by (repeat' constructor))
         ·have hsame : τ.nodes[j] = υ.nodes[j] := by rw [hgl, hgm]; exact Prod.ext h14_102 (nd_ext h14_109 h119 h14_116)
          refine G.skip (G.blk_n (G.then_n (G.region (G.q (Quiet.move rfl) rfl ?_))))
          refine G.q (Quiet.add rfl rfl (by omega)) rfl ?_
          refine G.q (Quiet.assign rfl) rfl (G.nil (G.then_n ?_))
          exact G.roundK (j + 1) (⟨by omega, by rw [List.take_succ_eq_append_getElem hj2, List.take_succ_eq_append_getElem hj3, hprj, hsame]⟩) (by omega) ⟨rfl, rfl, rfl, trivial⟩ (by (repeat' constructor)) (by ((repeat (apply Have.cons; (repeat (first | exact Pick.here | apply Pick.there)))); apply Have.base; repeat' constructor))
     ·have hjj : j = τ.nodes.length := by omega
      have hnn : τ.nodes = υ.nodes := by rw [hjj, List.take_length, hnl, List.take_length] at hprj; exact hprj
      refine G.exit (G.then_e (G.then_e (G.blk_e (G.then_n (G.seq (G.region (G.q (Quiet.assign rfl) rfl (G.nil (G.then_n (G.ret ?_))))))))))
      exact G.done (l := [.tmp 4]) rfl rfl ⟨by rw [decide_eq_true (Tr.ext' hnn hss hzx)], rfl⟩ (by (repeat' constructor)) (by (repeat' constructor))

end Go.Proofs.YtnnbelmpbmfdnaaGreatDoor

/- Own work, by program: law 07: pick, Events, awake, texts, numbers: walked. -/

namespace Go.Proofs.YtnnbelmpbmfdnaaGreatDoor
open Go
theorem fill_entry (zx : Int) (s0 s1 s2 s3 s4 s5 s6 s7 : Value) : Instr.fill (fun i => [(0, 1), (1, 1), (2, 1), (3, 8)].toArray[i]?) ([.int .i64 0, .int .i64 0, .int .i64 0, .int .i64 0, .string (bs []), .string (bs []), .slice none 0 0, .int .i64 0, .int .i64 0, .int .i64 0, .slice none 0 0] : List Value).toArray [(0, vint zx), (3, .agg ([s0, s1, s2, s3, s4, s5, s6, s7] : List Value).toArray)] = some (([vint zx, vint 0, vint 0] ++ [s0, s1, s2, s3, s4, s5, s6, s7] : List Value).toArray) := by kernel_rfl
def nilA : HP := fun _ => True
theorem nilA_ok (h : Hp) : nilA h := trivial
set_option maxRecDepth 100000 in
theorem events_spec (xs ys : List Ev) (va vb : Value) (h1 : xs.length ≤ 4611686018427387904) : Fn Tryz.prog 42 #[va, vb] [slR 75 3 va xs.length (xs.flatMap evC), slR 75 3 vb ys.length (ys.flatMap evC)] fun v L => v = .bool (decide (xs = ys)) ∧ L = [slR 75 3 va xs.length (xs.flatMap evC), slR 75 3 vb ys.length (ys.flatMap evC)] := by
 refine Fn.intro (vs := [va, vb]) Tryz.func42 rfl rfl ?_
 intro F W
 refine G.slAny (v := va) (by (repeat' constructor)) fun aa ca e0 _ => ?_
 subst e0
 refine G.slAny (v := vb) (by (repeat' constructor)) fun ab cb e0 _ => ?_
 subst e0
 refine G.seq (G.region (G.q (Quiet.assign rfl) rfl (G.nil (G.then_n (G.seq (G.seq (G.region (G.q (Quiet.move rfl) rfl (G.q (Quiet.slen rfl Tryz.underlying30 rfl) rfl (G.q (Quiet.move rfl) rfl (G.q (Quiet.slen rfl Tryz.underlying30 rfl) rfl (G.q (Quiet.int rfl rfl rfl) rfl (G.nil (G.then_n ?_))))))))))))))
 refine G.condN rfl (fun h10 => ?_) (fun h10 => ?_)
 ·refine G.seq (G.region (G.q (Quiet.assign rfl) rfl (G.nil (G.then_n (G.ret (G.then_r ?_))))))
  exact G.done (l := [.tmp 4]) rfl rfl ⟨by rw [decide_eq_false (fun e => h10 (by rw [e]))], rfl⟩ (by (repeat' constructor)) (by (repeat' constructor))
 ·have hlen : xs.length = ys.length := by omega
  refine G.skip (G.then_n (G.seq (G.seq (G.region (G.q (Quiet.assign rfl) rfl (G.nil (G.then_n (G.block ?_))))))))
  refine G.loopK (ι := Nat) (fun q E => (5, vint q) :: E) (fun q => []) (fun q => q ≤ xs.length ∧ xs.take q = ys.take q) (fun q => xs.length - q) (0) (ts := [0, 1]) (.cons rfl (.cons rfl (.nil))) (⟨Nat.zero_le _, rfl⟩) ⟨rfl, rfl, rfl, trivial⟩ (by (repeat' constructor)) ?_
  rintro i ⟨hi, hpre⟩
  refine G.seq (G.seq (G.region (G.q (Quiet.move rfl) rfl (G.q (Quiet.move rfl) rfl (G.q (Quiet.slen rfl Tryz.underlying30 rfl) rfl (G.q (Quiet.int rfl rfl rfl) rfl (G.nil (G.then_n ?_))))))))
  refine G.condD rfl (fun h14 => ?_) (fun h14 => ?_)
  ·have hi2 : i < xs.length := by omega
   have hi3 : i < ys.length := by omega
   refine G.slShape (v := .slice aa _ ca) (by (repeat' constructor)) (by omega) fun ba ba' e0 mba _ => ?_
   simp only [Value.slice.injEq, true_and] at e0
   obtain ⟨rfl, rfl⟩ := e0
   refine G.slShape (v := .slice ab _ cb) (by (repeat' constructor)) (by omega) fun bb bb' e0 mbb _ => ?_
   simp only [Value.slice.injEq, true_and] at e0
   obtain ⟨rfl, rfl⟩ := e0
   refine G.skip (G.then_n (G.seq (G.block (G.seq ?_))))
   refine G.draw [] [[0, 1, 2, 3, 4, 5, 6, 7, 8]] mixed (by kernel_rfl) ?_
   refine Phases.go [] (by (repeat' constructor)) ?_
   refine D.qw [2, 3, 8] rfl (by kernel_rfl) (Quiet.move rfl) ?_
   refine D.qw [2, 3, 8] rfl (by kernel_rfl) (Quiet.move rfl) ?_
   refine D.qw [3, 8] rfl (by kernel_rfl) (Quiet.indexAddr rfl rfl el_30 (by omega)) ?_
   refine D.qw [8] rfl (by kernel_rfl) (Quiet.loadRdA (sz := 3) (j := i * 3) (k := 3) (p := slR 75 3 _ xs.length (xs.flatMap evC)) (vs := evC xs[i]) rfl ag_75 (by (repeat' constructor)) (fun h hp => slR_rd hp) (by simp) (by omega) (by omega) (flatMap_at (f := evC) (sz := 3) (fun _ _ => rfl) (by omega))) ?_
   refine D.qw [6, 7, 8] rfl (by kernel_rfl) (Quiet.move rfl) ?_
   refine D.qw [6, 7, 8] rfl (by kernel_rfl) (Quiet.move rfl) ?_
   refine D.qw [7, 8] rfl (by kernel_rfl) (Quiet.indexAddr rfl rfl el_30 (by omega)) ?_
   refine D.qw [8] rfl (by kernel_rfl) (Quiet.loadRdA (sz := 3) (j := i * 3) (k := 3) (p := slR 75 3 _ ys.length (ys.flatMap evC)) (vs := evC ys[i]) rfl ag_75 (by (repeat' constructor)) (fun h hp => slR_rd hp) (by simp) (by omega) (by omega) (flatMap_at (f := evC) (sz := 3) (fun _ _ => rfl) (by omega))) ?_
   refine D.qw [] rfl (by kernel_rfl) (Quiet.structNe (r := decide (xs[i] = ys[i])) rfl rfl (by kernel_rfl) (ev_eq 9998 _ _)) ?_
   refine D.ph (Phases.fin (G.then_n ?_))
   refine G.condN rfl (fun h25 => ?_) (fun h25 => ?_)
   ·refine G.seq (G.region (G.q (Quiet.assign rfl) rfl (G.nil (G.then_n (G.ret (G.blk_r (G.then_r (G.then_r (G.blk_r (G.then_r ?_))))))))))
    exact G.done (l := [.tmp 4]) rfl rfl ⟨by rw [decide_eq_false (fun e => h25 (by simp only [e]))], rfl⟩ (by (repeat' constructor)) (by (repeat' constructor))
   ·refine G.skip (G.blk_n (G.then_n (G.region (G.q (Quiet.move rfl) rfl ?_))))
    refine G.q (Quiet.add rfl rfl (by omega)) rfl ?_
    refine G.q (Quiet.assign rfl) rfl (G.nil (G.then_n ?_))
    exact G.roundK (i + 1) (⟨by omega, by rw [List.take_succ_eq_append_getElem hi2, List.take_succ_eq_append_getElem hi3, hpre, h25]⟩) (by omega) ⟨rfl, rfl, rfl, trivial⟩ (by (repeat' constructor)) (by ((repeat (apply Have.cons; (repeat (first | exact Pick.here | apply Pick.there)))); apply Have.base; repeat' constructor))
  ·refine G.exit (G.then_e (G.then_e (G.blk_e (G.then_n (G.seq (G.region (G.q (Quiet.assign rfl) rfl (G.nil (G.then_n (G.ret ?_))))))))))
   exact G.done (l := [.tmp 4]) rfl rfl ⟨by rw [decide_eq_true (by have hii : i = xs.length := (by omega); rw [hii, List.take_length] at hpre; rw [hlen, List.take_length] at hpre; exact hpre)], rfl⟩ (by (repeat' constructor)) (by (repeat' constructor))

set_option maxRecDepth 100000 in
theorem awake7_spec : Fn Tryz.prog 11 #[] [] fun v L => v = .bool true ∧ L = [] := by
 refine Fn.intro (vs := []) Tryz.func11 rfl rfl ?_
 intro F W
 refine G.seq (G.region (G.q (Quiet.assign rfl) rfl (G.nil (G.then_n (G.seq (G.region ?_))))))
 refine G.op (OpSpec.call Tryz.func13 rfl rfl (vs := []) rfl (trnew_spec)) (by (repeat' constructor)) rfl ?nx2
 rintro v L' ⟨t, rfl, rfl⟩
 refine G.q (Quiet.assign rfl) rfl (G.nil (G.then_n (G.seq (G.seq (G.region (G.q (Quiet.move rfl) rfl ?_))))))
 refine G.q (Quiet.as (v' := .bool false) (by rfl) (Quiet.ptreq rfl rfl Tryz.underlying28)) rfl ?_
 refine G.nil (G.then_n (G.condF rfl (G.skip (G.then_n (G.seq (G.add (p := nilA) nilA_ok (G.region (G.q (Quiet.move rfl) rfl ?_))))))))
 refine G.q (Quiet.to (v' := .agg (ptC aw7x).toArray) (Quiet.build (us := [(0, _), (1, _), (2, _), (5, _)]) fl_37 ze_37 rfl rfl (by simp [isCell])) rfl) rfl ?_
 refine G.q (Quiet.buildN (pl := [(0, 1), (1, 1), (2, 1), (3, 8)]) (us := [(0, vint 5), (3, .agg (ptC aw7x).toArray)]) (cells := [vint 5, vint 0, vint 0] ++ ptC aw7x) Tryz.underlying39 (by kernel_rfl) ze_39 rfl (fill_entry _ _ _ _ _ _ _ _ _)) rfl ?_
 refine G.op (OpSpec.call Tryz.func14 rfl rfl (vs := [_, _]) rfl (trapply_spec t newT 5 0 0 aw7x [] nilA (txS_ok _ (by decide)) 1 newT_ok (by decide))) (by (repeat' constructor)) rfl ?nx7
 rintro v L' ⟨u, e, rfl, rfl, ⟨a1, c1, rfl⟩, rfl⟩; rw [aw7_1, show (applyZ newT 5 aw7x []).1 = aw7A from rfl]; dsimp only
 refine G.q (Quiet.move rfl) rfl (G.q (Quiet.extract rfl rfl) rfl (G.q (Quiet.extract rfl rfl) rfl (G.q (Quiet.assign rfl) rfl (G.q (Quiet.assign rfl) rfl (G.nil (G.then_n (G.seq (G.region (G.q (Quiet.move rfl) rfl ?_)))))))))
 refine G.q (Quiet.to (v' := .agg (ptC aw7y).toArray) (Quiet.build (us := [(0, _), (1, _), (5, _)]) fl_37 ze_37 rfl rfl (by simp [isCell])) rfl) rfl ?_
 refine G.q (Quiet.buildN (pl := [(0, 1), (1, 1), (2, 1), (3, 8)]) (us := [(0, vint 6), (3, .agg (ptC aw7y).toArray)]) (cells := [vint 6, vint 0, vint 0] ++ ptC aw7y) Tryz.underlying39 (by kernel_rfl) ze_39 rfl (fill_entry _ _ _ _ _ _ _ _ _)) rfl ?_
 refine G.op (OpSpec.call Tryz.func14 rfl rfl (vs := [_, _]) rfl (trapply_spec t aw7A 6 0 0 aw7y [] nilA (txS_ok _ (by decide)) 2 aw7_okA (by decide))) (by (repeat' constructor)) rfl ?nx13
 rintro v L' ⟨u, e, rfl, rfl, ⟨a2, c2, rfl⟩, rfl⟩; rw [aw7_2, show (applyZ aw7A 6 aw7y []).1 = aw7B from rfl]; dsimp only
 refine G.q (Quiet.move rfl) rfl (G.q (Quiet.extract rfl rfl) rfl (G.q (Quiet.extract rfl rfl) rfl (G.q (Quiet.assign rfl) rfl (G.q (Quiet.assign rfl) rfl (G.nil (G.then_n (G.seq (G.region (G.q (Quiet.move rfl) rfl ?_)))))))))
 refine G.op (OpSpec.call Tryz.func41 rfl rfl (vs := [_, _]) rfl (trget_spec t aw7B [47, 97] 3 aw7_okB (by decide))) (by (repeat' constructor)) rfl ?nx17
 rintro v L' ⟨rfl, rfl⟩; rw [if_pos aw7_3.2.2, aw7_3.1, aw7_3.2.1]
 refine G.q (Quiet.move rfl) rfl (G.q (Quiet.extract rfl rfl) rfl (G.q (Quiet.extract rfl rfl) rfl (G.q (Quiet.extract rfl rfl) rfl ?_)))
 refine G.op (OpSpec.allocA ze_43) (by (repeat' constructor)) rfl ?nx22
 rintro v L' ⟨b7, rfl, rfl⟩
 refine G.q (Quiet.assign rfl) rfl ?_
 refine G.op (OpSpec.storeA rfl rfl ?c24 sz_43 ?c27 ?c25 ?c26) (by (repeat' constructor)) rfl ?nx28
 case c24 => intro v hv; simp only [stC, List.mem_cons, List.not_mem_nil, or_false] at hv; rcases hv with rfl | rfl | rfl | rfl | rfl | rfl | rfl | rfl | rfl <;> rfl
 case c27 => rfl
 case c25 => simp [stC]
 case c26 => exact nfz0 _ _
 rintro v L' rfl
 refine G.q (Quiet.assign rfl) rfl (G.nil ?_)
 refine G.ptCast (b := b7) (l' := stC (⟨5, 5, 5, 0, 0, 0, 0, 1, 0⟩ : Stt)) (by (repeat' constructor)) rfl ?_
 refine G.then_n (G.seq (G.region (G.q (Quiet.move rfl) rfl ?_)))
 refine G.op (OpSpec.call Tryz.func16 rfl rfl (vs := [_, _]) rfl (trstat_spec t aw7B [47] 3 aw7_okB (by decide))) (by (repeat' constructor)) rfl ?nx29
 rintro v L' ⟨rfl, rfl⟩; rw [decide_eq_true aw7_4.2, aw7_4.1]
 refine G.q (Quiet.move rfl) rfl (G.q (Quiet.extract rfl rfl) rfl (G.q (Quiet.extract rfl rfl) rfl ?_))
 refine G.op (OpSpec.allocA ze_43) (by (repeat' constructor)) rfl ?nx33
 rintro v L' ⟨b9, rfl, rfl⟩
 refine G.op (OpSpec.storeA rfl rfl ?c35 sz_43 ?c38 ?c36 ?c37) (by (repeat' constructor)) rfl ?nx39
 case c35 => intro v hv; simp only [stC, List.mem_cons, List.not_mem_nil, or_false] at hv; rcases hv with rfl | rfl | rfl | rfl | rfl | rfl | rfl | rfl | rfl <;> rfl
 case c38 => rfl
 case c36 => simp [stC]
 case c37 => exact nfz0 _ _
 rintro v L' rfl
 refine G.q (Quiet.assign rfl) rfl (G.nil ?_)
 refine G.ptCast (b := b9) (l' := stC (⟨0, 0, 5, 0, 1, 0, 0, 0, 1⟩ : Stt)) (by (repeat' constructor)) rfl ?_
 refine G.then_n (G.seq (G.region (G.q (Quiet.move rfl) rfl ?_)))
 refine G.q (Quiet.build (us := [(0, _), (1, _), (2, _)]) fl_75 ze_75 rfl rfl (by simp [isCell])) rfl ?_
 refine G.q (Quiet.build (us := [(0, _), (1, _), (2, _)]) fl_75 ze_75 rfl rfl (by simp [isCell])) rfl ?_
 refine G.op (OpSpec.buildSlice (vs := [_, _]) el_30 ze_75 rfl rfl rfl rfl (by first | (simp [Value.cells]; done) | (intro v hv; simp only [List.mem_cons, List.not_mem_nil, or_false] at hv; (repeat (first | (subst hv; rfl) | (rcases hv with hv | hv; (subst hv; rfl)))))) (by decide)) (by (repeat' constructor)) rfl ?nx42
 rintro v L' ⟨be, rfl, rfl⟩
 refine G.slMakeN 3 2 (b := be) (xs := ([(1, ([47, 97], 5)), (4, ([47], 5))] : List Ev).flatMap evC) (by (repeat' constructor)) rfl rfl ?_
 refine G.op (OpSpec.call Tryz.func42 rfl rfl (vs := [_, _]) rfl (events_spec ([(1, ([47, 97], 5)), (4, ([47], 5))] : List Ev) ([(1, ([47, 97], 5)), (4, ([47], 5))] : List Ev) _ _ (by decide))) (by (repeat' constructor)) rfl ?nx44
 rintro v L' ⟨rfl, rfl⟩; rw [decide_eq_true rfl]
 refine G.q (Quiet.assign rfl) rfl (G.nil (G.then_n (G.seq (G.region (G.q (Quiet.move rfl) rfl ?_)))))
 refine G.q (Quiet.as (v' := .bool true) (by rfl) (Quiet.int rfl rfl rfl)) rfl ?_
 refine G.q (Quiet.move rfl) rfl (G.grun (t := 48) rfl rfl rfl (G.q (Quiet.move rfl) rfl (G.grun (t := 48) rfl rfl rfl ?_)))
 refine G.q (Quiet.as (v' := .bool true) (by rfl) (Quiet.int rfl rfl rfl)) rfl ?_
 refine G.q (Quiet.pickT rfl rfl) rfl (G.q (Quiet.move rfl) rfl (G.grun (t := 52) rfl rfl rfl (G.q (Quiet.move rfl) rfl (G.grun (t := 52) rfl rfl rfl ?_))))
 refine G.q (Quiet.as (v' := .bool true) (by rfl) (Quiet.int rfl rfl rfl)) rfl ?_
 refine G.q (Quiet.pickT rfl rfl) rfl (G.q (Quiet.move rfl) rfl (G.grun (t := 56) rfl rfl rfl (G.q (Quiet.move rfl) rfl (G.grun (t := 56) rfl rfl rfl (G.q (Quiet.slen rfl Tryz.underlying30 rfl) rfl (G.grun (t := 56) rfl rfl rfl ?_))))))
 refine G.q (Quiet.as (v' := .bool true) (by rfl) (Quiet.int rfl rfl rfl)) rfl ?_
 refine G.q (Quiet.pickT rfl rfl) rfl (G.q (Quiet.move rfl) rfl (G.grun (t := 61) rfl rfl rfl (G.q (Quiet.move rfl) rfl (G.q (Quiet.pickT rfl rfl) rfl (G.q (Quiet.assign rfl) rfl (G.nil (G.then_n (G.seq (G.region (G.q (Quiet.move rfl) rfl (G.q (Quiet.move rfl) rfl (G.grun (t := 65) rfl rfl rfl (G.q (Quiet.move rfl) rfl (G.q (Quiet.pickT rfl rfl) rfl (G.q (Quiet.move rfl) rfl (G.grun (t := 68) rfl rfl rfl (G.q (Quiet.move rfl) rfl (G.grun (t := 68) rfl rfl rfl ?_))))))))))))))))))
 refine G.q (Quiet.as (v' := .bool true) (by rfl) (Quiet.streq rfl rfl)) rfl ?_
 refine G.q (Quiet.pickT rfl rfl) rfl (G.q (Quiet.move rfl) rfl (G.grun (t := 72) rfl rfl rfl ?_))
 refine G.q (Quiet.loadAs (vs := stC (⟨5, 5, 5, 0, 0, 0, 0, 1, 0⟩ : Stt)) rfl ag_43 (by (repeat' constructor)) (by simp [stC]) rfl) rfl ?_
 refine G.grun (t := 72) rfl rfl rfl ?_
 refine G.q (Quiet.to (v' := .agg (stC (⟨5, 5, 5, 0, 0, 0, 0, 1, 0⟩ : Stt)).toArray) (Quiet.build (us := [(0, _), (1, _), (2, _), (7, _)]) fl_43 ze_43 rfl rfl (by simp [isCell])) rfl) rfl ?_
 refine G.grun (t := 72) rfl rfl rfl ?_
 refine G.q (Quiet.as (v' := .bool true) (by simp) (Quiet.structEq (r := decide ((⟨5, 5, 5, 0, 0, 0, 0, 1, 0⟩ : Stt) = (⟨5, 5, 5, 0, 0, 0, 0, 1, 0⟩ : Stt))) rfl rfl (by kernel_rfl) (st_eq 9998 _ _))) rfl ?_
 refine G.q (Quiet.pickT rfl rfl) rfl (G.q (Quiet.move rfl) rfl (G.grun (t := 77) rfl rfl rfl ?_))
 refine G.q (Quiet.loadAs (vs := stC (⟨0, 0, 5, 0, 1, 0, 0, 0, 1⟩ : Stt)) rfl ag_43 (by (repeat' constructor)) (by simp [stC]) rfl) rfl ?_
 refine G.grun (t := 77) rfl rfl rfl ?_
 refine G.q (Quiet.to (v' := .agg (stC (⟨0, 0, 5, 0, 1, 0, 0, 0, 1⟩ : Stt)).toArray) (Quiet.build (us := [(2, _), (4, _), (8, _)]) fl_43 ze_43 rfl rfl (by simp [isCell])) rfl) rfl ?_
 refine G.grun (t := 77) rfl rfl rfl ?_
 refine G.q (Quiet.as (v' := .bool true) (by simp) (Quiet.structEq (r := decide ((⟨0, 0, 5, 0, 1, 0, 0, 0, 1⟩ : Stt) = (⟨0, 0, 5, 0, 1, 0, 0, 0, 1⟩ : Stt))) rfl rfl (by kernel_rfl) (st_eq 9998 _ _))) rfl ?_
 refine G.q (Quiet.pickT rfl rfl) rfl (G.q (Quiet.move rfl) rfl (G.grun (t := 82) rfl rfl rfl (G.q (Quiet.move rfl) rfl (G.grun (t := 82) rfl rfl rfl ?_))))
 refine G.op (OpSpec.call Tryz.func22 rfl rfl (vs := [_]) rfl (trzxid_spec t aw7B)) (by (repeat' constructor)) rfl ?nx58
 rintro v L' ⟨rfl, rfl⟩; rw [aw7_5]
 refine G.grun (t := 82) rfl rfl rfl ?_
 refine G.q (Quiet.as (v' := .bool true) (by rfl) (Quiet.int rfl rfl rfl)) rfl ?_
 refine G.q (Quiet.pickT rfl rfl) rfl (G.q (Quiet.assign rfl) rfl (G.nil (G.then_n (G.ret ?_))))
 exact G.done (l := [.tmp 0]) rfl rfl ⟨rfl, rfl⟩ (by (repeat' constructor)) (by (repeat' constructor))

theorem strs_at {xs : List Bs} {i : Nat} (hi : i < xs.length) : (strs xs)[i * 1]? = some (vstr xs[i]) := by
  unfold strs; rw [Nat.mul_one, List.getElem?_map, List.getElem?_eq_getElem hi]; rfl
theorem ints_at {xs : List Int} {i : Nat} (hi : i < xs.length) : (ints xs)[i * 1]? = some (vint xs[i]) := by
  unfold ints; rw [Nat.mul_one, List.getElem?_map, List.getElem?_eq_getElem hi]; rfl
set_option maxRecDepth 100000 in
theorem texts7_spec (xs ys : List Bs) (va vb : Value) (h1 : xs.length ≤ 4611686018427387904) : Fn Tryz.prog 17 #[va, vb] [slR 9 1 va xs.length (strs xs), slR 9 1 vb ys.length (strs ys)] fun v L => v = .bool (decide (xs = ys)) ∧ L = [slR 9 1 va xs.length (strs xs), slR 9 1 vb ys.length (strs ys)] := by
 refine Fn.intro (vs := [va, vb]) Tryz.func17 rfl rfl ?_
 intro F W
 refine G.slAny (v := va) (by (repeat' constructor)) fun aa ca e0 _ => ?_
 subst e0
 refine G.slAny (v := vb) (by (repeat' constructor)) fun ab cb e0 _ => ?_
 subst e0
 refine G.seq (G.region (G.q (Quiet.assign rfl) rfl (G.nil (G.then_n (G.seq (G.seq (G.region (G.q (Quiet.move rfl) rfl (G.q (Quiet.slen rfl Tryz.underlying40 rfl) rfl (G.q (Quiet.move rfl) rfl (G.q (Quiet.slen rfl Tryz.underlying40 rfl) rfl (G.q (Quiet.int rfl rfl rfl) rfl (G.nil (G.then_n ?_))))))))))))))
 refine G.condN rfl (fun h10 => ?_) (fun h10 => ?_)
 ·refine G.seq (G.region (G.q (Quiet.assign rfl) rfl (G.nil (G.then_n (G.ret (G.then_r ?_))))))
  exact G.done (l := [.tmp 4]) rfl rfl ⟨by rw [decide_eq_false (fun e => h10 (by rw [e]))], rfl⟩ (by (repeat' constructor)) (by (repeat' constructor))
 ·have hlen : xs.length = ys.length := by omega
  refine G.skip (G.then_n (G.seq (G.seq (G.region (G.q (Quiet.assign rfl) rfl (G.nil (G.then_n (G.block ?_))))))))
  refine G.loopK (ι := Nat) (fun q E => (5, vint q) :: E) (fun q => []) (fun q => q ≤ xs.length ∧ xs.take q = ys.take q) (fun q => xs.length - q) (0) (ts := [0, 1]) (.cons rfl (.cons rfl (.nil))) (⟨Nat.zero_le _, rfl⟩) ⟨rfl, rfl, rfl, trivial⟩ (by (repeat' constructor)) ?_
  rintro i ⟨hi, hpre⟩
  refine G.seq (G.seq (G.region (G.q (Quiet.move rfl) rfl (G.q (Quiet.move rfl) rfl (G.q (Quiet.slen rfl Tryz.underlying40 rfl) rfl (G.q (Quiet.int rfl rfl rfl) rfl (G.nil (G.then_n ?_))))))))
  refine G.condD rfl (fun h14 => ?_) (fun h14 => ?_)
  ·have hi2 : i < xs.length := by omega
   have hi3 : i < ys.length := by omega
   refine G.slShape (v := .slice aa _ ca) (by (repeat' constructor)) (by omega) fun ba ba' e0 mba _ => ?_
   simp only [Value.slice.injEq, true_and] at e0
   obtain ⟨rfl, rfl⟩ := e0
   refine G.slShape (v := .slice ab _ cb) (by (repeat' constructor)) (by omega) fun bb bb' e0 mbb _ => ?_
   simp only [Value.slice.injEq, true_and] at e0
   obtain ⟨rfl, rfl⟩ := e0
   refine G.skip (G.then_n (G.seq (G.block (G.seq ?_))))
   refine G.draw [] [[0, 1, 2, 3, 4, 5, 6, 7, 8]] mixed (by kernel_rfl) ?_
   refine Phases.go [] (by (repeat' constructor)) ?_
   refine D.qw [2, 3, 8] rfl (by kernel_rfl) (Quiet.move rfl) ?_
   refine D.qw [2, 3, 8] rfl (by kernel_rfl) (Quiet.move rfl) ?_
   refine D.qw [3, 8] rfl (by kernel_rfl) (Quiet.indexAddr rfl rfl el_40 (by omega)) ?_
   refine D.qw [8] rfl (by kernel_rfl) (Quiet.loadRd (sz := 1) (j := i * 1) (p := slR 9 1 _ xs.length (strs xs)) rfl ag_9 (by (repeat' constructor)) (fun h hp => slR_rd hp) (by omega) (strs_at (by omega))) ?_
   refine D.qw [6, 7, 8] rfl (by kernel_rfl) (Quiet.move rfl) ?_
   refine D.qw [6, 7, 8] rfl (by kernel_rfl) (Quiet.move rfl) ?_
   refine D.qw [7, 8] rfl (by kernel_rfl) (Quiet.indexAddr rfl rfl el_40 (by omega)) ?_
   refine D.qw [8] rfl (by kernel_rfl) (Quiet.loadRd (sz := 1) (j := i * 1) (p := slR 9 1 _ ys.length (strs ys)) rfl ag_9 (by (repeat' constructor)) (fun h hp => slR_rd hp) (by omega) (strs_at (by omega))) ?_
   refine D.qw [] rfl (by kernel_rfl) (Quiet.strne rfl rfl) ?_
   refine D.ph (Phases.fin (G.then_n ?_))
   refine G.condN rfl (fun h25 => ?_) (fun h25 => ?_)
   ·refine G.seq (G.region (G.q (Quiet.assign rfl) rfl (G.nil (G.then_n (G.ret (G.blk_r (G.then_r (G.then_r (G.blk_r (G.then_r ?_))))))))))
    exact G.done (l := [.tmp 4]) rfl rfl ⟨by rw [decide_eq_false (fun e => h25 (by simp only [e]))], rfl⟩ (by (repeat' constructor)) (by (repeat' constructor))
   ·refine G.skip (G.blk_n (G.then_n (G.region (G.q (Quiet.move rfl) rfl ?_))))
    refine G.q (Quiet.add rfl rfl (by omega)) rfl ?_
    refine G.q (Quiet.assign rfl) rfl (G.nil (G.then_n ?_))
    exact G.roundK (i + 1) (⟨by omega, by rw [List.take_succ_eq_append_getElem hi2, List.take_succ_eq_append_getElem hi3, hpre, h25]⟩) (by omega) ⟨rfl, rfl, rfl, trivial⟩ (by (repeat' constructor)) (by ((repeat (apply Have.cons; (repeat (first | exact Pick.here | apply Pick.there)))); apply Have.base; repeat' constructor))
  ·refine G.exit (G.then_e (G.then_e (G.blk_e (G.then_n (G.seq (G.region (G.q (Quiet.assign rfl) rfl (G.nil (G.then_n (G.ret ?_))))))))))
   exact G.done (l := [.tmp 4]) rfl rfl ⟨by rw [decide_eq_true (by have hii : i = xs.length := (by omega); rw [hii, List.take_length] at hpre; rw [hlen, List.take_length] at hpre; exact hpre)], rfl⟩ (by (repeat' constructor)) (by (repeat' constructor))

set_option maxRecDepth 100000 in
theorem numbers7_spec (xs ys : List Int) (va vb : Value) (h1 : xs.length ≤ 4611686018427387904) : Fn Tryz.prog 67 #[va, vb] [slR 3 1 va xs.length (ints xs), slR 3 1 vb ys.length (ints ys)] fun v L => v = .bool (decide (xs = ys)) ∧ L = [slR 3 1 va xs.length (ints xs), slR 3 1 vb ys.length (ints ys)] := by
 refine Fn.intro (vs := [va, vb]) Tryz.func67 rfl rfl ?_
 intro F W
 refine G.slAny (v := va) (by (repeat' constructor)) fun aa ca e0 _ => ?_
 subst e0
 refine G.slAny (v := vb) (by (repeat' constructor)) fun ab cb e0 _ => ?_
 subst e0
 refine G.seq (G.region (G.q (Quiet.assign rfl) rfl (G.nil (G.then_n (G.seq (G.seq (G.region (G.q (Quiet.move rfl) rfl (G.q (Quiet.slen rfl Tryz.underlying52 rfl) rfl (G.q (Quiet.move rfl) rfl (G.q (Quiet.slen rfl Tryz.underlying52 rfl) rfl (G.q (Quiet.int rfl rfl rfl) rfl (G.nil (G.then_n ?_))))))))))))))
 refine G.condN rfl (fun h10 => ?_) (fun h10 => ?_)
 ·refine G.seq (G.region (G.q (Quiet.assign rfl) rfl (G.nil (G.then_n (G.ret (G.then_r ?_))))))
  exact G.done (l := [.tmp 4]) rfl rfl ⟨by rw [decide_eq_false (fun e => h10 (by rw [e]))], rfl⟩ (by (repeat' constructor)) (by (repeat' constructor))
 ·have hlen : xs.length = ys.length := by omega
  refine G.skip (G.then_n (G.seq (G.seq (G.region (G.q (Quiet.assign rfl) rfl (G.nil (G.then_n (G.block ?_))))))))
  refine G.loopK (ι := Nat) (fun q E => (5, vint q) :: E) (fun q => []) (fun q => q ≤ xs.length ∧ xs.take q = ys.take q) (fun q => xs.length - q) (0) (ts := [0, 1]) (.cons rfl (.cons rfl (.nil))) (⟨Nat.zero_le _, rfl⟩) ⟨rfl, rfl, rfl, trivial⟩ (by (repeat' constructor)) ?_
  rintro i ⟨hi, hpre⟩
  refine G.seq (G.seq (G.region (G.q (Quiet.move rfl) rfl (G.q (Quiet.move rfl) rfl (G.q (Quiet.slen rfl Tryz.underlying52 rfl) rfl (G.q (Quiet.int rfl rfl rfl) rfl (G.nil (G.then_n ?_))))))))
  refine G.condD rfl (fun h14 => ?_) (fun h14 => ?_)
  ·have hi2 : i < xs.length := by omega
   have hi3 : i < ys.length := by omega
   refine G.slShape (v := .slice aa _ ca) (by (repeat' constructor)) (by omega) fun ba ba' e0 mba _ => ?_
   simp only [Value.slice.injEq, true_and] at e0
   obtain ⟨rfl, rfl⟩ := e0
   refine G.slShape (v := .slice ab _ cb) (by (repeat' constructor)) (by omega) fun bb bb' e0 mbb _ => ?_
   simp only [Value.slice.injEq, true_and] at e0
   obtain ⟨rfl, rfl⟩ := e0
   refine G.skip (G.then_n (G.seq (G.block (G.seq ?_))))
   refine G.draw [] [[0, 1, 2, 3, 4, 5, 6, 7, 8]] mixed (by kernel_rfl) ?_
   refine Phases.go [] (by (repeat' constructor)) ?_
   refine D.qw [2, 3, 8] rfl (by kernel_rfl) (Quiet.move rfl) ?_
   refine D.qw [2, 3, 8] rfl (by kernel_rfl) (Quiet.move rfl) ?_
   refine D.qw [3, 8] rfl (by kernel_rfl) (Quiet.indexAddr rfl rfl el_52 (by omega)) ?_
   refine D.qw [8] rfl (by kernel_rfl) (Quiet.loadRd (sz := 1) (j := i * 1) (p := slR 3 1 _ xs.length (ints xs)) rfl ag_3 (by (repeat' constructor)) (fun h hp => slR_rd hp) (by omega) (ints_at (by omega))) ?_
   refine D.qw [6, 7, 8] rfl (by kernel_rfl) (Quiet.move rfl) ?_
   refine D.qw [6, 7, 8] rfl (by kernel_rfl) (Quiet.move rfl) ?_
   refine D.qw [7, 8] rfl (by kernel_rfl) (Quiet.indexAddr rfl rfl el_52 (by omega)) ?_
   refine D.qw [8] rfl (by kernel_rfl) (Quiet.loadRd (sz := 1) (j := i * 1) (p := slR 3 1 _ ys.length (ints ys)) rfl ag_3 (by (repeat' constructor)) (fun h hp => slR_rd hp) (by omega) (ints_at (by omega))) ?_
   refine D.qw [] rfl (by kernel_rfl) (Quiet.int rfl rfl rfl) ?_
   refine D.ph (Phases.fin (G.then_n ?_))
   refine G.condN rfl (fun h25 => ?_) (fun h25 => ?_)
   ·refine G.seq (G.region (G.q (Quiet.assign rfl) rfl (G.nil (G.then_n (G.ret (G.blk_r (G.then_r (G.then_r (G.blk_r (G.then_r ?_))))))))))
    exact G.done (l := [.tmp 4]) rfl rfl ⟨by rw [decide_eq_false (fun e => h25 (by simp only [e]))], rfl⟩ (by (repeat' constructor)) (by (repeat' constructor))
   ·refine G.skip (G.blk_n (G.then_n (G.region (G.q (Quiet.move rfl) rfl ?_))))
    refine G.q (Quiet.add rfl rfl (by omega)) rfl ?_
    refine G.q (Quiet.assign rfl) rfl (G.nil (G.then_n ?_))
    exact G.roundK (i + 1) (⟨by omega, by rw [List.take_succ_eq_append_getElem hi2, List.take_succ_eq_append_getElem hi3, hpre, h25]⟩) (by omega) ⟨rfl, rfl, rfl, trivial⟩ (by (repeat' constructor)) (by ((repeat (apply Have.cons; (repeat (first | exact Pick.here | apply Pick.there)))); apply Have.base; repeat' constructor))
  ·refine G.exit (G.then_e (G.then_e (G.blk_e (G.then_n (G.seq (G.region (G.q (Quiet.assign rfl) rfl (G.nil (G.then_n (G.ret ?_))))))))))
   exact G.done (l := [.tmp 4]) rfl rfl ⟨by rw [decide_eq_true (by have hii : i = xs.length := (by omega); rw [hii, List.take_length] at hpre; rw [hlen, List.take_length] at hpre; exact hpre)], rfl⟩ (by (repeat' constructor)) (by (repeat' constructor))

end Go.Proofs.YtnnbelmpbmfdnaaGreatDoor

/- Own work, by program: law 07: a tree tells what the document's does: walked. -/

namespace Go.Proofs.YtnnbelmpbmfdnaaGreatDoor
open Go
set_option maxHeartbeats 1000000 in
set_option maxRecDepth 100000 in
theorem alike7_spec (t x : Nat) (τ : Tr) (N : Nat) (ho : τ.Ok N) (hN : N ≤ 1073741824) (hb : ∀ y ∈ τ.sess, y.1 ≤ 9223372036854775807) : Fn Tryz.prog 27 #[vptr t, vptr x] [treeR t τ, refR x τ] fun r L => r = .bool true ∧ L = [treeR t τ, refR x τ] := by
 refine Fn.intro (vs := [vptr t, vptr x]) Tryz.func27 rfl rfl ?_
 intro F W
 have hfew := ho.few
 have hsf := ho.sfew
 have hpz : (pathsZ τ).length = τ.nodes.length := List.length_map _
 have hiz : (idsZ τ).length = τ.sess.length := List.length_map _
 refine G.seq (G.region (G.q (Quiet.assign rfl) rfl (G.nil (G.then_n (G.seq (G.region (G.q (Quiet.assign rfl) rfl (G.nil (G.then_n (G.seq (G.seq (G.add (slR_nil 9 1) (G.region (G.q (Quiet.assign rfl) rfl (G.nil (G.then_n (G.block ?_)))))))))))))))))
 refine G.loopK (ι := Nat × Value) (fun q E => (6, vint q.1) :: (5, q.2) :: E) (fun q => [treeR t τ, refR x τ, slR 9 1 q.2 ((pathsZ τ).take q.1).length (strs ((pathsZ τ).take q.1))]) (fun q => q.1 ≤ τ.nodes.length ∧ ∃ a c, q.2 = .slice a ((pathsZ τ).take q.1).length c) (fun q => τ.nodes.length - q.1) (0, .slice none 0 0) (ts := [0, 1]) (.cons rfl (.cons rfl (.nil))) (⟨Nat.zero_le _, none, 0, rfl⟩) ⟨rfl, rfl, rfl, rfl, trivial⟩ (by (repeat' constructor)) ?_
 rintro ⟨i, u⟩ ⟨hi, au, cu, hu⟩
 dsimp only
 dsimp only at hi hu
 subst hu
 have hpl2 : ((pathsZ τ).take i).length = i := by rw [List.length_take]; omega
 refine G.seq (G.seq ?_)
 refine G.rfOpen (x := x) (τ := τ) (by (repeat' constructor)) fun an cn as1 cs l hl => ?_
 have hll := nds_len hl
 refine G.region (G.q (Quiet.move rfl) rfl (G.q (Quiet.move rfl) rfl (G.q (Quiet.nilp rfl) rfl (G.q (Quiet.fieldAddr rfl fo_101_0) rfl ?_))))
 refine G.q (Quiet.load rfl ag_98 (by (repeat' constructor)) (rfl)) rfl ?_
 refine G.q (Quiet.slen rfl Tryz.underlying98 rfl) rfl (G.q (Quiet.int rfl rfl rfl) rfl (G.nil ?_))
 refine G.rfFold (x := x) (τ := τ) (l := l) hl (by (repeat' constructor)) rfl rfl rfl rfl rfl ?_
 refine G.then_n ?_
 refine G.condD rfl (fun h36 => ?_) (fun h36 => ?_)
 ·have hi2 : i < τ.nodes.length := by omega
  obtain ⟨hst, hth⟩ : statD τ τ.nodes[i].1 = { τ.nodes[i].2.st with len := τ.nodes[i].2.data.length, kids := (kidsZ τ τ.nodes[i].1).length } ∧ thereT τ τ.nodes[i].1 := by have h1 : alook τ.nodes τ.nodes[i].1 = some τ.nodes[i].2 := al_of_mem (ho.sorted.nodup linB) (List.getElem_mem hi2); exact ⟨stat_some h1, there_some'.2 ⟨_, h1⟩⟩
  have hlk : alook τ.nodes τ.nodes[i].1 = some τ.nodes[i].2 := al_of_mem (ho.sorted.nodup linB) (List.getElem_mem hi2)
  have hda : dataD τ τ.nodes[i].1 = τ.nodes[i].2.data := by unfold dataD; rw [hlk]; rfl
  have hac : aclD τ τ.nodes[i].1 = τ.nodes[i].2.acl := by unfold aclD; rw [hlk]; rfl
  have hacl := ho.acls _ (List.getElem_mem hi2)
  have hkl := kidsZ_len τ τ.nodes[i].1
  have hpsn : (pathsZ τ).take (i + 1) = (pathsZ τ).take i ++ [τ.nodes[i].1] := by rw [List.take_succ_eq_append_getElem (by omega)]; simp [pathsZ]
  refine G.skip (G.then_n (G.seq (G.block (G.seq ?_))))
  refine G.rfOpen (x := x) (τ := τ) (by (repeat' constructor)) fun an cn as1 cs l hl => ?_
  have hll := nds_len hl
  have hil : i < l.length := by omega
  have hgl := nds_get hl hil
  refine G.slShape (T := 131) (sz := 12) (v := .slice an l.length cn) (xs := l.flatMap rnC) (by (repeat' constructor)) (by omega) fun bn bn' e0 mbn _ => ?_
  simp only [Value.slice.injEq, true_and] at e0
  obtain ⟨rfl, rfl⟩ := e0
  refine G.region (G.q (Quiet.move rfl) rfl (G.q (Quiet.nilp rfl) rfl (G.q (Quiet.fieldAddr rfl fo_101_0) rfl ?_)))
  refine G.q (Quiet.load rfl ag_98 (by (repeat' constructor)) (rfl)) rfl ?_
  refine G.q (Quiet.move rfl) rfl ?_
  refine G.q (Quiet.indexAddr rfl rfl el_98 (by omega)) rfl ?_
  refine G.q (Quiet.fieldAddr rfl fo_131_0) rfl ?_
  refine G.q (Quiet.to (v' := vstr τ.nodes[i].1) (Quiet.loadRd (sz := 12) (j := i * 12 + 0) (p := rnR _ l) rfl ag_9 (by (repeat' constructor)) (fun h hp => slR_rd hp) (by omega) ((rn_cell (l := l) (i := i) (k := 0) (by omega) (by decide)).trans rfl)) (by rw [hgl])) rfl ?_
  refine G.q (Quiet.assign rfl) rfl (G.nil ?_)
  refine G.rfFold (x := x) (τ := τ) (l := l) hl (by (repeat' constructor)) rfl rfl rfl rfl rfl ?_
  refine G.then_n (G.seq (G.region (G.q (Quiet.move rfl) rfl (G.q (Quiet.move rfl) rfl ?_))))
  refine G.op (OpSpec.buildSlice1 (vs := [_]) el_40 ze_9 rfl rfl rfl rfl rfl (by decide)) (by (repeat' constructor)) rfl ?nx20
  rintro v L' ⟨b6_2, rfl, rfl⟩
  refine G.op (OpSpec.append1 rfl rfl rfl el_40 ze_9 rfl rfl ?c22 ?c23 (Nat.le_refl _) ?c24 (by decide)) (by (repeat' constructor)) rfl ?nx25
  case c22 => (first | (simp [isCell]; done) | (simp [isCell, setAll, Value.cells]; done))
  case c23 => rfl
  case c24 => first | omega | (simp; omega)
  rintro v L' ⟨⟨a6_3, c6_3, rfl⟩, rfl⟩
  refine G.q (Quiet.assign rfl) rfl (G.nil ?_)
  rw [show strs ((pathsZ τ).take i) ++ [vstr τ.nodes[i].1] = strs ((pathsZ τ).take (i + 1)) by rw [hpsn]; simp [strs], show ((pathsZ τ).take i).length + 1 = ((pathsZ τ).take (i + 1)).length by rw [hpsn, List.length_append]; rfl]
  refine G.then_n (G.seq (G.region (G.q (Quiet.move rfl) rfl (G.q (Quiet.move rfl) rfl ?_))))
  refine G.op (OpSpec.call Tryz.func41 rfl rfl (vs := [_, _]) rfl (trget_spec t τ τ.nodes[i].1 N ho (by omega))) (by (repeat' constructor)) rfl ?nx28
  rintro v L' ⟨rfl, rfl⟩; rw [if_pos hth]
  refine G.q (Quiet.move rfl) rfl (G.q (Quiet.extract rfl rfl) rfl (G.q (Quiet.extract rfl rfl) rfl (G.q (Quiet.extract rfl rfl) rfl ?_)))
  refine G.op (OpSpec.allocA ze_43) (by (repeat' constructor)) rfl ?nx33
  rintro v L' ⟨b9, rfl, rfl⟩
  refine G.q (Quiet.assign rfl) rfl ?_
  refine G.op (OpSpec.storeA rfl rfl ?c35 sz_43 ?c38 ?c36 ?c37) (by (repeat' constructor)) rfl ?nx39
  case c35 => intro v hv; simp only [stC, List.mem_cons, List.not_mem_nil, or_false] at hv; rcases hv with rfl | rfl | rfl | rfl | rfl | rfl | rfl | rfl | rfl <;> rfl
  case c38 => rfl
  case c36 => simp [stC]
  case c37 => exact nfz0 _ _
  rintro v L' rfl
  refine G.q (Quiet.assign rfl) rfl (G.nil ?_)
  refine G.ptCast (b := b9) (l' := stC (statD τ τ.nodes[i].1)) (by (repeat' constructor)) rfl ?_
  refine G.then_n (G.seq (G.region (G.q (Quiet.move rfl) rfl (G.q (Quiet.move rfl) rfl ?_))))
  refine G.op (OpSpec.call Tryz.func62 rfl rfl (vs := [_, _]) rfl (rstat_spec x τ τ.nodes[i].1 N ho hN)) (by (repeat' constructor)) rfl ?nx41
  rintro v L' ⟨rfl, rfl⟩; rw [decide_eq_true hth]
  refine G.q (Quiet.move rfl) rfl (G.q (Quiet.extract rfl rfl) rfl (G.q (Quiet.extract rfl rfl) rfl ?_))
  refine G.op (OpSpec.allocA ze_43) (by (repeat' constructor)) rfl ?nx45
  rintro v L' ⟨b11, rfl, rfl⟩
  refine G.op (OpSpec.storeA rfl rfl ?c47 sz_43 ?c50 ?c48 ?c49) (by (repeat' constructor)) rfl ?nx51
  case c47 => intro v hv; simp only [stC, List.mem_cons, List.not_mem_nil, or_false] at hv; rcases hv with rfl | rfl | rfl | rfl | rfl | rfl | rfl | rfl | rfl <;> rfl
  case c50 => rfl
  case c48 => simp [stC]
  case c49 => exact nfz0 _ _
  rintro v L' rfl
  refine G.q (Quiet.assign rfl) rfl (G.nil ?_)
  refine G.ptCast (b := b11) (l' := stC (statD τ τ.nodes[i].1)) (by (repeat' constructor)) rfl ?_
  refine G.then_n (G.seq (G.region (G.q (Quiet.move rfl) rfl (G.q (Quiet.move rfl) rfl ?_))))
  refine G.op (OpSpec.call Tryz.func16 rfl rfl (vs := [_, _]) rfl (trstat_spec t τ τ.nodes[i].1 N ho (by omega))) (by (repeat' constructor)) rfl ?nx53
  rintro v L' ⟨rfl, rfl⟩; rw [decide_eq_true hth]
  refine G.q (Quiet.move rfl) rfl (G.q (Quiet.extract rfl rfl) rfl (G.q (Quiet.extract rfl rfl) rfl ?_))
  refine G.op (OpSpec.allocA ze_43) (by (repeat' constructor)) rfl ?nx57
  rintro v L' ⟨b13, rfl, rfl⟩
  refine G.op (OpSpec.storeA rfl rfl ?c59 sz_43 ?c62 ?c60 ?c61) (by (repeat' constructor)) rfl ?nx63
  case c59 => intro v hv; simp only [stC, List.mem_cons, List.not_mem_nil, or_false] at hv; rcases hv with rfl | rfl | rfl | rfl | rfl | rfl | rfl | rfl | rfl <;> rfl
  case c62 => rfl
  case c60 => simp [stC]
  case c61 => exact nfz0 _ _
  rintro v L' rfl
  refine G.q (Quiet.assign rfl) rfl (G.nil ?_)
  refine G.ptCast (b := b13) (l' := stC (statD τ τ.nodes[i].1)) (by (repeat' constructor)) rfl ?_
  refine G.then_n (G.seq (G.region (G.q (Quiet.move rfl) rfl (G.q (Quiet.move rfl) rfl ?_))))
  refine G.op (OpSpec.call Tryz.func63 rfl rfl (vs := [_, _]) rfl (tracl_spec t τ τ.nodes[i].1 N ho)) (by (repeat' constructor)) rfl ?nx65
  rintro v L' ⟨ua, rfl, ⟨aa, ca, rfl⟩, rfl⟩; rw [if_pos hth]
  refine G.q (Quiet.move rfl) rfl (G.q (Quiet.extract rfl rfl) rfl (G.q (Quiet.extract rfl rfl) rfl (G.q (Quiet.assign rfl) rfl (G.q (Quiet.assign rfl) rfl (G.nil (G.then_n (G.seq (G.region (G.q (Quiet.move rfl) rfl (G.q (Quiet.move rfl) rfl ?_))))))))))
  refine G.op (OpSpec.call Tryz.func50 rfl rfl (vs := [_, _]) rfl (trkids_spec t τ τ.nodes[i].1 N ho (by omega))) (by (repeat' constructor)) rfl ?nx70
  rintro v L' ⟨uk, lk, rfl, -, hlk, ⟨ak, ck, rfl⟩, rfl⟩; rw [if_pos hth] at hlk; subst hlk; rw [if_pos hth]
  refine G.q (Quiet.move rfl) rfl (G.q (Quiet.extract rfl rfl) rfl (G.q (Quiet.extract rfl rfl) rfl (G.q (Quiet.assign rfl) rfl (G.q (Quiet.assign rfl) rfl (G.nil (G.then_n (G.seq ?_)))))))
  refine G.rfOpen (x := x) (τ := τ) (by (repeat' constructor)) fun an cn as1 cs l hl => ?_
  have hll := nds_len hl
  have hil : i < l.length := by omega
  have hgl := nds_get hl hil
  refine G.slShape (T := 131) (sz := 12) (v := .slice an l.length cn) (xs := l.flatMap rnC) (by (repeat' constructor)) (by omega) fun bn bn' e0 mbn _ => ?_
  simp only [Value.slice.injEq, true_and] at e0
  obtain ⟨rfl, rfl⟩ := e0
  refine G.region (G.q (Quiet.move rfl) rfl (G.q (Quiet.move rfl) rfl (G.q (Quiet.nilp rfl) rfl (G.q (Quiet.fieldAddr rfl fo_101_0) rfl ?_))))
  refine G.q (Quiet.load rfl ag_98 (by (repeat' constructor)) (rfl)) rfl ?_
  refine G.q (Quiet.move rfl) rfl ?_
  refine G.q (Quiet.indexAddr rfl rfl el_98 (by omega)) rfl ?_
  refine G.q (Quiet.fieldAddr rfl fo_131_2) rfl ?_
  refine G.q (Quiet.loadRd (sz := 12) (j := i * 12 + 2) (p := rnR _ l) rfl ag_34 (by (repeat' constructor)) (fun h hp => slR_rd hp) (by omega) ((rn_cell (l := l) (i := i) (k := 2) (by omega) (by decide)).trans rfl)) rfl ?_
  refine G.op (OpSpec.call Tryz.func64 rfl rfl (vs := [_, _]) rfl (rrowseq_spec _ l[i].2.1 (aclD τ τ.nodes[i].1) l[i].2.2.acl _ (bigR inA l) (fun h hp => slR_rd (T := 104) hp) (big_rd hil) (by rw [hac]; exact hacl))) (by (repeat' constructor)) rfl ?nx82
  rintro v L' ⟨rfl, rfl⟩; rw [decide_eq_true (by rw [hac, hgl])]
  refine G.q (Quiet.assign rfl) rfl (G.nil ?_)
  refine G.rfFold (x := x) (τ := τ) (l := l) hl (by (repeat' constructor)) rfl rfl rfl rfl rfl ?_
  refine G.then_n (G.seq (G.region (G.q (Quiet.move rfl) rfl (G.q (Quiet.move rfl) rfl (G.q (Quiet.move rfl) rfl ?_)))))
  refine G.op (OpSpec.call Tryz.func65 rfl rfl (vs := [_, _]) rfl (rkids_spec x τ τ.nodes[i].1 N ho hN)) (by (repeat' constructor)) rfl ?nx85
  rintro v L' ⟨⟨a13, c13, rfl⟩, rfl⟩
  refine G.op (OpSpec.call Tryz.func17 rfl rfl (vs := [_, _]) rfl (texts7_spec (kidsZ τ τ.nodes[i].1) (kidsZ τ τ.nodes[i].1) _ _ (by omega))) (by (repeat' constructor)) rfl ?nx87
  rintro v L' ⟨rfl, rfl⟩; rw [decide_eq_true rfl]
  refine G.q (Quiet.assign rfl) rfl (G.nil (G.then_n (G.seq (G.seq ?_))))
  refine G.rfOpen (x := x) (τ := τ) (by (repeat' constructor)) fun an cn as1 cs l hl => ?_
  have hll := nds_len hl
  have hil : i < l.length := by omega
  have hgl := nds_get hl hil
  refine G.slShape (T := 131) (sz := 12) (v := .slice an l.length cn) (xs := l.flatMap rnC) (by (repeat' constructor)) (by omega) fun bn bn' e0 mbn _ => ?_
  simp only [Value.slice.injEq, true_and] at e0
  obtain ⟨rfl, rfl⟩ := e0
  have hdl : dataD τ τ.nodes[i].1 = l[i].2.2.data := hda.trans (by rw [hgl])
  refine G.region (G.q (Quiet.move rfl) rfl (G.q (Quiet.move rfl) rfl (G.q (Quiet.nilp rfl) rfl (G.q (Quiet.fieldAddr rfl fo_101_0) rfl ?_))))
  refine G.q (Quiet.load rfl ag_98 (by (repeat' constructor)) (rfl)) rfl ?_
  refine G.q (Quiet.move rfl) rfl ?_
  refine G.q (Quiet.indexAddr rfl rfl el_98 (by omega)) rfl ?_
  refine G.q (Quiet.fieldAddr rfl fo_131_1) rfl ?_
  refine G.q (Quiet.loadRd (sz := 12) (j := i * 12 + 1) (p := rnR _ l) rfl ag_9 (by (repeat' constructor)) (fun h hp => slR_rd hp) (by omega) ((rn_cell (l := l) (i := i) (k := 1) (by omega) (by decide)).trans rfl)) rfl ?_
  refine G.q (Quiet.as (v' := .bool false) (by simp [hdl]) (Quiet.strne rfl rfl)) rfl ?_
  refine G.q (Quiet.move rfl) rfl (G.grun (t := 107) rfl rfl rfl ?_)
  refine G.q (Quiet.loadAs (vs := stC (statD τ τ.nodes[i].1)) rfl ag_43 (by (repeat' constructor)) (by simp [stC]) rfl) rfl ?_
  refine G.grun (t := 107) rfl rfl rfl ?_
  refine G.q (Quiet.loadAs (vs := stC (statD τ τ.nodes[i].1)) rfl ag_43 (by (repeat' constructor)) (by simp [stC]) rfl) rfl ?_
  refine G.grun (t := 107) rfl rfl rfl ?_
  refine G.q (Quiet.as (v' := .bool false) (by simp) (Quiet.structNe (r := decide (statD τ τ.nodes[i].1 = statD τ τ.nodes[i].1)) rfl rfl (by kernel_rfl) (st_eq 9998 _ _))) rfl ?_
  refine G.q (Quiet.pickF rfl rfl) rfl (G.q (Quiet.move rfl) rfl (G.grun (t := 112) rfl rfl rfl ?_))
  refine G.q (Quiet.loadAs (vs := stC (statD τ τ.nodes[i].1)) rfl ag_43 (by (repeat' constructor)) (by simp [stC]) rfl) rfl ?_
  refine G.grun (t := 112) rfl rfl rfl ?_
  refine G.q (Quiet.loadAs (vs := stC (statD τ τ.nodes[i].1)) rfl ag_43 (by (repeat' constructor)) (by simp [stC]) rfl) rfl ?_
  refine G.grun (t := 112) rfl rfl rfl ?_
  refine G.q (Quiet.as (v' := .bool false) (by simp) (Quiet.structNe (r := decide (statD τ τ.nodes[i].1 = statD τ τ.nodes[i].1)) rfl rfl (by kernel_rfl) (st_eq 9998 _ _))) rfl ?_
  refine G.q (Quiet.pickF rfl rfl) rfl (G.q (Quiet.move rfl) rfl (G.grun (t := 117) rfl rfl rfl (G.q (Quiet.move rfl) rfl (G.grun (t := 117) rfl rfl rfl (G.q (Quiet.not rfl) rfl (G.q (Quiet.pickF rfl rfl) rfl (G.q (Quiet.move rfl) rfl (G.grun (t := 121) rfl rfl rfl (G.q (Quiet.move rfl) rfl (G.grun (t := 121) rfl rfl rfl (G.q (Quiet.not rfl) rfl (G.q (Quiet.pickF rfl rfl) rfl (G.q (Quiet.move rfl) rfl (G.grun (t := 125) rfl rfl rfl (G.q (Quiet.move rfl) rfl (G.grun (t := 125) rfl rfl rfl (G.q (Quiet.not rfl) rfl (G.q (Quiet.pickF rfl rfl) rfl (G.q (Quiet.move rfl) rfl (G.grun (t := 129) rfl rfl rfl (G.q (Quiet.move rfl) rfl (G.grun (t := 129) rfl rfl rfl ?_))))))))))))))))))))))
  refine G.q (Quiet.as (v' := .bool false) (by rfl) (Quiet.int rfl rfl rfl)) rfl ?_
  refine G.q (Quiet.pickF rfl rfl) rfl (G.q (Quiet.move rfl) rfl (G.grun (t := 133) rfl rfl rfl (G.q (Quiet.move rfl) rfl (G.grun (t := 133) rfl rfl rfl ?_))))
  refine G.q (Quiet.as (v' := .bool false) (by rfl) (Quiet.int rfl rfl rfl)) rfl ?_
  refine G.q (Quiet.pickF rfl rfl) rfl (G.q (Quiet.move rfl) rfl (G.grun (t := 137) rfl rfl rfl (G.q (Quiet.move rfl) rfl (G.grun (t := 137) rfl rfl rfl ?_))))
  refine G.q (Quiet.as (v' := .bool false) (by rfl) (Quiet.int rfl rfl rfl)) rfl ?_
  refine G.q (Quiet.pickF rfl rfl) rfl (G.nil ?_)
  refine G.rfFold (x := x) (τ := τ) (l := l) hl (by (repeat' constructor)) rfl rfl rfl rfl rfl ?_
  refine G.then_n (G.condF rfl (G.skip (G.then_n (G.seq ?_))))
  refine G.rfOpen (x := x) (τ := τ) (by (repeat' constructor)) fun an cn as1 cs l hl => ?_
  have hll := nds_len hl
  have hil : i < l.length := by omega
  have hgl := nds_get hl hil
  refine G.slShape (T := 131) (sz := 12) (v := .slice an l.length cn) (xs := l.flatMap rnC) (by (repeat' constructor)) (by omega) fun bn bn' e0 mbn _ => ?_
  simp only [Value.slice.injEq, true_and] at e0
  obtain ⟨rfl, rfl⟩ := e0
  refine G.region (G.q (Quiet.move rfl) rfl (G.q (Quiet.nilp rfl) rfl (G.q (Quiet.fieldAddr rfl fo_101_0) rfl ?_)))
  refine G.q (Quiet.load rfl ag_98 (by (repeat' constructor)) (rfl)) rfl ?_
  refine G.q (Quiet.move rfl) rfl ?_
  refine G.q (Quiet.indexAddr rfl rfl el_98 (by omega)) rfl ?_
  refine G.q (Quiet.fieldAddr rfl fo_131_3) rfl (G.q (Quiet.fieldAddr rfl fo_43_6) rfl ?_)
  refine G.q (Quiet.loadRd (sz := 12) (j := i * 12 + 9) (p := rnR _ l) rfl ag_3 (by (repeat' constructor)) (fun h hp => slR_rd hp) (by omega) ((rn_cell (l := l) (i := i) (k := 9) (by omega) (by decide)).trans rfl)) rfl ?_
  refine G.q (Quiet.assign rfl) rfl (G.nil ?_)
  refine G.rfFold (x := x) (τ := τ) (l := l) hl (by (repeat' constructor)) rfl rfl rfl rfl rfl ?_
  have how : ∀ s, (ownedZ τ s).length ≤ τ.nodes.length := owned_len τ
  generalize l[i].2.2.st.own = ow
  refine G.then_n (G.seq (G.region (G.q (Quiet.move rfl) rfl (G.q (Quiet.move rfl) rfl ?_))))
  refine G.op (OpSpec.call Tryz.func18 rfl rfl (vs := [_, _]) rfl (trowned_spec t τ ow N ho (by omega))) (by (repeat' constructor)) rfl ?nx120
  rintro v L' ⟨⟨ao, co, rfl⟩, rfl⟩
  refine G.q (Quiet.move rfl) rfl (G.q (Quiet.move rfl) rfl ?_)
  refine G.op (OpSpec.call Tryz.func66 rfl rfl (vs := [_, _]) rfl (rowned_spec x τ ow N ho hN)) (by (repeat' constructor)) rfl ?nx123
  rintro v L' ⟨⟨ap, cp, rfl⟩, rfl⟩
  refine G.op (OpSpec.call Tryz.func17 rfl rfl (vs := [_, _]) rfl (texts7_spec (ownedZ τ ow) (ownedZ τ ow) _ _ (by have := how ow; omega))) (by (repeat' constructor)) rfl ?nx125
  rintro v L' ⟨rfl, rfl⟩; rw [decide_eq_true rfl]
  refine G.q (Quiet.assign rfl) rfl (G.nil (G.then_n (G.seq (G.region (G.q (Quiet.move rfl) rfl (G.q (Quiet.not rfl) rfl (G.nil (G.then_n (G.condF rfl (G.skip (G.blk_n (G.then_n (G.region (G.q (Quiet.move rfl) rfl ?_))))))))))))))
  refine G.q (Quiet.add rfl rfl (by omega)) rfl ?_
  refine G.q (Quiet.assign rfl) rfl (G.nil (G.then_n ?_))
  exact G.roundK ((i + 1, .slice a6_3 ((pathsZ τ).take (i + 1)).length c6_3)) (⟨by dsimp only; omega, _, _, rfl⟩) (by dsimp only; omega) ⟨rfl, rfl, rfl, rfl, trivial⟩ (by (repeat' constructor)) (by ((repeat (apply Have.cons; (repeat (first | exact Pick.here | apply Pick.there)))); apply Have.base; repeat' constructor))
 ·have hii : i = τ.nodes.length := by omega
  have hpt : (pathsZ τ).take i = pathsZ τ := List.take_of_length_le (by omega)
  rw [hpt]
  refine G.exit (G.then_e (G.then_e (G.blk_e (G.then_n (G.seq (G.region (G.q (Quiet.assign rfl) rfl (G.nil (G.then_n (G.seq (G.seq (G.add (slR_nil 3 1) (G.region (G.q (Quiet.assign rfl) rfl (G.nil (G.then_n (G.block ?_)))))))))))))))))
  refine G.loopK (ι := Nat × Value) (fun q E => (24, vint q.1) :: (23, q.2) :: E) (fun q => [treeR t τ, refR x τ, slR 3 1 q.2 ((idsZ τ).take q.1).length (ints ((idsZ τ).take q.1))]) (fun q => q.1 ≤ τ.sess.length ∧ ∃ a c, q.2 = .slice a ((idsZ τ).take q.1).length c) (fun q => τ.sess.length - q.1) (0, .slice none 0 0) (ts := [0, 1, 5]) (.cons rfl (.cons rfl (.cons rfl (.nil)))) (⟨Nat.zero_le _, none, 0, rfl⟩) ⟨rfl, rfl, rfl, rfl, rfl, trivial⟩ (by (repeat' constructor)) ?_
  rintro ⟨j, w⟩ ⟨hj, aw, cw, hw⟩
  dsimp only
  dsimp only at hj hw
  subst hw
  have hjl : ((idsZ τ).take j).length = j := by rw [List.length_take]; omega
  refine G.seq (G.seq ?_)
  refine G.rfOpen (x := x) (τ := τ) (by (repeat' constructor)) fun an cn as1 cs l hl => ?_
  have hll := nds_len hl
  refine G.region (G.q (Quiet.move rfl) rfl (G.q (Quiet.move rfl) rfl (G.q (Quiet.nilp rfl) rfl (G.q (Quiet.fieldAddr rfl fo_101_1) rfl ?_))))
  refine G.q (Quiet.load rfl ag_99 (by (repeat' constructor)) (rfl)) rfl ?_
  refine G.q (Quiet.slen rfl Tryz.underlying99 rfl) rfl (G.q (Quiet.int rfl rfl rfl) rfl (G.nil ?_))
  refine G.rfFold (x := x) (τ := τ) (l := l) hl (by (repeat' constructor)) rfl rfl rfl rfl rfl ?_
  refine G.then_n ?_
  refine G.condD rfl (fun h165 => ?_) (fun h165 => ?_)
  ·have hj2 : j < τ.sess.length := by omega
   have hsl : alook τ.sess τ.sess[j].1 = some τ.sess[j].2 := al_of_mem (ho.ssorted.nodup linI) (List.getElem_mem hj2)
   have hsd : sesD τ τ.sess[j].1 = τ.sess[j].2 ∧ sesT τ τ.sess[j].1 := by unfold sesD sesT; rw [hsl]; exact ⟨rfl, rfl⟩
   have hisn : (idsZ τ).take (j + 1) = (idsZ τ).take j ++ [τ.sess[j].1] := by rw [List.take_succ_eq_append_getElem (by omega)]; simp [idsZ]
   refine G.skip (G.then_n (G.seq (G.block (G.seq ?_))))
   refine G.rfOpen (x := x) (τ := τ) (by (repeat' constructor)) fun an cn as1 cs l hl => ?_
   refine G.slShape (T := 134) (sz := 3) (v := .slice as1 τ.sess.length cs) (xs := τ.sess.flatMap rsC) (by (repeat' constructor)) (by omega) fun bs bs' e0 mbs _ => ?_
   simp only [Value.slice.injEq, true_and] at e0
   obtain ⟨rfl, rfl⟩ := e0
   refine G.region (G.q (Quiet.move rfl) rfl (G.q (Quiet.move rfl) rfl (G.q (Quiet.nilp rfl) rfl (G.q (Quiet.fieldAddr rfl fo_101_1) rfl ?_))))
   refine G.q (Quiet.load rfl ag_99 (by (repeat' constructor)) (rfl)) rfl ?_
   refine G.q (Quiet.move rfl) rfl ?_
   refine G.q (Quiet.indexAddr rfl rfl el_99 (by omega)) rfl ?_
   refine G.q (Quiet.fieldAddr rfl fo_134_0) rfl ?_
   refine G.q (Quiet.loadRd (sz := 3) (j := j * 3 + 0) (p := rsR _ τ.sess) rfl ag_3 (by (repeat' constructor)) (fun h hp => slR_rd hp) (by omega) ((rs_cell (l := τ.sess) (i := j) (k := 0) (by omega) (by decide)).trans rfl)) rfl ?_
   refine G.op (OpSpec.buildSlice1 (vs := [_]) el_52 ze_3 rfl rfl rfl rfl rfl (by decide)) (by (repeat' constructor)) rfl ?nx148
   rintro v L' ⟨b24, rfl, rfl⟩
   refine G.op (OpSpec.append1 rfl rfl rfl el_52 ze_3 rfl rfl ?c150 ?c151 (Nat.le_refl _) ?c152 (by decide)) (by (repeat' constructor)) rfl ?nx153
   case c150 => (first | (simp [isCell]; done) | (simp [isCell, setAll, Value.cells]; done))
   case c151 => rfl
   case c152 => first | omega | (simp; omega)
   rintro v L' ⟨⟨a24_23, c24_23, rfl⟩, rfl⟩
   refine G.q (Quiet.assign rfl) rfl (G.nil ?_)
   rw [show ints ((idsZ τ).take j) ++ [vint τ.sess[j].1] = ints ((idsZ τ).take (j + 1)) by rw [hisn]; simp [ints], show ((idsZ τ).take j).length + 1 = ((idsZ τ).take (j + 1)).length by rw [hisn, List.length_append]; rfl]
   refine G.rfFold (x := x) (τ := τ) (l := l) hl (by (repeat' constructor)) rfl rfl rfl rfl rfl ?_
   refine G.then_n (G.seq ?_)
   refine G.rfOpen (x := x) (τ := τ) (by (repeat' constructor)) fun an cn as1 cs l hl => ?_
   refine G.slShape (T := 134) (sz := 3) (v := .slice as1 τ.sess.length cs) (xs := τ.sess.flatMap rsC) (by (repeat' constructor)) (by omega) fun bs bs' e0 mbs _ => ?_
   simp only [Value.slice.injEq, true_and] at e0
   obtain ⟨rfl, rfl⟩ := e0
   refine G.region (G.q (Quiet.move rfl) rfl (G.q (Quiet.move rfl) rfl (G.q (Quiet.nilp rfl) rfl (G.q (Quiet.fieldAddr rfl fo_101_1) rfl ?_))))
   refine G.q (Quiet.load rfl ag_99 (by (repeat' constructor)) (rfl)) rfl ?_
   refine G.q (Quiet.move rfl) rfl ?_
   refine G.q (Quiet.indexAddr rfl rfl el_99 (by omega)) rfl ?_
   refine G.q (Quiet.fieldAddr rfl fo_134_0) rfl ?_
   refine G.q (Quiet.loadRd (sz := 3) (j := j * 3 + 0) (p := rsR _ τ.sess) rfl ag_3 (by (repeat' constructor)) (fun h hp => slR_rd hp) (by omega) ((rs_cell (l := τ.sess) (i := j) (k := 0) (by omega) (by decide)).trans rfl)) rfl ?_
   refine G.rfFold (x := x) (τ := τ) (l := l) hl (by (repeat' constructor)) rfl rfl rfl rfl rfl ?_
   refine G.op (OpSpec.call Tryz.func19 rfl rfl (vs := [_, _]) rfl (trsession_spec t τ τ.sess[j].1)) (by (repeat' constructor)) rfl ?nx164
   rintro v L' ⟨rfl, rfl⟩; rw [hsd.1, decide_eq_true hsd.2]
   refine G.q (Quiet.move rfl) rfl (G.q (Quiet.extract rfl rfl) rfl (G.q (Quiet.extract rfl rfl) rfl (G.q (Quiet.extract rfl rfl) rfl (G.q (Quiet.assign rfl) rfl (G.q (Quiet.assign rfl) rfl (G.q (Quiet.assign rfl) rfl (G.nil (G.then_n (G.seq ?_)))))))))
   refine G.rfOpen (x := x) (τ := τ) (by (repeat' constructor)) fun an cn as1 cs l hl => ?_
   refine G.slShape (T := 134) (sz := 3) (v := .slice as1 τ.sess.length cs) (xs := τ.sess.flatMap rsC) (by (repeat' constructor)) (by omega) fun bs bs' e0 mbs _ => ?_
   simp only [Value.slice.injEq, true_and] at e0
   obtain ⟨rfl, rfl⟩ := e0
   refine G.region (G.q (Quiet.move rfl) rfl (G.q (Quiet.move rfl) rfl (G.q (Quiet.nilp rfl) rfl (G.q (Quiet.fieldAddr rfl fo_101_1) rfl ?_))))
   refine G.q (Quiet.load rfl ag_99 (by (repeat' constructor)) (rfl)) rfl ?_
   refine G.q (Quiet.move rfl) rfl ?_
   refine G.q (Quiet.indexAddr rfl rfl el_99 (by omega)) rfl ?_
   refine G.q (Quiet.fieldAddr rfl fo_134_1) rfl ?_
   refine G.q (Quiet.loadRd (sz := 3) (j := j * 3 + 1) (p := rsR _ τ.sess) rfl ag_3 (by (repeat' constructor)) (fun h hp => slR_rd hp) (by omega) ((rs_cell (l := τ.sess) (i := j) (k := 1) (by omega) (by decide)).trans rfl)) rfl ?_
   refine G.q (Quiet.as (v' := .bool false) (by simp) (Quiet.int rfl rfl rfl)) rfl ?_
   refine G.q (Quiet.move rfl) rfl (G.grun (t := 203) rfl rfl rfl (G.q (Quiet.move rfl) rfl (G.grun (t := 203) rfl rfl rfl (G.q (Quiet.move rfl) rfl (G.grun (t := 203) rfl rfl rfl (G.q (Quiet.nilp rfl) rfl (G.grun (t := 203) rfl rfl rfl (G.q (Quiet.fieldAddr rfl fo_101_1) rfl (G.grun (t := 203) rfl rfl rfl ?_)))))))))
   refine G.q (Quiet.load rfl ag_99 (by (repeat' constructor)) (rfl)) rfl ?_
   refine G.grun (t := 203) rfl rfl rfl (G.q (Quiet.move rfl) rfl (G.grun (t := 203) rfl rfl rfl ?_))
   refine G.q (Quiet.indexAddr rfl rfl el_99 (by omega)) rfl ?_
   refine G.grun (t := 203) rfl rfl rfl (G.q (Quiet.fieldAddr rfl fo_134_2) rfl (G.grun (t := 203) rfl rfl rfl ?_))
   refine G.q (Quiet.loadRd (sz := 3) (j := j * 3 + 2) (p := rsR _ τ.sess) rfl ag_9 (by (repeat' constructor)) (fun h hp => slR_rd hp) (by omega) ((rs_cell (l := τ.sess) (i := j) (k := 2) (by omega) (by decide)).trans rfl)) rfl ?_
   refine G.grun (t := 203) rfl rfl rfl ?_
   refine G.q (Quiet.as (v' := .bool false) (by simp) (Quiet.strne rfl rfl)) rfl ?_
   refine G.q (Quiet.pickF rfl rfl) rfl (G.q (Quiet.move rfl) rfl (G.grun (t := 215) rfl rfl rfl (G.q (Quiet.move rfl) rfl (G.grun (t := 215) rfl rfl rfl (G.q (Quiet.not rfl) rfl (G.q (Quiet.pickF rfl rfl) rfl (G.nil ?_)))))))
   refine G.rfFold (x := x) (τ := τ) (l := l) hl (by (repeat' constructor)) rfl rfl rfl rfl rfl ?_
   refine G.then_n (G.condF rfl (G.skip (G.blk_n (G.then_n (G.region (G.q (Quiet.move rfl) rfl ?_))))))
   refine G.q (Quiet.add rfl rfl (by omega)) rfl ?_
   refine G.q (Quiet.assign rfl) rfl (G.nil (G.then_n ?_))
   exact G.roundK ((j + 1, .slice a24_23 ((idsZ τ).take (j + 1)).length c24_23)) (⟨by dsimp only; omega, _, _, rfl⟩) (by dsimp only; omega) ⟨rfl, rfl, rfl, rfl, rfl, trivial⟩ (by (repeat' constructor)) (by ((repeat (apply Have.cons; (repeat (first | exact Pick.here | apply Pick.there)))); apply Have.base; repeat' constructor))
  ·have hjj : j = τ.sess.length := by omega
   have hjt : (idsZ τ).take j = idsZ τ := List.take_of_length_le (by omega)
   rw [hjt]
   refine G.exit (G.then_e (G.then_e (G.blk_e (G.then_n (G.seq (G.region (G.q (Quiet.move rfl) rfl ?_)))))))
   refine G.op (OpSpec.call Tryz.func15 rfl rfl (vs := [_]) rfl (trpaths_spec t τ N ho (by omega))) (by (repeat' constructor)) rfl ?nx191
   rintro v L' ⟨⟨a28, c28, rfl⟩, rfl⟩
   refine G.q (Quiet.move rfl) rfl ?_
   refine G.op (OpSpec.call Tryz.func17 rfl rfl (vs := [_, _]) rfl (texts7_spec (pathsZ τ) (pathsZ τ) _ _ (by omega))) (by (repeat' constructor)) rfl ?nx194
   rintro v L' ⟨rfl, rfl⟩; rw [decide_eq_true rfl]
   refine G.q (Quiet.assign rfl) rfl (G.nil (G.then_n (G.seq (G.region (G.q (Quiet.move rfl) rfl ?_)))))
   refine G.op (OpSpec.call Tryz.func68 rfl rfl (vs := [_]) rfl (trsessions_spec t τ N ho hb (by omega))) (by (repeat' constructor)) rfl ?nx197
   rintro v L' ⟨⟨a29, c29, rfl⟩, rfl⟩
   refine G.q (Quiet.move rfl) rfl ?_
   refine G.op (OpSpec.call Tryz.func67 rfl rfl (vs := [_, _]) rfl (numbers7_spec (idsZ τ) (idsZ τ) _ _ (by omega))) (by (repeat' constructor)) rfl ?nx200
   rintro v L' ⟨rfl, rfl⟩; rw [decide_eq_true rfl]
   refine G.q (Quiet.assign rfl) rfl (G.nil (G.then_n (G.seq ?_)))
   refine G.rfOpen (x := x) (τ := τ) (by (repeat' constructor)) fun an cn as1 cs l hl => ?_
   refine G.draw [] [[0, 1, 2, 3, 4, 5, 6, 7, 8, 9, 10, 11, 12, 13]] mixed (by kernel_rfl) ?_
   refine Phases.go [treeR t τ, ptc x _ _] (by (repeat' constructor)) ?_
   refine D.qw [1, 2, 3, 4, 5, 6, 7, 8, 9, 10, 11, 12, 13] rfl (by kernel_rfl) (Quiet.move rfl) ?_
   refine D.qw [2, 3, 4, 5, 6, 7, 8, 9, 10, 11, 12, 13] rfl (by kernel_rfl) (Quiet.move rfl) ?_
   refine D.gqw [3, 4, 5, 6, 7, 8, 9, 10, 11, 12, 13] (t := 228) rfl rfl rfl (by kernel_rfl) (Quiet.move rfl) ?_
   refine D.qw [4, 5, 6, 7, 8, 9, 10, 11, 12, 13] rfl (by kernel_rfl) (Quiet.pickT rfl rfl) ?_
   refine D.qw [5, 6, 7, 8, 9, 10, 11, 12, 13] rfl (by kernel_rfl) (Quiet.move rfl) ?_
   refine D.gqw [6, 11, 12, 13] (t := 231) rfl rfl rfl (by kernel_rfl) (Quiet.move rfl) ?_
   refine D.gm (t := 231) rfl rfl rfl (by kernel_rfl) (OpSpec.call Tryz.func22 rfl rfl (vs := [_]) rfl (trzxid_spec t τ)) (by (repeat' constructor)) ?nx203
   refine D.gqw [8, 9, 10, 11, 12, 13] (t := 231) rfl rfl rfl (by kernel_rfl) (Quiet.move rfl) ?_
   refine D.gqw [9, 10, 11, 12, 13] (t := 231) rfl rfl rfl (by kernel_rfl) (Quiet.nilp rfl) ?_
   refine D.gqw [10, 11, 12, 13] (t := 231) rfl rfl rfl (by kernel_rfl) (Quiet.fieldAddr rfl fo_101_2) ?_
   refine D.gqw [11, 12, 13] (t := 231) rfl rfl rfl (by kernel_rfl) (Quiet.load rfl ag_3 (by (repeat' constructor)) (rfl)) ?_
   refine D.gqw [12, 13] (t := 231) rfl rfl rfl (by kernel_rfl) (Quiet.as (v' := .bool true) (by simp) (Quiet.int rfl rfl rfl)) ?_
   refine D.qw [13] rfl (by kernel_rfl) (Quiet.pickT rfl rfl) ?_
   refine D.qw [] rfl (by kernel_rfl) (Quiet.assign rfl) ?_
   refine D.ph (Phases.fin ?_)
   refine G.rfFold (x := x) (τ := τ) (l := l) hl (by (repeat' constructor)) rfl rfl rfl rfl rfl ?_
   refine G.then_n (G.ret ?_)
   exact G.done (l := [.tmp 4]) rfl rfl ⟨rfl, rfl⟩ (by (repeat' constructor)) (by (repeat' constructor))

theorem spl_cells {l vs : List Value} {i : Nat} (h : ∀ y ∈ l, isCell y = true) (hv : ∀ y ∈ vs, isCell y = true) : ∀ y ∈ spl l i vs, isCell y = true := fun y hy => by
  unfold spl at hy
  rcases List.mem_append.1 hy with hy | hy
  · rcases List.mem_append.1 hy with hy | hy
    · exact h y (List.mem_of_mem_take hy)
    · exact hv y hy
  · exact h y (List.mem_of_mem_drop hy)
theorem acl_none {τ : Tr} {p : Bs} (h : ¬ thereT τ p) : aclD τ p = [] ∧ dataD τ p = [] := by
  unfold aclD dataD
  unfold thereT at h
  cases e : alook τ.nodes p with
  | none => exact ⟨rfl, rfl⟩
  | some y => rw [e] at h; exact absurd rfl h
set_option maxHeartbeats 1000000 in
set_option maxRecDepth 100000 in
theorem reads7_spec (t x : Nat) (τ : Tr) (p : Bs) (N : Nat) (ho : τ.Ok N) (hN : N ≤ 1073741824) : Fn Tryz.prog 28 #[vptr t, vptr x, vstr p] [treeR t τ, refR x τ] fun r L => r = .bool true ∧ L = [treeR t τ, refR x τ] := by
 refine Fn.intro (vs := [vptr t, vptr x, vstr p]) Tryz.func28 rfl rfl ?_
 intro F W
 have hfew := ho.few
 have hkl := kidsZ_len τ p
 refine G.seq (G.region (G.q (Quiet.assign rfl) rfl (G.nil (G.then_n (G.seq (G.region ?_))))))
 rcases Decidable.em (thereT τ p) with hth | hth
 ·refine G.q (Quiet.move rfl) rfl (G.q (Quiet.move rfl) rfl ?_)
  refine G.op (OpSpec.call Tryz.func41 rfl rfl (vs := [_, _]) rfl (trget_spec t τ p N ho (by omega))) (by (repeat' constructor)) rfl ?nx4
  rintro v L' ⟨rfl, rfl⟩; rw [if_pos hth]
  refine G.q (Quiet.move rfl) rfl (G.q (Quiet.extract rfl rfl) rfl (G.q (Quiet.extract rfl rfl) rfl (G.q (Quiet.extract rfl rfl) rfl ?_)))
  refine G.op (OpSpec.allocA ze_43) (by (repeat' constructor)) rfl ?nx9
  rintro v L' ⟨b8, rfl, rfl⟩
  refine G.q (Quiet.assign rfl) rfl ?_
  refine G.op (OpSpec.storeA rfl rfl ?c11 sz_43 ?c14 ?c12 ?c13) (by (repeat' constructor)) rfl ?nx15
  case c11 => intro v hv; simp only [stC, List.mem_cons, List.not_mem_nil, or_false] at hv; rcases hv with rfl | rfl | rfl | rfl | rfl | rfl | rfl | rfl | rfl <;> rfl
  case c14 => rfl
  case c12 => simp [stC]
  case c13 => exact nfz0 _ _
  rintro v L' rfl
  refine G.q (Quiet.assign rfl) rfl (G.nil ?_)
  refine G.ptCast (b := b8) (l' := stC (statD τ p)) (by (repeat' constructor)) rfl ?_
  refine G.then_n (G.seq (G.region (G.q (Quiet.move rfl) rfl (G.q (Quiet.move rfl) rfl ?_))))
  refine G.op (OpSpec.call Tryz.func16 rfl rfl (vs := [_, _]) rfl (trstat_spec t τ p N ho (by omega))) (by (repeat' constructor)) rfl ?nx18
  rintro v L' ⟨rfl, rfl⟩; rw [decide_eq_true hth]
  refine G.q (Quiet.move rfl) rfl (G.q (Quiet.extract rfl rfl) rfl (G.q (Quiet.extract rfl rfl) rfl ?_))
  refine G.op (OpSpec.allocA ze_43) (by (repeat' constructor)) rfl ?nx22
  rintro v L' ⟨b10, rfl, rfl⟩
  refine G.op (OpSpec.storeA rfl rfl ?c24 sz_43 ?c27 ?c25 ?c26) (by (repeat' constructor)) rfl ?nx28
  case c24 => intro v hv; simp only [stC, List.mem_cons, List.not_mem_nil, or_false] at hv; rcases hv with rfl | rfl | rfl | rfl | rfl | rfl | rfl | rfl | rfl <;> rfl
  case c27 => rfl
  case c25 => simp [stC]
  case c26 => exact nfz0 _ _
  rintro v L' rfl
  refine G.q (Quiet.assign rfl) rfl (G.nil ?_)
  refine G.ptCast (b := b10) (l' := stC (statD τ p)) (by (repeat' constructor)) rfl ?_
  refine G.then_n (G.seq (G.region (G.q (Quiet.move rfl) rfl (G.q (Quiet.move rfl) rfl ?_))))
  refine G.op (OpSpec.call Tryz.func63 rfl rfl (vs := [_, _]) rfl (tracl_spec t τ p N ho)) (by (repeat' constructor)) rfl ?nx31
  rintro v L' ⟨ua, rfl, ⟨aa, ca, rfl⟩, rfl⟩; rw [if_pos hth]
  refine G.q (Quiet.move rfl) rfl (G.q (Quiet.extract rfl rfl) rfl (G.q (Quiet.extract rfl rfl) rfl (G.q (Quiet.assign rfl) rfl (G.q (Quiet.assign rfl) rfl (G.nil (G.then_n (G.seq (G.region (G.q (Quiet.move rfl) rfl (G.q (Quiet.move rfl) rfl ?_))))))))))
  refine G.op (OpSpec.call Tryz.func50 rfl rfl (vs := [_, _]) rfl (trkids_spec t τ p N ho (by omega))) (by (repeat' constructor)) rfl ?nx37
  rintro v L' ⟨uk, lk, rfl, -, hlk, ⟨ak, ck, rfl⟩, rfl⟩; rw [if_pos hth] at hlk; subst hlk; rw [if_pos hth]
  refine G.q (Quiet.move rfl) rfl (G.q (Quiet.extract rfl rfl) rfl (G.q (Quiet.extract rfl rfl) rfl (G.q (Quiet.assign rfl) rfl (G.q (Quiet.assign rfl) rfl (G.nil (G.then_n (G.seq (G.region (G.q (Quiet.move rfl) rfl (G.q (Quiet.move rfl) rfl ?_))))))))))
  refine G.op (OpSpec.call Tryz.func62 rfl rfl (vs := [_, _]) rfl (rstat_spec x τ p N ho hN)) (by (repeat' constructor)) rfl ?nx43
  rintro v L' ⟨rfl, rfl⟩; rw [decide_eq_true hth]
  refine G.q (Quiet.move rfl) rfl (G.q (Quiet.extract rfl rfl) rfl (G.q (Quiet.extract rfl rfl) rfl ?_))
  refine G.op (OpSpec.allocA ze_43) (by (repeat' constructor)) rfl ?nx47
  rintro v L' ⟨b16, rfl, rfl⟩
  refine G.op (OpSpec.storeA rfl rfl ?c49 sz_43 ?c52 ?c50 ?c51) (by (repeat' constructor)) rfl ?nx53
  case c49 => intro v hv; simp only [stC, List.mem_cons, List.not_mem_nil, or_false] at hv; rcases hv with rfl | rfl | rfl | rfl | rfl | rfl | rfl | rfl | rfl <;> rfl
  case c52 => rfl
  case c50 => simp [stC]
  case c51 => exact nfz0 _ _
  rintro v L' rfl
  refine G.q (Quiet.assign rfl) rfl (G.nil ?_)
  refine G.ptCast (b := b16) (l' := stC (statD τ p)) (by (repeat' constructor)) rfl ?_
  refine G.then_n (G.seq (G.seq (G.region (G.q (Quiet.move rfl) rfl (G.q (Quiet.not rfl) rfl (G.nil (G.then_n (G.condF rfl (G.skip (G.then_n (G.seq ?_)))))))))))
  obtain ⟨k, hk, hpk, hkp⟩ := place_get (l := τ.nodes) (place_iff.2 hth)
  have hlkT : alook τ.nodes p = some (τ.nodes[k]).2 := by have g2 : alook τ.nodes (τ.nodes[k]).1 = some (τ.nodes[k]).2 := al_of_mem (ho.sorted.nodup linB) (List.getElem_mem hk); rw [hkp] at g2; exact g2
  have hacT : aclD τ p = (τ.nodes[k]).2.acl := by unfold aclD; rw [hlkT]; rfl
  have hdaT : dataD τ p = (τ.nodes[k]).2.data := by unfold dataD; rw [hlkT]; rfl
  refine G.rfOpen (x := x) (τ := τ) (by (repeat' constructor)) fun am cm as2 cs2 m hm => ?_
  have hml := nds_len hm
  have hkm : k < m.length := by omega
  have hgm := nds_get hm hkm
  have haclk := ho.acls _ (List.getElem_mem hk)
  refine G.aclShape (l := m) (i := k) hkm (by (repeat' constructor)) fun hcl => ?_
  refine G.slShape (T := 131) (sz := 12) (v := .slice am m.length cm) (xs := m.flatMap rnC) (by (repeat' constructor)) (by omega) fun bm bm' e0 mbm _ => ?_
  simp only [Value.slice.injEq, true_and] at e0
  obtain ⟨rfl, rfl⟩ := e0
  refine G.draw [9, 10] [[0, 1, 2, 3, 4, 5, 6, 7, 8, 9], [10]] mixed (by kernel_rfl) ?_
  refine Phases.go [ptc x _ _, rnR _ m] (by (repeat' constructor)) ?_
  refine D.q rfl (by kernel_rfl) (Quiet.move rfl) ?_
  refine D.q rfl (by kernel_rfl) (Quiet.nilp rfl) ?_
  refine D.q rfl (by kernel_rfl) (Quiet.fieldAddr rfl fo_101_0) ?_
  refine D.q rfl (by kernel_rfl) (Quiet.load rfl ag_98 (by (repeat' constructor)) (rfl)) ?_
  refine D.q rfl (by kernel_rfl) (Quiet.move rfl) ?_
  refine D.q rfl (by kernel_rfl) (Quiet.move rfl) ?_
  refine D.m rfl (by kernel_rfl) (OpSpec.call Tryz.func69 rfl rfl (vs := [_, _]) rfl (rplace0_is x τ p m hm (by omega) hpk)) (by (repeat' constructor)) ?nx61
  refine D.q rfl (by kernel_rfl) (Quiet.indexAddr rfl rfl el_98 (by omega)) ?_
  refine D.q rfl (by kernel_rfl) (Quiet.loadRdA (sz := 12) (j := k * 12) (k := 12) (p := rnR _ m) (vs := rnC m[k]) rfl ag_131 (by (repeat' constructor)) (fun h hp => slR_rd hp) (by omega) (by omega) (by omega) (flatMap_at (f := rnC) (sz := 12) (fun _ _ => rfl) (by omega))) ?_
  refine D.h rfl (by kernel_rfl) (OpSpec.allocA ze_131) (by (repeat' constructor)) ?nx65
  rintro v L' ⟨b18, rfl, rfl⟩
  refine D.ph ?_
  refine Phases.go [] (by (repeat' constructor)) ?_
  refine D.h rfl (by kernel_rfl) (OpSpec.storeA rfl rfl ?c67 sz_131 ?c70 ?c68 ?c69) (by (repeat' constructor)) ?nx71
  case c67 => exact rn_cells hcl
  case c70 => rfl
  case c68 => simp [rnC]
  case c69 => exact nfz0 _ _
  rintro v L' rfl
  refine D.ph (Phases.fin ?_)
  refine G.ptCast (b := b18) (l' := rnC m[k]) (by (repeat' constructor)) rfl ?_
  refine G.then_n (G.seq (G.region (G.q (Quiet.move rfl) rfl (G.q (Quiet.fieldAddr rfl fo_131_2) rfl ?_))))
  refine G.q (Quiet.load rfl ag_34 (by (repeat' constructor)) (rfl)) rfl ?_
  refine G.op (OpSpec.call Tryz.func64 rfl rfl (vs := [_, _]) rfl (rrowseq_spec _ m[k].2.1 (aclD τ p) m[k].2.2.acl _ (bigR inA m) (fun h hp => slR_rd (T := 104) hp) (big_rd hkm) (by rw [hacT]; exact haclk))) (by (repeat' constructor)) rfl ?nx74
  rintro v L' ⟨rfl, rfl⟩; rw [decide_eq_true (by rw [hacT, hgm])]
  refine G.q (Quiet.assign rfl) rfl (G.nil ?_)
  refine G.rfFold (x := x) (τ := τ) (l := m) hm (by (repeat' constructor)) rfl rfl rfl rfl rfl ?_
  refine G.then_n (G.seq (G.region (G.q (Quiet.move rfl) rfl (G.q (Quiet.move rfl) rfl (G.q (Quiet.move rfl) rfl ?_)))))
  refine G.op (OpSpec.call Tryz.func65 rfl rfl (vs := [_, _]) rfl (rkids_spec x τ p N ho hN)) (by (repeat' constructor)) rfl ?nx78
  rintro v L' ⟨⟨a13, c13, rfl⟩, rfl⟩
  refine G.op (OpSpec.call Tryz.func17 rfl rfl (vs := [_, _]) rfl (texts7_spec (kidsZ τ p) (kidsZ τ p) _ _ (by omega))) (by (repeat' constructor)) rfl ?nx80
  rintro v L' ⟨rfl, rfl⟩; rw [decide_eq_true rfl]
  refine G.q (Quiet.assign rfl) rfl (G.nil (G.then_n (G.seq (G.seq (G.region (G.q (Quiet.assign rfl) rfl (G.nil (G.then_n (G.block ?_)))))))))
  have hall : (aclD τ p).length ≤ 1048576 := by rw [hacT]; exact haclk
  refine G.loopK (ι := Nat × (List Value)) (fun q E => (21, vint q.1) :: E) (fun q => [slR 104 2 (.slice aa (aclD τ p).length ca) (aclD τ p).length q.2]) (fun q => q.1 ≤ (aclD τ p).length ∧ q.2.length = (aclD τ p).length * 2 ∧ ∀ y ∈ q.2, isCell y = true) (fun q => (aclD τ p).length - q.1) (0, (aclD τ p).flatMap acC) (ts := [6, 7, 8, 9, 10, 11, 12, 13, 14, 15, 16, 18, 19, 20]) (.cons rfl (.cons rfl (.cons rfl (.cons rfl (.cons rfl (.cons rfl (.cons rfl (.cons rfl (.cons rfl (.cons rfl (.cons rfl (.cons rfl (.cons rfl (.cons rfl (.nil))))))))))))))) (⟨Nat.zero_le _, flatMap_len (fun _ _ => rfl), acC_cells _⟩) ⟨rfl, rfl, rfl, rfl, rfl, rfl, rfl, rfl, rfl, rfl, rfl, rfl, rfl, rfl, rfl, trivial⟩ (by (repeat' constructor)) ?_
  rintro ⟨j, ys⟩ ⟨hj, hyl, hyc⟩
  dsimp only
  dsimp only at hj hyl hyc
  refine G.seq (G.seq (G.region (G.q (Quiet.move rfl) rfl (G.q (Quiet.move rfl) rfl (G.q (Quiet.slen rfl Tryz.underlying34 rfl) rfl (G.q (Quiet.int rfl rfl rfl) rfl (G.nil (G.then_n ?_))))))))
  refine G.condD rfl (fun h117 => ?_) (fun h117 => ?_)
  ·have hj2 : j < (aclD τ p).length := by omega
   refine G.slShape (T := 104) (sz := 2) (v := .slice aa (aclD τ p).length ca) (xs := ys) (by (repeat' constructor)) (by omega) fun ba ba' e0 mba _ => ?_
   simp only [Value.slice.injEq, true_and] at e0
   obtain ⟨rfl, rfl⟩ := e0
   refine G.skip (G.then_n (G.seq (G.block (G.region (G.q (Quiet.move rfl) rfl (G.q (Quiet.move rfl) rfl ?_))))))
   refine G.q (Quiet.to (v' := .agg (acC (-1, [])).toArray) (Quiet.build (us := [(0, _)]) fl_104 ze_104 rfl rfl (by simp [isCell])) rfl) rfl ?_
   refine G.q (Quiet.indexAddr rfl rfl el_34 (by omega)) rfl ?_
   refine G.op (OpSpec.storeRdA (sz := 2) (j := j * 2) (k := 2) (vs := [vint (-1), vstr []]) rfl rfl (by simp [isCell]) sz_104 rfl ?ho91 ?hi92) (by (repeat' constructor)) rfl ?nx93
   case ho91 => omega
   case hi92 => omega
   rintro v L' rfl
   refine G.nil (G.blk_n (G.then_n (G.region (G.q (Quiet.move rfl) rfl ?_))))
   refine G.q (Quiet.add rfl rfl (by omega)) rfl ?_
   refine G.q (Quiet.assign rfl) rfl (G.nil (G.then_n ?_))
   exact G.roundK ((j + 1, spl ys (j * 2) [vint (-1), vstr []])) (⟨by dsimp only; omega, by dsimp only; rw [spl_length (by simp; omega)]; exact hyl, spl_cells hyc (by simp [isCell])⟩) (by dsimp only; omega) ⟨rfl, rfl, rfl, rfl, rfl, rfl, rfl, rfl, rfl, rfl, rfl, rfl, rfl, rfl, rfl, trivial⟩ (by (repeat' constructor)) (by ((repeat (apply Have.cons; (repeat (first | exact Pick.here | apply Pick.there)))); apply Have.base; repeat' constructor))
  ·refine G.exit (G.then_e (G.then_e (G.blk_e (G.then_n (G.seq (G.seq (G.region (G.q (Quiet.assign rfl) rfl (G.nil (G.then_n (G.block ?_)))))))))))
   refine G.loopK (ι := Nat × (List Value)) (fun q E => (22, vint q.1) :: E) (fun q => [slR 9 1 (.slice ak (kidsZ τ p).length ck) (kidsZ τ p).length q.2]) (fun q => q.1 ≤ (kidsZ τ p).length) (fun q => (kidsZ τ p).length - q.1) (0, strs (kidsZ τ p)) (ts := [6, 7, 8, 9, 10, 11, 12, 13, 14, 15, 16, 18, 19, 20]) (.cons rfl (.cons rfl (.cons rfl (.cons rfl (.cons rfl (.cons rfl (.cons rfl (.cons rfl (.cons rfl (.cons rfl (.cons rfl (.cons rfl (.cons rfl (.cons rfl (.nil))))))))))))))) (Nat.zero_le _) ⟨rfl, rfl, rfl, rfl, rfl, rfl, rfl, rfl, rfl, rfl, rfl, rfl, rfl, rfl, rfl, trivial⟩ (by (repeat' constructor)) ?_
   rintro ⟨j, zs⟩ hj
   dsimp only
   dsimp only at hj
   refine G.seq (G.seq (G.region (G.q (Quiet.move rfl) rfl (G.q (Quiet.move rfl) rfl (G.q (Quiet.slen rfl Tryz.underlying40 rfl) rfl (G.q (Quiet.int rfl rfl rfl) rfl (G.nil (G.then_n ?_))))))))
   refine G.condD rfl (fun h127 => ?_) (fun h127 => ?_)
   ·have hj2 : j < (kidsZ τ p).length := by omega
    refine G.slShape (T := 9) (sz := 1) (v := .slice ak (kidsZ τ p).length ck) (xs := zs) (by (repeat' constructor)) (by omega) fun bk bk' e0 mbk _ => ?_
    simp only [Value.slice.injEq, true_and] at e0
    obtain ⟨rfl, rfl⟩ := e0
    refine G.skip (G.then_n (G.seq (G.block (G.region (G.q (Quiet.move rfl) rfl (G.q (Quiet.move rfl) rfl ?_))))))
    refine G.q (Quiet.indexAddr rfl rfl el_40 (by omega)) rfl ?_
    refine G.op (OpSpec.storeRd (sz := 1) (j := j * 1) rfl rfl rfl sz_9 ?ho104 ?hi105) (by (repeat' constructor)) rfl ?nx106
    case ho104 => omega
    case hi105 => omega
    rintro v L' rfl
    refine G.nil (G.blk_n (G.then_n (G.region (G.q (Quiet.move rfl) rfl ?_))))
    refine G.q (Quiet.add rfl rfl (by omega)) rfl ?_
    refine G.q (Quiet.assign rfl) rfl (G.nil (G.then_n ?_))
    exact G.roundK ((j + 1, zs.set (j * 1) (vstr [111, 118, 101, 114]))) (by dsimp only; omega) (by dsimp only; omega) ⟨rfl, rfl, rfl, rfl, rfl, rfl, rfl, rfl, rfl, rfl, rfl, rfl, rfl, rfl, rfl, trivial⟩ (by (repeat' constructor)) (by ((repeat (apply Have.cons; (repeat (first | exact Pick.here | apply Pick.there)))); apply Have.base; repeat' constructor))
   ·refine G.exit (G.then_e (G.then_e (G.blk_e (G.then_n (G.seq (G.region (G.q (Quiet.move rfl) rfl ?_)))))))
    refine G.q (Quiet.to (v' := .agg (acC (-2, [])).toArray) (Quiet.build (us := [(0, _)]) fl_104 ze_104 rfl rfl (by simp [isCell])) rfl) rfl ?_
    refine G.op (OpSpec.buildSlice (vs := [_]) el_34 ze_104 rfl rfl rfl rfl (by first | (simp [Value.cells]; done) | (intro v hv; simp only [List.mem_cons, List.not_mem_nil, or_false] at hv; (repeat (first | (subst hv; rfl) | (rcases hv with hv | hv; (subst hv; rfl)))))) (by decide)) (by (repeat' constructor)) rfl ?nx111
    rintro v L' ⟨b19, rfl, rfl⟩
    refine G.op (OpSpec.append1 rfl rfl rfl el_34 ze_104 rfl rfl ?c113 ?c114 (Nat.le_refl _) ?c115 (by decide)) (by (repeat' constructor)) rfl ?nx116
    case c113 => simp only [List.map_cons, List.map_nil, List.flatten_cons, List.flatten_nil, List.append_nil]; simp [Value.cells, acC, isCell]
    case c114 => rfl
    case c115 => first | omega | (simp; omega)
    rintro v L' ⟨⟨a19_4, c19_4, rfl⟩, rfl⟩
    refine G.q (Quiet.assign rfl) rfl (G.nil (G.then_n (G.seq ?_)))
    refine G.slShape (T := 104) (sz := 2) (v := .slice a19_4 ((aclD τ p).length + 1) c19_4) (by (repeat' constructor)) (by omega) fun b20 b20' e0 mb20 hyl2 => ?_
    simp only [Value.slice.injEq, true_and] at e0
    obtain ⟨rfl, rfl⟩ := e0
    refine G.region (G.q (Quiet.move rfl) rfl (G.q (Quiet.move rfl) rfl (G.grun (t := 138) rfl rfl rfl (G.q (Quiet.move rfl) rfl (G.q (Quiet.pickT rfl rfl) rfl (G.q (Quiet.move rfl) rfl (G.grun (t := 141) rfl rfl rfl (G.q (Quiet.move rfl) rfl (G.grun (t := 141) rfl rfl rfl (G.q (Quiet.fieldAddr rfl fo_131_1) rfl (G.grun (t := 141) rfl rfl rfl ?_)))))))))))
    refine G.q (Quiet.to (v' := vstr (dataD τ p)) (Quiet.load rfl ag_9 (by (repeat' constructor)) rfl) (by rw [hdaT, hgm])) rfl ?_
    refine G.grun (t := 141) rfl rfl rfl ?_
    refine G.q (Quiet.as (v' := .bool true) (by simp) (Quiet.streq rfl rfl)) rfl ?_
    refine G.q (Quiet.pickT rfl rfl) rfl (G.q (Quiet.move rfl) rfl (G.grun (t := 147) rfl rfl rfl ?_))
    refine G.q (Quiet.loadAs (vs := stC (statD τ p)) rfl ag_43 (by (repeat' constructor)) (by simp [stC]) rfl) rfl ?_
    refine G.grun (t := 147) rfl rfl rfl ?_
    refine G.q (Quiet.loadAs (vs := stC (statD τ p)) rfl ag_43 (by (repeat' constructor)) (by simp [stC]) rfl) rfl ?_
    refine G.grun (t := 147) rfl rfl rfl ?_
    refine G.q (Quiet.as (v' := .bool true) (by simp) (Quiet.structEq (r := decide (statD τ p = statD τ p)) rfl rfl (by kernel_rfl) (st_eq 9998 _ _))) rfl ?_
    refine G.q (Quiet.pickT rfl rfl) rfl (G.q (Quiet.move rfl) rfl (G.grun (t := 152) rfl rfl rfl ?_))
    refine G.q (Quiet.loadAs (vs := stC (statD τ p)) rfl ag_43 (by (repeat' constructor)) (by simp [stC]) rfl) rfl ?_
    refine G.grun (t := 152) rfl rfl rfl ?_
    refine G.q (Quiet.loadAs (vs := stC (statD τ p)) rfl ag_43 (by (repeat' constructor)) (by simp [stC]) rfl) rfl ?_
    refine G.grun (t := 152) rfl rfl rfl ?_
    refine G.q (Quiet.as (v' := .bool true) (by simp) (Quiet.structEq (r := decide (statD τ p = statD τ p)) rfl rfl (by kernel_rfl) (st_eq 9998 _ _))) rfl ?_
    refine G.q (Quiet.pickT rfl rfl) rfl (G.q (Quiet.move rfl) rfl (G.grun (t := 157) rfl rfl rfl (G.q (Quiet.move rfl) rfl (G.q (Quiet.pickT rfl rfl) rfl (G.q (Quiet.move rfl) rfl (G.grun (t := 160) rfl rfl rfl (G.q (Quiet.move rfl) rfl (G.grun (t := 160) rfl rfl rfl ?_))))))))
    refine G.q (Quiet.as (v' := .bool true) (by rfl) (Quiet.int rfl rfl rfl)) rfl ?_
    refine G.q (Quiet.pickT rfl rfl) rfl (G.q (Quiet.move rfl) rfl (G.grun (t := 164) rfl rfl rfl (G.q (Quiet.move rfl) rfl (G.grun (t := 164) rfl rfl rfl ?_))))
    refine G.q (Quiet.as (v' := .bool true) (by rfl) (Quiet.int rfl rfl rfl)) rfl ?_
    refine G.q (Quiet.pickT rfl rfl) rfl (G.q (Quiet.move rfl) rfl (G.grun (t := 168) rfl rfl rfl (G.q (Quiet.move rfl) rfl (G.grun (t := 168) rfl rfl rfl ?_))))
    refine G.q (Quiet.as (v' := .bool true) (by rfl) (Quiet.int rfl rfl rfl)) rfl ?_
    refine G.q (Quiet.pickT rfl rfl) rfl (G.q (Quiet.move rfl) rfl (G.grun (t := 172) rfl rfl rfl (G.q (Quiet.move rfl) rfl (G.grun (t := 172) rfl rfl rfl (G.q (Quiet.move rfl) rfl (G.grun (t := 172) rfl rfl rfl (G.q (Quiet.slen rfl Tryz.underlying34 rfl) rfl (G.grun (t := 172) rfl rfl rfl ?_))))))))
    refine G.q (Quiet.as (v' := vint ((aclD τ p).length : Int)) (by simp) (Quiet.sub rfl rfl (by omega))) rfl ?_
    refine G.grun (t := 172) rfl rfl rfl ?_
    refine G.q (Quiet.indexAddr rfl rfl el_34 (by omega)) rfl ?_
    refine G.grun (t := 172) rfl rfl rfl (G.q (Quiet.fieldAddr rfl fo_104_0) rfl (G.grun (t := 172) rfl rfl rfl ?_))
    refine G.q (Quiet.loadRd (sz := 2) (j := (aclD τ p).length * 2 + 0) (p := slR 104 2 _ ((aclD τ p).length + 1) _) (v := vint (-2)) rfl ag_3 (by (repeat' constructor)) (fun h hp => slR_rd hp) (by omega) (by rw [← hyl, Nat.add_zero, List.getElem?_append_right (Nat.le_refl _), Nat.sub_self]; rfl)) rfl ?_
    refine G.grun (t := 172) rfl rfl rfl ?_
    refine G.q (Quiet.as (v' := .bool true) (by rfl) (Quiet.int rfl rfl rfl)) rfl ?_
    refine G.q (Quiet.pickT rfl rfl) rfl (G.q (Quiet.assign rfl) rfl (G.nil (G.then_n (G.ret ?_))))
    exact G.done (l := [.tmp 6]) rfl rfl ⟨rfl, rfl⟩ (by (repeat' constructor)) (by (repeat' constructor))
 ·have hac0 := (acl_none hth).1
  have hda0 := (acl_none hth).2
  refine G.q (Quiet.move rfl) rfl (G.q (Quiet.move rfl) rfl ?_)
  refine G.op (OpSpec.call Tryz.func41 rfl rfl (vs := [_, _]) rfl (trget_spec t τ p N ho (by omega))) (by (repeat' constructor)) rfl ?nx145
  rintro v L' ⟨rfl, rfl⟩; rw [if_neg hth]
  refine G.q (Quiet.move rfl) rfl (G.q (Quiet.extract rfl rfl) rfl (G.q (Quiet.extract rfl rfl) rfl (G.q (Quiet.extract rfl rfl) rfl ?_)))
  refine G.op (OpSpec.allocA ze_43) (by (repeat' constructor)) rfl ?nx150
  rintro v L' ⟨b8, rfl, rfl⟩
  refine G.q (Quiet.assign rfl) rfl ?_
  refine G.op (OpSpec.storeA rfl rfl ?c152 sz_43 ?c155 ?c153 ?c154) (by (repeat' constructor)) rfl ?nx156
  case c152 => intro v hv; simp only [stC, List.mem_cons, List.not_mem_nil, or_false] at hv; rcases hv with rfl | rfl | rfl | rfl | rfl | rfl | rfl | rfl | rfl <;> rfl
  case c155 => rfl
  case c153 => simp [stC]
  case c154 => exact nfz0 _ _
  rintro v L' rfl
  refine G.q (Quiet.assign rfl) rfl (G.nil ?_)
  refine G.ptCast (b := b8) (l' := stC (statD τ p)) (by (repeat' constructor)) rfl ?_
  refine G.then_n (G.seq (G.region (G.q (Quiet.move rfl) rfl (G.q (Quiet.move rfl) rfl ?_))))
  refine G.op (OpSpec.call Tryz.func16 rfl rfl (vs := [_, _]) rfl (trstat_spec t τ p N ho (by omega))) (by (repeat' constructor)) rfl ?nx159
  rintro v L' ⟨rfl, rfl⟩; rw [decide_eq_false hth]
  refine G.q (Quiet.move rfl) rfl (G.q (Quiet.extract rfl rfl) rfl (G.q (Quiet.extract rfl rfl) rfl ?_))
  refine G.op (OpSpec.allocA ze_43) (by (repeat' constructor)) rfl ?nx163
  rintro v L' ⟨b10, rfl, rfl⟩
  refine G.op (OpSpec.storeA rfl rfl ?c165 sz_43 ?c168 ?c166 ?c167) (by (repeat' constructor)) rfl ?nx169
  case c165 => intro v hv; simp only [stC, List.mem_cons, List.not_mem_nil, or_false] at hv; rcases hv with rfl | rfl | rfl | rfl | rfl | rfl | rfl | rfl | rfl <;> rfl
  case c168 => rfl
  case c166 => simp [stC]
  case c167 => exact nfz0 _ _
  rintro v L' rfl
  refine G.q (Quiet.assign rfl) rfl (G.nil ?_)
  refine G.ptCast (b := b10) (l' := stC (statD τ p)) (by (repeat' constructor)) rfl ?_
  refine G.then_n (G.seq (G.region (G.q (Quiet.move rfl) rfl (G.q (Quiet.move rfl) rfl ?_))))
  refine G.op (OpSpec.call Tryz.func63 rfl rfl (vs := [_, _]) rfl (tracl_spec t τ p N ho)) (by (repeat' constructor)) rfl ?nx172
  rintro v L' ⟨ua, rfl, ⟨aa, ca, rfl⟩, rfl⟩; rw [if_neg hth]; rw [hac0]
  refine G.q (Quiet.move rfl) rfl (G.q (Quiet.extract rfl rfl) rfl (G.q (Quiet.extract rfl rfl) rfl (G.q (Quiet.assign rfl) rfl (G.q (Quiet.assign rfl) rfl (G.nil (G.then_n (G.seq (G.region (G.q (Quiet.move rfl) rfl (G.q (Quiet.move rfl) rfl ?_))))))))))
  refine G.op (OpSpec.call Tryz.func50 rfl rfl (vs := [_, _]) rfl (trkids_spec t τ p N ho (by omega))) (by (repeat' constructor)) rfl ?nx178
  rintro v L' ⟨uk, lk, rfl, -, hlk, ⟨ak, ck, rfl⟩, rfl⟩; rw [if_neg hth] at hlk; subst hlk; rw [if_neg hth]
  refine G.q (Quiet.move rfl) rfl (G.q (Quiet.extract rfl rfl) rfl (G.q (Quiet.extract rfl rfl) rfl (G.q (Quiet.assign rfl) rfl (G.q (Quiet.assign rfl) rfl (G.nil (G.then_n (G.seq (G.region (G.q (Quiet.move rfl) rfl (G.q (Quiet.move rfl) rfl ?_))))))))))
  refine G.op (OpSpec.call Tryz.func62 rfl rfl (vs := [_, _]) rfl (rstat_spec x τ p N ho hN)) (by (repeat' constructor)) rfl ?nx184
  rintro v L' ⟨rfl, rfl⟩; rw [decide_eq_false hth]
  refine G.q (Quiet.move rfl) rfl (G.q (Quiet.extract rfl rfl) rfl (G.q (Quiet.extract rfl rfl) rfl ?_))
  refine G.op (OpSpec.allocA ze_43) (by (repeat' constructor)) rfl ?nx188
  rintro v L' ⟨b16, rfl, rfl⟩
  refine G.op (OpSpec.storeA rfl rfl ?c190 sz_43 ?c193 ?c191 ?c192) (by (repeat' constructor)) rfl ?nx194
  case c190 => intro v hv; simp only [stC, List.mem_cons, List.not_mem_nil, or_false] at hv; rcases hv with rfl | rfl | rfl | rfl | rfl | rfl | rfl | rfl | rfl <;> rfl
  case c193 => rfl
  case c191 => simp [stC]
  case c192 => exact nfz0 _ _
  rintro v L' rfl
  refine G.q (Quiet.assign rfl) rfl (G.nil ?_)
  refine G.ptCast (b := b16) (l' := stC (statD τ p)) (by (repeat' constructor)) rfl ?_
  refine G.then_n (G.seq (G.seq (G.region (G.q (Quiet.move rfl) rfl (G.q (Quiet.not rfl) rfl (G.nil (G.then_n (G.condT rfl (G.seq (G.region (G.q (Quiet.move rfl) rfl ?_)))))))))))
  refine G.q (Quiet.as (v' := .bool true) (by simp [hda0]) (Quiet.streq rfl rfl)) rfl ?_
  refine G.q (Quiet.move rfl) rfl (G.grun (t := 58) rfl rfl rfl ?_)
  refine G.q (Quiet.loadAs (vs := stC (statD τ p)) rfl ag_43 (by (repeat' constructor)) (by simp [stC]) rfl) rfl ?_
  refine G.grun (t := 58) rfl rfl rfl ?_
  refine G.q (Quiet.to (v' := .agg (stC st0).toArray) (Quiet.build (us := []) fl_43 ze_43 rfl rfl (by simp [isCell])) rfl) rfl ?_
  refine G.grun (t := 58) rfl rfl rfl ?_
  refine G.q (Quiet.as (v' := .bool true) (by rw [stat_none hth]; simp) (Quiet.structEq (r := decide (statD τ p = st0)) rfl rfl (by kernel_rfl) (st_eq 9998 _ _))) rfl ?_
  refine G.q (Quiet.pickT rfl rfl) rfl (G.q (Quiet.move rfl) rfl (G.grun (t := 63) rfl rfl rfl ?_))
  refine G.q (Quiet.loadAs (vs := stC (statD τ p)) rfl ag_43 (by (repeat' constructor)) (by simp [stC]) rfl) rfl ?_
  refine G.grun (t := 63) rfl rfl rfl ?_
  refine G.q (Quiet.to (v' := .agg (stC st0).toArray) (Quiet.build (us := []) fl_43 ze_43 rfl rfl (by simp [isCell])) rfl) rfl ?_
  refine G.grun (t := 63) rfl rfl rfl ?_
  refine G.q (Quiet.as (v' := .bool true) (by rw [stat_none hth]; simp) (Quiet.structEq (r := decide (statD τ p = st0)) rfl rfl (by kernel_rfl) (st_eq 9998 _ _))) rfl ?_
  refine G.q (Quiet.pickT rfl rfl) rfl (G.q (Quiet.move rfl) rfl (G.grun (t := 68) rfl rfl rfl (G.q (Quiet.move rfl) rfl (G.grun (t := 68) rfl rfl rfl (G.q (Quiet.not rfl) rfl (G.q (Quiet.pickT rfl rfl) rfl (G.q (Quiet.move rfl) rfl (G.grun (t := 72) rfl rfl rfl (G.q (Quiet.move rfl) rfl (G.grun (t := 72) rfl rfl rfl (G.q (Quiet.slen rfl Tryz.underlying34 rfl) rfl (G.grun (t := 72) rfl rfl rfl ?_))))))))))))
  refine G.q (Quiet.as (v' := .bool true) (by rfl) (Quiet.int rfl rfl rfl)) rfl ?_
  refine G.q (Quiet.pickT rfl rfl) rfl (G.q (Quiet.move rfl) rfl (G.grun (t := 77) rfl rfl rfl (G.q (Quiet.move rfl) rfl (G.grun (t := 77) rfl rfl rfl (G.q (Quiet.slen rfl Tryz.underlying40 rfl) rfl (G.grun (t := 77) rfl rfl rfl ?_))))))
  refine G.q (Quiet.as (v' := .bool true) (by rfl) (Quiet.int rfl rfl rfl)) rfl ?_
  refine G.q (Quiet.pickT rfl rfl) rfl (G.q (Quiet.move rfl) rfl (G.grun (t := 82) rfl rfl rfl (G.q (Quiet.move rfl) rfl (G.grun (t := 82) rfl rfl rfl ?_))))
  refine G.q (Quiet.as (v' := .bool true) (by rfl) (Quiet.int rfl rfl rfl)) rfl ?_
  refine G.q (Quiet.pickT rfl rfl) rfl (G.q (Quiet.move rfl) rfl (G.grun (t := 86) rfl rfl rfl (G.q (Quiet.move rfl) rfl (G.grun (t := 86) rfl rfl rfl (G.q (Quiet.move rfl) rfl (G.grun (t := 86) rfl rfl rfl ?_))))))
  refine G.q (Quiet.as (v' := .bool true) (by rfl) (Quiet.int rfl rfl rfl)) rfl ?_
  refine G.q (Quiet.pickT rfl rfl) rfl (G.q (Quiet.move rfl) rfl (G.grun (t := 91) rfl rfl rfl (G.q (Quiet.move rfl) rfl (G.grun (t := 91) rfl rfl rfl (G.q (Quiet.move rfl) rfl (G.grun (t := 91) rfl rfl rfl ?_))))))
  refine G.q (Quiet.as (v' := .bool true) (by rfl) (Quiet.int rfl rfl rfl)) rfl ?_
  refine G.q (Quiet.pickT rfl rfl) rfl (G.q (Quiet.assign rfl) rfl (G.nil (G.then_n (G.ret (G.then_r ?_)))))
  exact G.done (l := [.tmp 6]) rfl rfl ⟨rfl, rfl⟩ (by (repeat' constructor)) (by (repeat' constructor))

end Go.Proofs.YtnnbelmpbmfdnaaGreatDoor

/- Own work, by program: law 07: an entry is lent: walked. -/
namespace Go.Proofs.YtnnbelmpbmfdnaaGreatDoor
open Go
set_option maxRecDepth 100000 in
theorem lent7_spec (e : En) (p : HP) (he : TxA p e.x e.subs) : Fn Tryz.prog 70 #[.agg (enC e).toArray] [p] fun v L => ∃ e', v = .agg (enC e').toArray ∧ LentOf e' e ∧ L = [lentE e', p] := by
 refine Fn.intro (vs := [.agg (enC e).toArray]) Tryz.func70 rfl rfl ?_
 intro F W
 have hfa := he.own.few
 have hfs := he.few
 refine G.rdAny (p := p) he.own.acl (by (repeat' constructor)) fun aa ca hav _ => ?_
 refine G.rdAny (p := p) he.rd (by (repeat' constructor)) fun as1 cs1 hsv _ => ?_
 have hra : ∀ h : Hp, p h → rdS 2 h (.slice aa e.x.acl.length ca) e.x.acl.length (e.x.acl.flatMap acC) := fun h hp => by have q := he.own.acl h hp; rw [hav] at q; exact q
 refine G.seq (G.region ?_)
 refine G.op (OpSpec.box rfl) (by (repeat' constructor)) rfl ?nx1
 rintro v L' ⟨b1, rfl, rfl⟩
 refine G.op (OpSpec.allocA ze_39) (by (repeat' constructor)) rfl ?nx3
 rintro v L' ⟨b2, rfl, rfl⟩
 refine G.nil ?_
 refine G.ptCast (b := b1) (l' := enC e) (by (repeat' constructor)) rfl ?_
 refine G.then_n (G.seq (G.add (slR_nil 104 2) ?_))
 refine G.draw [3, 5, 6, 14] [[0, 1, 2, 4, 7, 8, 9, 10, 3, 5, 6], [11, 12, 13, 14]] mixed (by kernel_rfl) ?_
 refine Phases.go [ptc b1 _ _] (by (repeat' constructor)) ?_
 refine D.q rfl (by kernel_rfl) (Quiet.fieldAddr rfl fo_39_3) ?_
 refine D.q rfl (by kernel_rfl) (Quiet.fieldAddr rfl fo_37_3) ?_
 refine D.q rfl (by kernel_rfl) (Quiet.to (v' := .slice aa e.x.acl.length ca) (Quiet.load rfl ag_34 (by (repeat' constructor)) rfl) hav) ?_
 refine D.q rfl (by kernel_rfl) (Quiet.to (v' := .agg (acC over77).toArray) (Quiet.build (us := [(0, _)]) fl_104 ze_104 rfl rfl (by simp [isCell])) rfl) ?_
 refine D.q rfl (by kernel_rfl) (Quiet.fieldAddr rfl fo_39_3) ?_
 refine D.q rfl (by kernel_rfl) (Quiet.fieldAddr rfl fo_37_3) ?_
 refine D.q rfl (by kernel_rfl) (Quiet.to (v' := .slice aa e.x.acl.length ca) (Quiet.load rfl ag_34 (by (repeat' constructor)) rfl) hav) ?_
 refine D.q rfl (by kernel_rfl) (Quiet.slen rfl Tryz.underlying34 rfl) ?_
 refine D.h2 (k := 5) rfl rfl (by kernel_rfl) rfl (OpSpec.append (n := 0) (m := e.x.acl.length) (ys := e.x.acl.flatMap acC) (p := p) rfl rfl rfl el_34 (.inl ⟨_, Tryz.underlying34⟩) ze_104 rfl rfl ?hc13 hra ?hb14 (by decide)) (by (repeat' constructor)) (OpSpec.buildSlice (vs := [_]) el_34 ze_104 rfl rfl rfl rfl (by first | (simp [Value.cells]; done) | (intro v hv; simp only [List.mem_cons, List.not_mem_nil, or_false] at hv; (repeat (first | (subst hv; rfl) | (rcases hv with hv | hv; (subst hv; rfl)))))) (by decide)) (by (repeat' constructor)) ?nx15 ?nx16
 case hc13 => exact acC_cells _
 case hb14 => omega
 ·rintro v L' ⟨⟨a3, c3, rfl⟩, rfl⟩; rw [Nat.zero_add, List.nil_append]
  refine D.h rfl (by kernel_rfl) (OpSpec.buildSlice (vs := [_]) el_34 ze_104 rfl rfl rfl rfl (by first | (simp [Value.cells]; done) | (intro v hv; simp only [List.mem_cons, List.not_mem_nil, or_false] at hv; (repeat (first | (subst hv; rfl) | (rcases hv with hv | hv; (subst hv; rfl)))))) (by decide)) (by (repeat' constructor)) ?nx18
  rintro v L' ⟨b5, rfl, rfl⟩
  refine D.h rfl (by kernel_rfl) (OpSpec.shapedS (k := e.x.acl.length + 1) ?hk20 (OpSpec.append1 rfl rfl rfl el_34 ze_104 rfl rfl ?h121 ?h222 (Nat.le_refl _) ?h323 (by decide))) (by (repeat' constructor)) ?nx24
  case hk20 => omega
  case h121 => simp only [List.map_cons, List.map_nil, List.flatten_cons, List.flatten_nil, List.append_nil]; simp [Value.cells, acC, isCell]
  case h222 => rfl
  case h323 => omega
  rintro v L' ⟨b6, c6, hc6, rfl, rfl⟩
  refine D.ph ?_
  refine Phases.go [] (by (repeat' constructor)) ?_
  refine D.qw [12, 13, 14] rfl (by kernel_rfl) (Quiet.to (v' := .slice (some ⟨b6, 0, none⟩) e.x.acl.length c6) (Quiet.slTo rfl el_34 rfl (by omega) (.inr ⟨_, _, rfl⟩)) (by simp)) ?_
  refine D.qw [13, 14] rfl (by kernel_rfl) (Quiet.fieldAddr rfl fo_39_3) ?_
  refine D.qw [14] rfl (by kernel_rfl) (Quiet.fieldAddr rfl fo_37_3) ?_
  refine D.h rfl (by kernel_rfl) (OpSpec.store rfl rfl rfl sz_34 ?c29 ?c30) (by (repeat' constructor)) ?nx31
  case c29 => simp [enC, ptC]
  case c30 => exact nfz0 _ _
  rintro v L' rfl
  refine D.ph (Phases.fin ?_)
  refine G.ptCast (b := b1) (l' := enC (⟨e.zx, e.ses, e.xid, (wA e.x (.slice (some ⟨b6, 0, none⟩) e.x.acl.length c6)), e.subs⟩ : En)) (by (repeat' constructor)) (by exact rfl) ?_
  refine G.lentFold (wA e.x (.slice (some ⟨b6, 0, none⟩) e.x.acl.length c6)) (by (repeat' constructor)) hc6 rfl rfl ?_
  have hrs : ∀ h : Hp, p h → rdS 8 h (.slice as1 e.subs.length cs1) e.subs.length (e.subs.flatMap ptC) := fun h hp => by have q := he.rd h hp; rw [hsv] at q; exact q
  refine G.add (slR_nil 37 8) ?_
  refine G.add (p := bigR lentA []) (fun h => big_nil h) ?_
  refine G.then_n (G.seq (G.region (G.q (Quiet.assign rfl) rfl (G.nil (G.then_n (G.seq (G.seq (G.region (G.q (Quiet.assign rfl) rfl (G.nil (G.then_n (G.block ?_))))))))))))
  refine G.loopK (ι := Nat × Value × (List Pt)) (fun q E => (4, vint q.1) :: (3, q.2.1) :: E) (fun q => [slR 37 8 q.2.1 q.2.2.length (q.2.2.flatMap ptC), bigR lentA q.2.2]) (fun q => q.1 ≤ e.subs.length ∧ q.2.2.map clr = (e.subs.take q.1).map clr ∧ (∀ y ∈ q.2.2, isCell y.aclV = true) ∧ ∃ a c, q.2.1 = .slice a q.2.2.length c) (fun q => e.subs.length - q.1) (0, .slice none 0 0, []) (ts := [1, 2]) (.cons rfl (.cons rfl (.nil))) (⟨Nat.zero_le _, rfl, fun y hy => (by cases hy), none, 0, rfl⟩) ⟨rfl, rfl, rfl, rfl, trivial⟩ (by (repeat' constructor)) ?_
  rintro ⟨i, u, acc⟩ ⟨hi, hmap, hcl, au, cu, hu⟩
  dsimp only
  dsimp only at hi hmap hcl hu
  subst hu
  have hal : acc.length = i := by have h := congrArg List.length hmap; simp at h; omega
  refine G.seq (G.seq (G.region (G.q (Quiet.move rfl) rfl (G.q (Quiet.fieldAddr rfl fo_39_3) rfl (G.q (Quiet.fieldAddr rfl fo_37_7) rfl ?_)))))
  refine G.q (Quiet.to (v' := .slice as1 e.subs.length cs1) (Quiet.load rfl ag_35 (by (repeat' constructor)) rfl) hsv) rfl ?_
  refine G.q (Quiet.slen rfl Tryz.underlying35 rfl) rfl (G.q (Quiet.int rfl rfl rfl) rfl (G.nil (G.then_n ?_)))
  refine G.condD rfl (fun h25 => ?_) (fun h25 => ?_)
  ·have hi2 : i < e.subs.length := by omega
   have hy := he.each _ (List.getElem_mem hi2)
   have hyf := hy.few
   refine G.rdShape (p := p) hrs (by (repeat' constructor)) (by omega) fun bs os e1 => ?_
   subst e1
   refine G.rdAny (p := p) hy.acl (by (repeat' constructor)) fun ab cb hyv _ => ?_
   have hrb : ∀ h : Hp, p h → rdS 2 h (.slice ab e.subs[i].acl.length cb) e.subs[i].acl.length (e.subs[i].acl.flatMap acC) := fun h hp => by have q := hy.acl h hp; rw [hyv] at q; exact q
   refine G.skip (G.then_n (G.seq (G.block (G.seq (G.region (G.q (Quiet.fieldAddr rfl fo_39_3) rfl (G.q (Quiet.fieldAddr rfl fo_37_7) rfl ?_)))))))
   refine G.q (Quiet.to (v' := .slice (some ⟨bs, os, none⟩) e.subs.length cs1) (Quiet.load rfl ag_35 (by (repeat' constructor)) rfl) hsv) rfl ?_
   refine G.q (Quiet.move rfl) rfl ?_
   refine G.q (Quiet.indexAddr rfl rfl el_35 (by omega)) rfl ?_
   refine G.q (Quiet.loadRdA (sz := 8) (j := i * 8) (k := 8) (p := p) (vs := ptC e.subs[i]) rfl ag_37 (by (repeat' constructor)) hrs (by simp) (by omega) (by omega) (flatMap_at (f := ptC) (sz := 8) (fun _ _ => rfl) (by omega))) rfl ?_
   refine G.op (OpSpec.allocA ze_37) (by (repeat' constructor)) rfl ?nx46
   rintro v L' ⟨b3, rfl, rfl⟩
   refine G.op (OpSpec.storeA rfl rfl ?c48 sz_37 ?c51 ?c49 ?c50) (by (repeat' constructor)) rfl ?nx52
   case c48 => exact hy.all
   case c51 => rfl
   case c49 => simp [ptC]
   case c50 => exact nfz0 _ _
   rintro v L' rfl
   refine G.nil ?_
   refine G.ptCast (b := b3) (l' := ptC e.subs[i]) (by (repeat' constructor)) rfl ?_
   refine G.then_n (G.seq (G.add (slR_nil 104 2) ?_))
   refine G.draw [2, 4, 5, 11] [[0, 1, 3, 6, 7, 8, 2, 4, 5], [9, 10, 11]] mixed (by kernel_rfl) ?_
   refine Phases.go [ptc b3 _ _] (by (repeat' constructor)) ?_
   refine D.q rfl (by kernel_rfl) (Quiet.fieldAddr rfl fo_37_3) ?_
   refine D.q rfl (by kernel_rfl) (Quiet.to (v' := .slice ab e.subs[i].acl.length cb) (Quiet.load rfl ag_34 (by (repeat' constructor)) rfl) hyv) ?_
   refine D.q rfl (by kernel_rfl) (Quiet.to (v' := .agg (acC over77).toArray) (Quiet.build (us := [(0, _)]) fl_104 ze_104 rfl rfl (by simp [isCell])) rfl) ?_
   refine D.q rfl (by kernel_rfl) (Quiet.fieldAddr rfl fo_37_3) ?_
   refine D.q rfl (by kernel_rfl) (Quiet.to (v' := .slice ab e.subs[i].acl.length cb) (Quiet.load rfl ag_34 (by (repeat' constructor)) rfl) hyv) ?_
   refine D.q rfl (by kernel_rfl) (Quiet.slen rfl Tryz.underlying34 rfl) ?_
   refine D.h2 (k := 4) rfl rfl (by kernel_rfl) rfl (OpSpec.append (n := 0) (m := e.subs[i].acl.length) (ys := e.subs[i].acl.flatMap acC) (p := p) rfl rfl rfl el_34 (.inl ⟨_, Tryz.underlying34⟩) ze_104 rfl rfl ?hc59 hrb ?hb60 (by decide)) (by (repeat' constructor)) (OpSpec.buildSlice (vs := [_]) el_34 ze_104 rfl rfl rfl rfl (by first | (simp [Value.cells]; done) | (intro v hv; simp only [List.mem_cons, List.not_mem_nil, or_false] at hv; (repeat (first | (subst hv; rfl) | (rcases hv with hv | hv; (subst hv; rfl)))))) (by decide)) (by (repeat' constructor)) ?nx61 ?nx62
   case hc59 => exact acC_cells _
   case hb60 => omega
   ·rintro v L' ⟨⟨a4, c4, rfl⟩, rfl⟩; rw [Nat.zero_add, List.nil_append]
    refine D.h rfl (by kernel_rfl) (OpSpec.buildSlice (vs := [_]) el_34 ze_104 rfl rfl rfl rfl (by first | (simp [Value.cells]; done) | (intro v hv; simp only [List.mem_cons, List.not_mem_nil, or_false] at hv; (repeat (first | (subst hv; rfl) | (rcases hv with hv | hv; (subst hv; rfl)))))) (by decide)) (by (repeat' constructor)) ?nx64
    rintro v L' ⟨b4, rfl, rfl⟩
    refine D.h rfl (by kernel_rfl) (OpSpec.shapedS (k := e.subs[i].acl.length + 1) ?hk66 (OpSpec.append1 rfl rfl rfl el_34 ze_104 rfl rfl ?h167 ?h268 (Nat.le_refl _) ?h369 (by decide))) (by (repeat' constructor)) ?nx70
    case hk66 => omega
    case h167 => simp only [List.map_cons, List.map_nil, List.flatten_cons, List.flatten_nil, List.append_nil]; simp [Value.cells, acC, isCell]
    case h268 => rfl
    case h369 => omega
    rintro v L' ⟨b7, c7, hc7, rfl, rfl⟩
    refine D.ph ?_
    refine Phases.go [] (by (repeat' constructor)) ?_
    refine D.qw [10, 11] rfl (by kernel_rfl) (Quiet.to (v' := .slice (some ⟨b7, 0, none⟩) e.subs[i].acl.length c7) (Quiet.slTo rfl el_34 rfl (by omega) (.inr ⟨_, _, rfl⟩)) (by simp)) ?_
    refine D.qw [11] rfl (by kernel_rfl) (Quiet.fieldAddr rfl fo_37_3) ?_
    refine D.h rfl (by kernel_rfl) (OpSpec.store rfl rfl rfl sz_34 ?c74 ?c75) (by (repeat' constructor)) ?nx76
    case c74 => simp [ptC]
    case c75 => exact nfz0 _ _
    rintro v L' rfl
    refine D.ph (Phases.fin ?_)
    refine G.ptCast (b := b3) (l' := ptC (wA e.subs[i] (.slice (some ⟨b7, 0, none⟩) e.subs[i].acl.length c7))) (by (repeat' constructor)) (by exact rfl) ?_
    refine G.lentFold (wA e.subs[i] (.slice (some ⟨b7, 0, none⟩) e.subs[i].acl.length c7)) (by (repeat' constructor)) hc7 rfl rfl ?_
    refine G.then_n (G.region (G.q (Quiet.move rfl) rfl ?_))
    refine G.q (Quiet.loadAs (vs := ptC (wA e.subs[i] (.slice (some ⟨b7, 0, none⟩) e.subs[i].acl.length c7))) rfl ag_37 (by (repeat' constructor)) (by simp [ptC]) rfl) rfl ?_
    refine G.op (OpSpec.buildSlice (vs := [_]) el_35 ze_37 rfl rfl rfl rfl (by first | (simp [Value.cells]; done) | (intro v hv; simp only [List.mem_cons, List.not_mem_nil, or_false] at hv; (repeat (first | (subst hv; rfl) | (rcases hv with hv | hv; (subst hv; rfl)))))) (by decide)) (by (repeat' constructor)) rfl ?nx79
    rintro v L' ⟨b8, rfl, rfl⟩
    refine G.op (OpSpec.append1 rfl rfl rfl el_35 ze_37 rfl rfl ?c81 ?c82 (Nat.le_refl _) ?c83 (by decide)) (by (repeat' constructor)) rfl ?nx84
    case c81 => simp only [List.map_cons, List.map_nil, List.flatten_cons, List.flatten_nil, List.append_nil]; exact wA_cells rfl hy.subs
    case c82 => rfl
    case c83 => omega
    rintro v L' ⟨⟨a8_3, c8_3, rfl⟩, rfl⟩
    refine G.q (Quiet.assign rfl) rfl (G.nil ?_)
    rw [show acc.length + 1 = (acc ++ [(wA e.subs[i] (.slice (some ⟨b7, 0, none⟩) e.subs[i].acl.length c7))]).length by simp]
    refine G.slCast (T := 37) (sz := 8) (m' := (acc ++ [(wA e.subs[i] (.slice (some ⟨b7, 0, none⟩) e.subs[i].acl.length c7))]).length) (xs' := (acc ++ [(wA e.subs[i] (.slice (some ⟨b7, 0, none⟩) e.subs[i].acl.length c7))]).flatMap ptC) (by (repeat' constructor)) (by exact rfl) (by rw [List.flatMap_append]; rfl) ?_
    refine G.blk_n (G.then_n (G.region (G.q (Quiet.move rfl) rfl ?_)))
    refine G.q (Quiet.add rfl rfl (by omega)) rfl ?_
    refine G.q (Quiet.assign rfl) rfl (G.nil (G.then_n ?_))
    refine G.bigSnocF (f := lentA) (l := acc) (wA e.subs[i] (.slice (some ⟨b7, 0, none⟩) e.subs[i].acl.length c7)) rfl (by (repeat' constructor)) ?_
    exact G.roundK ((i + 1, .slice a8_3 (acc ++ [(wA e.subs[i] (.slice (some ⟨b7, 0, none⟩) e.subs[i].acl.length c7))]).length c8_3, acc ++ [(wA e.subs[i] (.slice (some ⟨b7, 0, none⟩) e.subs[i].acl.length c7))])) (⟨by dsimp only; omega, by dsimp only; rw [List.map_append, hmap, List.take_succ_eq_append_getElem hi2, List.map_append]; rfl, fun y hy => (by rcases List.mem_append.1 hy with hy | hy; exact hcl y hy; rw [List.mem_singleton] at hy; subst hy; rfl), _, _, rfl⟩) (by dsimp only; omega) ⟨rfl, rfl, rfl, rfl, trivial⟩ (by (repeat' constructor)) (by ((repeat (apply Have.cons; (repeat (first | exact Pick.here | apply Pick.there)))); apply Have.base; repeat' constructor))
   ·rintro v L' ⟨b4, rfl, rfl⟩
    refine D.h rfl (by kernel_rfl) (OpSpec.append (n := 0) (m := e.subs[i].acl.length) (ys := e.subs[i].acl.flatMap acC) (p := p) rfl rfl rfl el_34 (.inl ⟨_, Tryz.underlying34⟩) ze_104 rfl rfl ?hc89 hrb ?hb90 (by decide)) (by (repeat' constructor)) ?nx91
    case hc89 => exact acC_cells _
    case hb90 => omega
    rintro v L' ⟨⟨a4, c4, rfl⟩, rfl⟩; rw [Nat.zero_add, List.nil_append]
    refine D.h rfl (by kernel_rfl) (OpSpec.shapedS (k := e.subs[i].acl.length + 1) ?hk93 (OpSpec.append1 rfl rfl rfl el_34 ze_104 rfl rfl ?h194 ?h295 (Nat.le_refl _) ?h396 (by decide))) (by (repeat' constructor)) ?nx97
    case hk93 => omega
    case h194 => simp only [List.map_cons, List.map_nil, List.flatten_cons, List.flatten_nil, List.append_nil]; simp [Value.cells, acC, isCell]
    case h295 => rfl
    case h396 => omega
    rintro v L' ⟨b7, c7, hc7, rfl, rfl⟩
    refine D.ph ?_
    refine Phases.go [] (by (repeat' constructor)) ?_
    refine D.qw [10, 11] rfl (by kernel_rfl) (Quiet.to (v' := .slice (some ⟨b7, 0, none⟩) e.subs[i].acl.length c7) (Quiet.slTo rfl el_34 rfl (by omega) (.inr ⟨_, _, rfl⟩)) (by simp)) ?_
    refine D.qw [11] rfl (by kernel_rfl) (Quiet.fieldAddr rfl fo_37_3) ?_
    refine D.h rfl (by kernel_rfl) (OpSpec.store rfl rfl rfl sz_34 ?c101 ?c102) (by (repeat' constructor)) ?nx103
    case c101 => simp [ptC]
    case c102 => exact nfz0 _ _
    rintro v L' rfl
    refine D.ph (Phases.fin ?_)
    refine G.ptCast (b := b3) (l' := ptC (wA e.subs[i] (.slice (some ⟨b7, 0, none⟩) e.subs[i].acl.length c7))) (by (repeat' constructor)) (by exact rfl) ?_
    refine G.lentFold (wA e.subs[i] (.slice (some ⟨b7, 0, none⟩) e.subs[i].acl.length c7)) (by (repeat' constructor)) hc7 rfl rfl ?_
    refine G.then_n (G.region (G.q (Quiet.move rfl) rfl ?_))
    refine G.q (Quiet.loadAs (vs := ptC (wA e.subs[i] (.slice (some ⟨b7, 0, none⟩) e.subs[i].acl.length c7))) rfl ag_37 (by (repeat' constructor)) (by simp [ptC]) rfl) rfl ?_
    refine G.op (OpSpec.buildSlice (vs := [_]) el_35 ze_37 rfl rfl rfl rfl (by first | (simp [Value.cells]; done) | (intro v hv; simp only [List.mem_cons, List.not_mem_nil, or_false] at hv; (repeat (first | (subst hv; rfl) | (rcases hv with hv | hv; (subst hv; rfl)))))) (by decide)) (by (repeat' constructor)) rfl ?nx106
    rintro v L' ⟨b8, rfl, rfl⟩
    refine G.op (OpSpec.append1 rfl rfl rfl el_35 ze_37 rfl rfl ?c108 ?c109 (Nat.le_refl _) ?c110 (by decide)) (by (repeat' constructor)) rfl ?nx111
    case c108 => simp only [List.map_cons, List.map_nil, List.flatten_cons, List.flatten_nil, List.append_nil]; exact wA_cells rfl hy.subs
    case c109 => rfl
    case c110 => omega
    rintro v L' ⟨⟨a8_3, c8_3, rfl⟩, rfl⟩
    refine G.q (Quiet.assign rfl) rfl (G.nil ?_)
    rw [show acc.length + 1 = (acc ++ [(wA e.subs[i] (.slice (some ⟨b7, 0, none⟩) e.subs[i].acl.length c7))]).length by simp]
    refine G.slCast (T := 37) (sz := 8) (m' := (acc ++ [(wA e.subs[i] (.slice (some ⟨b7, 0, none⟩) e.subs[i].acl.length c7))]).length) (xs' := (acc ++ [(wA e.subs[i] (.slice (some ⟨b7, 0, none⟩) e.subs[i].acl.length c7))]).flatMap ptC) (by (repeat' constructor)) (by exact rfl) (by rw [List.flatMap_append]; rfl) ?_
    refine G.blk_n (G.then_n (G.region (G.q (Quiet.move rfl) rfl ?_)))
    refine G.q (Quiet.add rfl rfl (by omega)) rfl ?_
    refine G.q (Quiet.assign rfl) rfl (G.nil (G.then_n ?_))
    refine G.bigSnocF (f := lentA) (l := acc) (wA e.subs[i] (.slice (some ⟨b7, 0, none⟩) e.subs[i].acl.length c7)) rfl (by (repeat' constructor)) ?_
    exact G.roundK ((i + 1, .slice a8_3 (acc ++ [(wA e.subs[i] (.slice (some ⟨b7, 0, none⟩) e.subs[i].acl.length c7))]).length c8_3, acc ++ [(wA e.subs[i] (.slice (some ⟨b7, 0, none⟩) e.subs[i].acl.length c7))])) (⟨by dsimp only; omega, by dsimp only; rw [List.map_append, hmap, List.take_succ_eq_append_getElem hi2, List.map_append]; rfl, fun y hy => (by rcases List.mem_append.1 hy with hy | hy; exact hcl y hy; rw [List.mem_singleton] at hy; subst hy; rfl), _, _, rfl⟩) (by dsimp only; omega) ⟨rfl, rfl, rfl, rfl, trivial⟩ (by (repeat' constructor)) (by ((repeat (apply Have.cons; (repeat (first | exact Pick.here | apply Pick.there)))); apply Have.base; repeat' constructor))
  ·have hii : i = e.subs.length := by omega
   rw [hii, List.take_length] at hmap
   refine G.exit (G.then_e (G.then_e (G.blk_e (G.then_n (G.seq (G.region (G.q (Quiet.move rfl) rfl ?_)))))))
   refine G.q (Quiet.to (v' := .agg (ptC pt77).toArray) (Quiet.build (us := [(0, _)]) fl_37 ze_37 rfl rfl (by simp [isCell])) rfl) rfl ?_
   refine G.op (OpSpec.buildSlice (vs := [_]) el_35 ze_37 rfl rfl rfl rfl (by first | (simp [Value.cells]; done) | (intro v hv; simp only [List.mem_cons, List.not_mem_nil, or_false] at hv; (repeat (first | (subst hv; rfl) | (rcases hv with hv | hv; (subst hv; rfl)))))) (by decide)) (by (repeat' constructor)) rfl ?nx117
   rintro v L' ⟨b9, rfl, rfl⟩
   refine G.op (OpSpec.shapedS (k := acc.length + 1) ?hk119 (OpSpec.append1 rfl rfl rfl el_35 ze_37 rfl rfl ?h1120 ?h2121 (Nat.le_refl _) ?h3122 (by decide))) (by (repeat' constructor)) rfl ?nx123
   case hk119 => omega
   case h1120 => simp only [List.map_cons, List.map_nil, List.flatten_cons, List.flatten_nil, List.append_nil]; simp [Value.cells, ptC, pt77, isCell]
   case h2121 => rfl
   case h3122 => omega
   rintro v L' ⟨b10, c10, hc10, rfl, rfl⟩
   refine G.q (Quiet.move rfl) rfl (G.q (Quiet.slen rfl Tryz.underlying35 rfl) rfl ?_)
   refine G.q (Quiet.to (v' := .slice (some ⟨b10, 0, none⟩) acc.length c10) (Quiet.slTo rfl el_35 rfl (by omega) (.inr ⟨_, _, rfl⟩)) (by simp)) rfl ?_
   refine G.q (Quiet.fieldAddr rfl fo_39_3) rfl (G.q (Quiet.fieldAddr rfl fo_37_7) rfl ?_)
   refine G.op (OpSpec.store rfl rfl rfl sz_35 ?c130 ?c131) (by (repeat' constructor)) rfl ?nx132
   case c130 => simp [enC, ptC]
   case c131 => exact nfz0 _ _
   rintro v L' rfl
   refine G.nil ?_
   refine G.ptCast (b := b1) (l' := enC (⟨e.zx, e.ses, e.xid, wS (wA e.x (.slice (some ⟨b6, 0, none⟩) e.x.acl.length c6)) (.slice (some ⟨b10, 0, none⟩) acc.length c10), acc⟩ : En)) (by (repeat' constructor)) (by exact rfl) ?_
   refine G.lentFoldS (⟨e.zx, e.ses, e.xid, wS (wA e.x (.slice (some ⟨b6, 0, none⟩) e.x.acl.length c6)) (.slice (some ⟨b10, 0, none⟩) acc.length c10), acc⟩ : En) (by (repeat' constructor)) hc10 rfl rfl ?_
   refine G.then_n (G.seq (G.region ?_))
   refine G.q (Quiet.loadAs (vs := enC (⟨e.zx, e.ses, e.xid, wS (wA e.x (.slice (some ⟨b6, 0, none⟩) e.x.acl.length c6)) (.slice (some ⟨b10, 0, none⟩) acc.length c10), acc⟩ : En)) rfl ag_39 (by (repeat' constructor)) (by simp [enC, ptC]) rfl) rfl ?_
   refine G.op (OpSpec.storeA rfl rfl ?c134 sz_39 ?c137 ?c135 ?c136) (by (repeat' constructor)) rfl ?nx138
   case c134 => simp [enC, ptC, wA, wS, isCell]
   case c137 => rfl
   case c135 => simp [enC, ptC]
   case c136 => exact nfz0 _ _
   rintro v L' rfl
   refine G.nil ?_
   refine G.ptCast (b := b2) (l' := enC (⟨e.zx, e.ses, e.xid, wS (wA e.x (.slice (some ⟨b6, 0, none⟩) e.x.acl.length c6)) (.slice (some ⟨b10, 0, none⟩) acc.length c10), acc⟩ : En)) (by (repeat' constructor)) (by exact rfl) ?_
   refine G.then_n (G.ret ?_)
   refine G.fold (p := lentE (⟨e.zx, e.ses, e.xid, wS (wA e.x (.slice (some ⟨b6, 0, none⟩) e.x.acl.length c6)) (.slice (some ⟨b10, 0, none⟩) acc.length c10), acc⟩ : En)) (.cons (p := lentA (wA e.x (.slice (some ⟨b6, 0, none⟩) e.x.acl.length c6))) (by (repeat' constructor)) (.cons (p := lentS (⟨e.zx, e.ses, e.xid, wS (wA e.x (.slice (some ⟨b6, 0, none⟩) e.x.acl.length c6)) (.slice (some ⟨b10, 0, none⟩) acc.length c10), acc⟩ : En)) (by (repeat' constructor)) (.cons (p := bigR lentA acc) (by (repeat' constructor)) .nil))) (fun h hp => hp) ?_
   exact G.done1 rfl (.cellA rfl ag_39 (by (repeat' constructor)) (by simp [enC, ptC]) rfl) ⟨(⟨e.zx, e.ses, e.xid, wS (wA e.x (.slice (some ⟨b6, 0, none⟩) e.x.acl.length c6)) (.slice (some ⟨b10, 0, none⟩) acc.length c10), acc⟩ : En), rfl, ⟨rfl, rfl, hmap, rfl, rfl, hcl⟩, rfl⟩ (by (repeat' constructor)) (by (repeat' constructor))
 ·rintro v L' ⟨b5, rfl, rfl⟩
  refine D.h rfl (by kernel_rfl) (OpSpec.append (n := 0) (m := e.x.acl.length) (ys := e.x.acl.flatMap acC) (p := p) rfl rfl rfl el_34 (.inl ⟨_, Tryz.underlying34⟩) ze_104 rfl rfl ?hc140 hra ?hb141 (by decide)) (by (repeat' constructor)) ?nx142
  case hc140 => exact acC_cells _
  case hb141 => omega
  rintro v L' ⟨⟨a3, c3, rfl⟩, rfl⟩; rw [Nat.zero_add, List.nil_append]
  refine D.h rfl (by kernel_rfl) (OpSpec.shapedS (k := e.x.acl.length + 1) ?hk144 (OpSpec.append1 rfl rfl rfl el_34 ze_104 rfl rfl ?h1145 ?h2146 (Nat.le_refl _) ?h3147 (by decide))) (by (repeat' constructor)) ?nx148
  case hk144 => omega
  case h1145 => simp only [List.map_cons, List.map_nil, List.flatten_cons, List.flatten_nil, List.append_nil]; simp [Value.cells, acC, isCell]
  case h2146 => rfl
  case h3147 => omega
  rintro v L' ⟨b6, c6, hc6, rfl, rfl⟩
  refine D.ph ?_
  refine Phases.go [] (by (repeat' constructor)) ?_
  refine D.qw [12, 13, 14] rfl (by kernel_rfl) (Quiet.to (v' := .slice (some ⟨b6, 0, none⟩) e.x.acl.length c6) (Quiet.slTo rfl el_34 rfl (by omega) (.inr ⟨_, _, rfl⟩)) (by simp)) ?_
  refine D.qw [13, 14] rfl (by kernel_rfl) (Quiet.fieldAddr rfl fo_39_3) ?_
  refine D.qw [14] rfl (by kernel_rfl) (Quiet.fieldAddr rfl fo_37_3) ?_
  refine D.h rfl (by kernel_rfl) (OpSpec.store rfl rfl rfl sz_34 ?c153 ?c154) (by (repeat' constructor)) ?nx155
  case c153 => simp [enC, ptC]
  case c154 => exact nfz0 _ _
  rintro v L' rfl
  refine D.ph (Phases.fin ?_)
  refine G.ptCast (b := b1) (l' := enC (⟨e.zx, e.ses, e.xid, (wA e.x (.slice (some ⟨b6, 0, none⟩) e.x.acl.length c6)), e.subs⟩ : En)) (by (repeat' constructor)) (by exact rfl) ?_
  refine G.lentFold (wA e.x (.slice (some ⟨b6, 0, none⟩) e.x.acl.length c6)) (by (repeat' constructor)) hc6 rfl rfl ?_
  have hrs : ∀ h : Hp, p h → rdS 8 h (.slice as1 e.subs.length cs1) e.subs.length (e.subs.flatMap ptC) := fun h hp => by have q := he.rd h hp; rw [hsv] at q; exact q
  refine G.add (slR_nil 37 8) ?_
  refine G.add (p := bigR lentA []) (fun h => big_nil h) ?_
  refine G.then_n (G.seq (G.region (G.q (Quiet.assign rfl) rfl (G.nil (G.then_n (G.seq (G.seq (G.region (G.q (Quiet.assign rfl) rfl (G.nil (G.then_n (G.block ?_))))))))))))
  refine G.loopK (ι := Nat × Value × (List Pt)) (fun q E => (4, vint q.1) :: (3, q.2.1) :: E) (fun q => [slR 37 8 q.2.1 q.2.2.length (q.2.2.flatMap ptC), bigR lentA q.2.2]) (fun q => q.1 ≤ e.subs.length ∧ q.2.2.map clr = (e.subs.take q.1).map clr ∧ (∀ y ∈ q.2.2, isCell y.aclV = true) ∧ ∃ a c, q.2.1 = .slice a q.2.2.length c) (fun q => e.subs.length - q.1) (0, .slice none 0 0, []) (ts := [1, 2]) (.cons rfl (.cons rfl (.nil))) (⟨Nat.zero_le _, rfl, fun y hy => (by cases hy), none, 0, rfl⟩) ⟨rfl, rfl, rfl, rfl, trivial⟩ (by (repeat' constructor)) ?_
  rintro ⟨i, u, acc⟩ ⟨hi, hmap, hcl, au, cu, hu⟩
  dsimp only
  dsimp only at hi hmap hcl hu
  subst hu
  have hal : acc.length = i := by have h := congrArg List.length hmap; simp at h; omega
  refine G.seq (G.seq (G.region (G.q (Quiet.move rfl) rfl (G.q (Quiet.fieldAddr rfl fo_39_3) rfl (G.q (Quiet.fieldAddr rfl fo_37_7) rfl ?_)))))
  refine G.q (Quiet.to (v' := .slice as1 e.subs.length cs1) (Quiet.load rfl ag_35 (by (repeat' constructor)) rfl) hsv) rfl ?_
  refine G.q (Quiet.slen rfl Tryz.underlying35 rfl) rfl (G.q (Quiet.int rfl rfl rfl) rfl (G.nil (G.then_n ?_)))
  refine G.condD rfl (fun h25 => ?_) (fun h25 => ?_)
  ·have hi2 : i < e.subs.length := by omega
   have hy := he.each _ (List.getElem_mem hi2)
   have hyf := hy.few
   refine G.rdShape (p := p) hrs (by (repeat' constructor)) (by omega) fun bs os e1 => ?_
   subst e1
   refine G.rdAny (p := p) hy.acl (by (repeat' constructor)) fun ab cb hyv _ => ?_
   have hrb : ∀ h : Hp, p h → rdS 2 h (.slice ab e.subs[i].acl.length cb) e.subs[i].acl.length (e.subs[i].acl.flatMap acC) := fun h hp => by have q := hy.acl h hp; rw [hyv] at q; exact q
   refine G.skip (G.then_n (G.seq (G.block (G.seq (G.region (G.q (Quiet.fieldAddr rfl fo_39_3) rfl (G.q (Quiet.fieldAddr rfl fo_37_7) rfl ?_)))))))
   refine G.q (Quiet.to (v' := .slice (some ⟨bs, os, none⟩) e.subs.length cs1) (Quiet.load rfl ag_35 (by (repeat' constructor)) rfl) hsv) rfl ?_
   refine G.q (Quiet.move rfl) rfl ?_
   refine G.q (Quiet.indexAddr rfl rfl el_35 (by omega)) rfl ?_
   refine G.q (Quiet.loadRdA (sz := 8) (j := i * 8) (k := 8) (p := p) (vs := ptC e.subs[i]) rfl ag_37 (by (repeat' constructor)) hrs (by simp) (by omega) (by omega) (flatMap_at (f := ptC) (sz := 8) (fun _ _ => rfl) (by omega))) rfl ?_
   refine G.op (OpSpec.allocA ze_37) (by (repeat' constructor)) rfl ?nx170
   rintro v L' ⟨b3, rfl, rfl⟩
   refine G.op (OpSpec.storeA rfl rfl ?c172 sz_37 ?c175 ?c173 ?c174) (by (repeat' constructor)) rfl ?nx176
   case c172 => exact hy.all
   case c175 => rfl
   case c173 => simp [ptC]
   case c174 => exact nfz0 _ _
   rintro v L' rfl
   refine G.nil ?_
   refine G.ptCast (b := b3) (l' := ptC e.subs[i]) (by (repeat' constructor)) rfl ?_
   refine G.then_n (G.seq (G.add (slR_nil 104 2) ?_))
   refine G.draw [2, 4, 5, 11] [[0, 1, 3, 6, 7, 8, 2, 4, 5], [9, 10, 11]] mixed (by kernel_rfl) ?_
   refine Phases.go [ptc b3 _ _] (by (repeat' constructor)) ?_
   refine D.q rfl (by kernel_rfl) (Quiet.fieldAddr rfl fo_37_3) ?_
   refine D.q rfl (by kernel_rfl) (Quiet.to (v' := .slice ab e.subs[i].acl.length cb) (Quiet.load rfl ag_34 (by (repeat' constructor)) rfl) hyv) ?_
   refine D.q rfl (by kernel_rfl) (Quiet.to (v' := .agg (acC over77).toArray) (Quiet.build (us := [(0, _)]) fl_104 ze_104 rfl rfl (by simp [isCell])) rfl) ?_
   refine D.q rfl (by kernel_rfl) (Quiet.fieldAddr rfl fo_37_3) ?_
   refine D.q rfl (by kernel_rfl) (Quiet.to (v' := .slice ab e.subs[i].acl.length cb) (Quiet.load rfl ag_34 (by (repeat' constructor)) rfl) hyv) ?_
   refine D.q rfl (by kernel_rfl) (Quiet.slen rfl Tryz.underlying34 rfl) ?_
   refine D.h2 (k := 4) rfl rfl (by kernel_rfl) rfl (OpSpec.append (n := 0) (m := e.subs[i].acl.length) (ys := e.subs[i].acl.flatMap acC) (p := p) rfl rfl rfl el_34 (.inl ⟨_, Tryz.underlying34⟩) ze_104 rfl rfl ?hc183 hrb ?hb184 (by decide)) (by (repeat' constructor)) (OpSpec.buildSlice (vs := [_]) el_34 ze_104 rfl rfl rfl rfl (by first | (simp [Value.cells]; done) | (intro v hv; simp only [List.mem_cons, List.not_mem_nil, or_false] at hv; (repeat (first | (subst hv; rfl) | (rcases hv with hv | hv; (subst hv; rfl)))))) (by decide)) (by (repeat' constructor)) ?nx185 ?nx186
   case hc183 => exact acC_cells _
   case hb184 => omega
   ·rintro v L' ⟨⟨a4, c4, rfl⟩, rfl⟩; rw [Nat.zero_add, List.nil_append]
    refine D.h rfl (by kernel_rfl) (OpSpec.buildSlice (vs := [_]) el_34 ze_104 rfl rfl rfl rfl (by first | (simp [Value.cells]; done) | (intro v hv; simp only [List.mem_cons, List.not_mem_nil, or_false] at hv; (repeat (first | (subst hv; rfl) | (rcases hv with hv | hv; (subst hv; rfl)))))) (by decide)) (by (repeat' constructor)) ?nx188
    rintro v L' ⟨b4, rfl, rfl⟩
    refine D.h rfl (by kernel_rfl) (OpSpec.shapedS (k := e.subs[i].acl.length + 1) ?hk190 (OpSpec.append1 rfl rfl rfl el_34 ze_104 rfl rfl ?h1191 ?h2192 (Nat.le_refl _) ?h3193 (by decide))) (by (repeat' constructor)) ?nx194
    case hk190 => omega
    case h1191 => simp only [List.map_cons, List.map_nil, List.flatten_cons, List.flatten_nil, List.append_nil]; simp [Value.cells, acC, isCell]
    case h2192 => rfl
    case h3193 => omega
    rintro v L' ⟨b7, c7, hc7, rfl, rfl⟩
    refine D.ph ?_
    refine Phases.go [] (by (repeat' constructor)) ?_
    refine D.qw [10, 11] rfl (by kernel_rfl) (Quiet.to (v' := .slice (some ⟨b7, 0, none⟩) e.subs[i].acl.length c7) (Quiet.slTo rfl el_34 rfl (by omega) (.inr ⟨_, _, rfl⟩)) (by simp)) ?_
    refine D.qw [11] rfl (by kernel_rfl) (Quiet.fieldAddr rfl fo_37_3) ?_
    refine D.h rfl (by kernel_rfl) (OpSpec.store rfl rfl rfl sz_34 ?c198 ?c199) (by (repeat' constructor)) ?nx200
    case c198 => simp [ptC]
    case c199 => exact nfz0 _ _
    rintro v L' rfl
    refine D.ph (Phases.fin ?_)
    refine G.ptCast (b := b3) (l' := ptC (wA e.subs[i] (.slice (some ⟨b7, 0, none⟩) e.subs[i].acl.length c7))) (by (repeat' constructor)) (by exact rfl) ?_
    refine G.lentFold (wA e.subs[i] (.slice (some ⟨b7, 0, none⟩) e.subs[i].acl.length c7)) (by (repeat' constructor)) hc7 rfl rfl ?_
    refine G.then_n (G.region (G.q (Quiet.move rfl) rfl ?_))
    refine G.q (Quiet.loadAs (vs := ptC (wA e.subs[i] (.slice (some ⟨b7, 0, none⟩) e.subs[i].acl.length c7))) rfl ag_37 (by (repeat' constructor)) (by simp [ptC]) rfl) rfl ?_
    refine G.op (OpSpec.buildSlice (vs := [_]) el_35 ze_37 rfl rfl rfl rfl (by first | (simp [Value.cells]; done) | (intro v hv; simp only [List.mem_cons, List.not_mem_nil, or_false] at hv; (repeat (first | (subst hv; rfl) | (rcases hv with hv | hv; (subst hv; rfl)))))) (by decide)) (by (repeat' constructor)) rfl ?nx203
    rintro v L' ⟨b8, rfl, rfl⟩
    refine G.op (OpSpec.append1 rfl rfl rfl el_35 ze_37 rfl rfl ?c205 ?c206 (Nat.le_refl _) ?c207 (by decide)) (by (repeat' constructor)) rfl ?nx208
    case c205 => simp only [List.map_cons, List.map_nil, List.flatten_cons, List.flatten_nil, List.append_nil]; exact wA_cells rfl hy.subs
    case c206 => rfl
    case c207 => omega
    rintro v L' ⟨⟨a8_3, c8_3, rfl⟩, rfl⟩
    refine G.q (Quiet.assign rfl) rfl (G.nil ?_)
    rw [show acc.length + 1 = (acc ++ [(wA e.subs[i] (.slice (some ⟨b7, 0, none⟩) e.subs[i].acl.length c7))]).length by simp]
    refine G.slCast (T := 37) (sz := 8) (m' := (acc ++ [(wA e.subs[i] (.slice (some ⟨b7, 0, none⟩) e.subs[i].acl.length c7))]).length) (xs' := (acc ++ [(wA e.subs[i] (.slice (some ⟨b7, 0, none⟩) e.subs[i].acl.length c7))]).flatMap ptC) (by (repeat' constructor)) (by exact rfl) (by rw [List.flatMap_append]; rfl) ?_
    refine G.blk_n (G.then_n (G.region (G.q (Quiet.move rfl) rfl ?_)))
    refine G.q (Quiet.add rfl rfl (by omega)) rfl ?_
    refine G.q (Quiet.assign rfl) rfl (G.nil (G.then_n ?_))
    refine G.bigSnocF (f := lentA) (l := acc) (wA e.subs[i] (.slice (some ⟨b7, 0, none⟩) e.subs[i].acl.length c7)) rfl (by (repeat' constructor)) ?_
    exact G.roundK ((i + 1, .slice a8_3 (acc ++ [(wA e.subs[i] (.slice (some ⟨b7, 0, none⟩) e.subs[i].acl.length c7))]).length c8_3, acc ++ [(wA e.subs[i] (.slice (some ⟨b7, 0, none⟩) e.subs[i].acl.length c7))])) (⟨by dsimp only; omega, by dsimp only; rw [List.map_append, hmap, List.take_succ_eq_append_getElem hi2, List.map_append]; rfl, fun y hy => (by rcases List.mem_append.1 hy with hy | hy; exact hcl y hy; rw [List.mem_singleton] at hy; subst hy; rfl), _, _, rfl⟩) (by dsimp only; omega) ⟨rfl, rfl, rfl, rfl, trivial⟩ (by (repeat' constructor)) (by ((repeat (apply Have.cons; (repeat (first | exact Pick.here | apply Pick.there)))); apply Have.base; repeat' constructor))
   ·rintro v L' ⟨b4, rfl, rfl⟩
    refine D.h rfl (by kernel_rfl) (OpSpec.append (n := 0) (m := e.subs[i].acl.length) (ys := e.subs[i].acl.flatMap acC) (p := p) rfl rfl rfl el_34 (.inl ⟨_, Tryz.underlying34⟩) ze_104 rfl rfl ?hc213 hrb ?hb214 (by decide)) (by (repeat' constructor)) ?nx215
    case hc213 => exact acC_cells _
    case hb214 => omega
    rintro v L' ⟨⟨a4, c4, rfl⟩, rfl⟩; rw [Nat.zero_add, List.nil_append]
    refine D.h rfl (by kernel_rfl) (OpSpec.shapedS (k := e.subs[i].acl.length + 1) ?hk217 (OpSpec.append1 rfl rfl rfl el_34 ze_104 rfl rfl ?h1218 ?h2219 (Nat.le_refl _) ?h3220 (by decide))) (by (repeat' constructor)) ?nx221
    case hk217 => omega
    case h1218 => simp only [List.map_cons, List.map_nil, List.flatten_cons, List.flatten_nil, List.append_nil]; simp [Value.cells, acC, isCell]
    case h2219 => rfl
    case h3220 => omega
    rintro v L' ⟨b7, c7, hc7, rfl, rfl⟩
    refine D.ph ?_
    refine Phases.go [] (by (repeat' constructor)) ?_
    refine D.qw [10, 11] rfl (by kernel_rfl) (Quiet.to (v' := .slice (some ⟨b7, 0, none⟩) e.subs[i].acl.length c7) (Quiet.slTo rfl el_34 rfl (by omega) (.inr ⟨_, _, rfl⟩)) (by simp)) ?_
    refine D.qw [11] rfl (by kernel_rfl) (Quiet.fieldAddr rfl fo_37_3) ?_
    refine D.h rfl (by kernel_rfl) (OpSpec.store rfl rfl rfl sz_34 ?c225 ?c226) (by (repeat' constructor)) ?nx227
    case c225 => simp [ptC]
    case c226 => exact nfz0 _ _
    rintro v L' rfl
    refine D.ph (Phases.fin ?_)
    refine G.ptCast (b := b3) (l' := ptC (wA e.subs[i] (.slice (some ⟨b7, 0, none⟩) e.subs[i].acl.length c7))) (by (repeat' constructor)) (by exact rfl) ?_
    refine G.lentFold (wA e.subs[i] (.slice (some ⟨b7, 0, none⟩) e.subs[i].acl.length c7)) (by (repeat' constructor)) hc7 rfl rfl ?_
    refine G.then_n (G.region (G.q (Quiet.move rfl) rfl ?_))
    refine G.q (Quiet.loadAs (vs := ptC (wA e.subs[i] (.slice (some ⟨b7, 0, none⟩) e.subs[i].acl.length c7))) rfl ag_37 (by (repeat' constructor)) (by simp [ptC]) rfl) rfl ?_
    refine G.op (OpSpec.buildSlice (vs := [_]) el_35 ze_37 rfl rfl rfl rfl (by first | (simp [Value.cells]; done) | (intro v hv; simp only [List.mem_cons, List.not_mem_nil, or_false] at hv; (repeat (first | (subst hv; rfl) | (rcases hv with hv | hv; (subst hv; rfl)))))) (by decide)) (by (repeat' constructor)) rfl ?nx230
    rintro v L' ⟨b8, rfl, rfl⟩
    refine G.op (OpSpec.append1 rfl rfl rfl el_35 ze_37 rfl rfl ?c232 ?c233 (Nat.le_refl _) ?c234 (by decide)) (by (repeat' constructor)) rfl ?nx235
    case c232 => simp only [List.map_cons, List.map_nil, List.flatten_cons, List.flatten_nil, List.append_nil]; exact wA_cells rfl hy.subs
    case c233 => rfl
    case c234 => omega
    rintro v L' ⟨⟨a8_3, c8_3, rfl⟩, rfl⟩
    refine G.q (Quiet.assign rfl) rfl (G.nil ?_)
    rw [show acc.length + 1 = (acc ++ [(wA e.subs[i] (.slice (some ⟨b7, 0, none⟩) e.subs[i].acl.length c7))]).length by simp]
    refine G.slCast (T := 37) (sz := 8) (m' := (acc ++ [(wA e.subs[i] (.slice (some ⟨b7, 0, none⟩) e.subs[i].acl.length c7))]).length) (xs' := (acc ++ [(wA e.subs[i] (.slice (some ⟨b7, 0, none⟩) e.subs[i].acl.length c7))]).flatMap ptC) (by (repeat' constructor)) (by exact rfl) (by rw [List.flatMap_append]; rfl) ?_
    refine G.blk_n (G.then_n (G.region (G.q (Quiet.move rfl) rfl ?_)))
    refine G.q (Quiet.add rfl rfl (by omega)) rfl ?_
    refine G.q (Quiet.assign rfl) rfl (G.nil (G.then_n ?_))
    refine G.bigSnocF (f := lentA) (l := acc) (wA e.subs[i] (.slice (some ⟨b7, 0, none⟩) e.subs[i].acl.length c7)) rfl (by (repeat' constructor)) ?_
    exact G.roundK ((i + 1, .slice a8_3 (acc ++ [(wA e.subs[i] (.slice (some ⟨b7, 0, none⟩) e.subs[i].acl.length c7))]).length c8_3, acc ++ [(wA e.subs[i] (.slice (some ⟨b7, 0, none⟩) e.subs[i].acl.length c7))])) (⟨by dsimp only; omega, by dsimp only; rw [List.map_append, hmap, List.take_succ_eq_append_getElem hi2, List.map_append]; rfl, fun y hy => (by rcases List.mem_append.1 hy with hy | hy; exact hcl y hy; rw [List.mem_singleton] at hy; subst hy; rfl), _, _, rfl⟩) (by dsimp only; omega) ⟨rfl, rfl, rfl, rfl, trivial⟩ (by (repeat' constructor)) (by ((repeat (apply Have.cons; (repeat (first | exact Pick.here | apply Pick.there)))); apply Have.base; repeat' constructor))
  ·have hii : i = e.subs.length := by omega
   rw [hii, List.take_length] at hmap
   refine G.exit (G.then_e (G.then_e (G.blk_e (G.then_n (G.seq (G.region (G.q (Quiet.move rfl) rfl ?_)))))))
   refine G.q (Quiet.to (v' := .agg (ptC pt77).toArray) (Quiet.build (us := [(0, _)]) fl_37 ze_37 rfl rfl (by simp [isCell])) rfl) rfl ?_
   refine G.op (OpSpec.buildSlice (vs := [_]) el_35 ze_37 rfl rfl rfl rfl (by first | (simp [Value.cells]; done) | (intro v hv; simp only [List.mem_cons, List.not_mem_nil, or_false] at hv; (repeat (first | (subst hv; rfl) | (rcases hv with hv | hv; (subst hv; rfl)))))) (by decide)) (by (repeat' constructor)) rfl ?nx241
   rintro v L' ⟨b9, rfl, rfl⟩
   refine G.op (OpSpec.shapedS (k := acc.length + 1) ?hk243 (OpSpec.append1 rfl rfl rfl el_35 ze_37 rfl rfl ?h1244 ?h2245 (Nat.le_refl _) ?h3246 (by decide))) (by (repeat' constructor)) rfl ?nx247
   case hk243 => omega
   case h1244 => simp only [List.map_cons, List.map_nil, List.flatten_cons, List.flatten_nil, List.append_nil]; simp [Value.cells, ptC, pt77, isCell]
   case h2245 => rfl
   case h3246 => omega
   rintro v L' ⟨b10, c10, hc10, rfl, rfl⟩
   refine G.q (Quiet.move rfl) rfl (G.q (Quiet.slen rfl Tryz.underlying35 rfl) rfl ?_)
   refine G.q (Quiet.to (v' := .slice (some ⟨b10, 0, none⟩) acc.length c10) (Quiet.slTo rfl el_35 rfl (by omega) (.inr ⟨_, _, rfl⟩)) (by simp)) rfl ?_
   refine G.q (Quiet.fieldAddr rfl fo_39_3) rfl (G.q (Quiet.fieldAddr rfl fo_37_7) rfl ?_)
   refine G.op (OpSpec.store rfl rfl rfl sz_35 ?c254 ?c255) (by (repeat' constructor)) rfl ?nx256
   case c254 => simp [enC, ptC]
   case c255 => exact nfz0 _ _
   rintro v L' rfl
   refine G.nil ?_
   refine G.ptCast (b := b1) (l' := enC (⟨e.zx, e.ses, e.xid, wS (wA e.x (.slice (some ⟨b6, 0, none⟩) e.x.acl.length c6)) (.slice (some ⟨b10, 0, none⟩) acc.length c10), acc⟩ : En)) (by (repeat' constructor)) (by exact rfl) ?_
   refine G.lentFoldS (⟨e.zx, e.ses, e.xid, wS (wA e.x (.slice (some ⟨b6, 0, none⟩) e.x.acl.length c6)) (.slice (some ⟨b10, 0, none⟩) acc.length c10), acc⟩ : En) (by (repeat' constructor)) hc10 rfl rfl ?_
   refine G.then_n (G.seq (G.region ?_))
   refine G.q (Quiet.loadAs (vs := enC (⟨e.zx, e.ses, e.xid, wS (wA e.x (.slice (some ⟨b6, 0, none⟩) e.x.acl.length c6)) (.slice (some ⟨b10, 0, none⟩) acc.length c10), acc⟩ : En)) rfl ag_39 (by (repeat' constructor)) (by simp [enC, ptC]) rfl) rfl ?_
   refine G.op (OpSpec.storeA rfl rfl ?c258 sz_39 ?c261 ?c259 ?c260) (by (repeat' constructor)) rfl ?nx262
   case c258 => simp [enC, ptC, wA, wS, isCell]
   case c261 => rfl
   case c259 => simp [enC, ptC]
   case c260 => exact nfz0 _ _
   rintro v L' rfl
   refine G.nil ?_
   refine G.ptCast (b := b2) (l' := enC (⟨e.zx, e.ses, e.xid, wS (wA e.x (.slice (some ⟨b6, 0, none⟩) e.x.acl.length c6)) (.slice (some ⟨b10, 0, none⟩) acc.length c10), acc⟩ : En)) (by (repeat' constructor)) (by exact rfl) ?_
   refine G.then_n (G.ret ?_)
   refine G.fold (p := lentE (⟨e.zx, e.ses, e.xid, wS (wA e.x (.slice (some ⟨b6, 0, none⟩) e.x.acl.length c6)) (.slice (some ⟨b10, 0, none⟩) acc.length c10), acc⟩ : En)) (.cons (p := lentA (wA e.x (.slice (some ⟨b6, 0, none⟩) e.x.acl.length c6))) (by (repeat' constructor)) (.cons (p := lentS (⟨e.zx, e.ses, e.xid, wS (wA e.x (.slice (some ⟨b6, 0, none⟩) e.x.acl.length c6)) (.slice (some ⟨b10, 0, none⟩) acc.length c10), acc⟩ : En)) (by (repeat' constructor)) (.cons (p := bigR lentA acc) (by (repeat' constructor)) .nil))) (fun h hp => hp) ?_
   exact G.done1 rfl (.cellA rfl ag_39 (by (repeat' constructor)) (by simp [enC, ptC]) rfl) ⟨(⟨e.zx, e.ses, e.xid, wS (wA e.x (.slice (some ⟨b6, 0, none⟩) e.x.acl.length c6)) (.slice (some ⟨b10, 0, none⟩) acc.length c10), acc⟩ : En), rfl, ⟨rfl, rfl, hmap, rfl, rfl, hcl⟩, rfl⟩ (by (repeat' constructor)) (by (repeat' constructor))

theorem rrowT_spec (va vb : Value) (xs : List Ac) (p q : HP) (hp : ∀ h : Hp, p h → rdS 2 h va xs.length (xs.flatMap acC)) (hq : ∀ h : Hp, q h → rdS 2 h vb xs.length (xs.flatMap acC)) (hn : xs.length ≤ 1048576) : Fn Tryz.prog 64 #[va, vb] [p, q] fun v L => v = .bool true ∧ L = [p, q] := by
  have h := rrowseq_spec va vb xs xs p q hp hq hn
  rwa [decide_eq_true rfl] at h
theorem sub_cells {y : Pt} {a : Option Addr} {n c : Nat} (h1 : y.aclV = .slice a n c) (h2 : isCell y.subsV = true) : ∀ u ∈ ptC y, isCell u = true := by
  intro u hu
  simp only [ptC, List.mem_cons, List.not_mem_nil, or_false] at hu
  rcases hu with rfl | rfl | rfl | rfl | rfl | rfl | rfl | rfl
  case inr.inr.inr.inl => rw [h1]; rfl
  case inr.inr.inr.inr.inr.inr.inr => exact h2
  all_goals rfl
theorem spl_drop {l vs : List Value} {off k : Nat} (hl : off + vs.length ≤ l.length) (h : off + vs.length ≤ k) : (spl l off vs).drop k = l.drop k := by
  unfold spl
  have h1 : (l.take off ++ vs).length = off + vs.length := by simp; omega
  rw [List.drop_append, h1, List.drop_eq_nil_of_le (by omega), List.nil_append, List.drop_drop]
  congr 1
  omega
set_option maxHeartbeats 1000000 in
set_option maxRecDepth 100000 in
theorem kept7_spec (own e : En) (p : HP) (he : TxA p e.x e.subs) (hl : LentOf own e) : Fn Tryz.prog 71 #[.agg (enC own).toArray, .agg (enC e).toArray] [lentE own, p] fun r L => r = .bool true ∧ L = [p] := by
 refine Fn.intro (vs := [.agg (enC own).toArray, .agg (enC e).toArray]) Tryz.func71 rfl rfl ?_
 intro F W
 have hna : own.x.acl = e.x.acl := by have g : (clr2 own.x).acl = (clr2 e.x).acl := congrArg Pt.acl hl.own; exact g
 have hsl := hl.len
 have hfa := he.own.few
 have hfs := he.few
 refine G.rdAny (p := p) he.own.acl (by (repeat' constructor)) fun ae ce hav _ => ?_
 refine G.rdAny (p := p) he.rd (by (repeat' constructor)) fun as1 cs1 hsv _ => ?_
 have hra : ∀ h : Hp, p h → rdS 2 h (.slice ae e.x.acl.length ce) e.x.acl.length (e.x.acl.flatMap acC) := fun h hp => by have q := he.own.acl h hp; rw [hav] at q; exact q
 have hrs : ∀ h : Hp, p h → rdS 8 h (.slice as1 e.subs.length cs1) e.subs.length (e.subs.flatMap ptC) := fun h hp => by have q := he.rd h hp; rw [hsv] at q; exact q
 refine G.lentOpenE (by (repeat' constructor)) ?_
 refine G.lentOpen (T := 104) (sz := 2) (m := own.x.acl.length) (v := own.x.aclV) (xs := (own.x.acl ++ [over77]).flatMap acC) (by (repeat' constructor)) fun ba ca hca hba => ?_
 refine G.lentOpen (T := 37) (sz := 8) (m := own.subs.length) (v := own.x.subsV) (xs := (own.subs ++ [pt77]).flatMap ptC) (by (repeat' constructor)) fun bs cs hcs hbs => ?_
 rw [hna] at hca hba ⊢
 rw [hsl] at hcs hbs ⊢
 refine G.seq (G.region ?_)
 refine G.op (OpSpec.box rfl) (by (repeat' constructor)) rfl ?nx1
 rintro v L' ⟨b2, rfl, rfl⟩
 refine G.op (OpSpec.box rfl) (by (repeat' constructor)) rfl ?nx3
 rintro v L' ⟨b3, rfl, rfl⟩
 refine G.q (Quiet.assign rfl) rfl (G.nil ?_)
 refine G.ptCast (b := b2) (l' := enC own) (by (repeat' constructor)) rfl ?_
 refine G.ptCast (b := b3) (l' := enC e) (by (repeat' constructor)) rfl ?_
 refine G.then_n (G.seq (G.region (G.q (Quiet.fieldAddr rfl fo_39_3) rfl (G.q (Quiet.fieldAddr rfl fo_37_3) rfl ?_))))
 refine G.q (Quiet.to (v' := (.slice ae e.x.acl.length ce)) (Quiet.load rfl ag_34 (by (repeat' constructor)) rfl) hav) rfl ?_
 refine G.q (Quiet.slen rfl Tryz.underlying34 rfl) rfl (G.q (Quiet.assign rfl) rfl (G.nil (G.then_n (G.seq ?_))))
 refine G.draw [] [[0, 1, 2, 3, 4, 5, 6, 7, 8, 9, 10, 11, 12, 13, 14, 15, 16, 17, 18, 19, 20, 21, 22, 23, 24, 25, 26, 27, 28, 29, 30, 31, 32, 33, 34, 35, 36, 37, 38, 39, 40, 41, 42, 43, 44, 45, 46, 47, 48, 49, 50]] mixed (by kernel_rfl) ?_
 refine Phases.go [ptc b2 _ _, ptc b3 _ _, slR 104 2 (.slice (some ⟨ba, 0, none⟩) (e.x.acl.length + 1) ca) (e.x.acl.length + 1) _, slR 37 8 (.slice (some ⟨bs, 0, none⟩) (e.subs.length + 1) cs) (e.subs.length + 1) _, p] (by (repeat' constructor)) ?_
 refine D.qw [1, 2, 6, 7, 8, 9, 10, 11, 12, 13, 14, 15, 16, 17, 18, 19, 20, 21, 22, 23, 24, 25, 26, 27, 28, 29, 30, 31, 32, 33, 34, 35, 36, 37, 38, 39, 40, 41, 42, 43, 44, 45, 46, 47, 48, 49, 50] rfl (by kernel_rfl) (Quiet.fieldAddr rfl fo_39_3) ?_
 refine D.qw [2, 6, 7, 8, 9, 10, 11, 12, 13, 14, 15, 16, 17, 18, 19, 20, 21, 22, 23, 24, 25, 26, 27, 28, 29, 30, 31, 32, 33, 34, 35, 36, 37, 38, 39, 40, 41, 42, 43, 44, 45, 46, 47, 48, 49, 50] rfl (by kernel_rfl) (Quiet.fieldAddr rfl fo_37_3) ?_
 refine D.qw [6, 7, 8, 9, 10, 11, 12, 13, 14, 15, 16, 17, 18, 19, 20, 21, 22, 23, 24, 25, 26, 27, 28, 29, 30, 31, 32, 33, 34, 35, 36, 37, 38, 39, 40, 41, 42, 43, 44, 45, 46, 47, 48, 49, 50] rfl (by kernel_rfl) (Quiet.to (v' := (.slice (some ⟨ba, 0, none⟩) e.x.acl.length ca)) (Quiet.load rfl ag_34 (by (repeat' constructor)) rfl) hba) ?_
 refine D.qw [4, 5, 6, 7, 8, 9, 10, 11, 12, 13, 14, 15, 16, 17, 18, 19, 20, 21, 22, 23, 24, 25, 26, 27, 28, 29, 30, 31, 32, 33, 34, 35, 36, 37, 38, 39, 40, 41, 42, 43, 44, 45, 46, 47, 48, 49, 50] rfl (by kernel_rfl) (Quiet.fieldAddr rfl fo_39_3) ?_
 refine D.qw [5, 6, 7, 8, 9, 10, 11, 12, 13, 14, 15, 16, 17, 18, 19, 20, 21, 22, 23, 24, 25, 26, 27, 28, 29, 30, 31, 32, 33, 34, 35, 36, 37, 38, 39, 40, 41, 42, 43, 44, 45, 46, 47, 48, 49, 50] rfl (by kernel_rfl) (Quiet.fieldAddr rfl fo_37_3) ?_
 refine D.qw [6, 7, 8, 9, 10, 11, 12, 13, 14, 15, 16, 17, 18, 19, 20, 21, 22, 23, 24, 25, 26, 27, 28, 29, 30, 31, 32, 33, 34, 35, 36, 37, 38, 39, 40, 41, 42, 43, 44, 45, 46, 47, 48, 49, 50] rfl (by kernel_rfl) (Quiet.to (v' := (.slice ae e.x.acl.length ce)) (Quiet.load rfl ag_34 (by (repeat' constructor)) rfl) hav) ?_
 refine D.m rfl (by kernel_rfl) (OpSpec.call Tryz.func64 rfl rfl (vs := [_, _]) rfl (rrowT_spec (.slice (some ⟨ba, 0, none⟩) e.x.acl.length ca) (.slice ae e.x.acl.length ce) e.x.acl (slR 104 2 (.slice (some ⟨ba, 0, none⟩) (e.x.acl.length + 1) ca) (e.x.acl.length + 1) _) p (lent_rdX rfl) hra hfa)) (by (repeat' constructor)) ?nx16
 refine D.qw [8, 9, 10, 11, 12, 13, 14, 15, 16, 17, 18, 19, 20, 21, 22, 23, 24, 25, 26, 27, 28, 29, 30, 31, 32, 33, 34, 35, 36, 37, 38, 39, 40, 41, 42, 43, 44, 45, 46, 47, 48, 49, 50] rfl (by kernel_rfl) (Quiet.move rfl) ?_
 refine D.gqw [9, 10, 13, 15, 16, 17, 18, 19, 20, 21, 22, 23, 24, 25, 26, 27, 28, 29, 30, 31, 32, 33, 34, 35, 36, 37, 38, 39, 40, 41, 42, 43, 44, 45, 46, 47, 48, 49, 50] (t := 24) rfl rfl rfl (by kernel_rfl) (Quiet.fieldAddr rfl fo_39_3) ?_
 refine D.gqw [10, 13, 15, 16, 17, 18, 19, 20, 21, 22, 23, 24, 25, 26, 27, 28, 29, 30, 31, 32, 33, 34, 35, 36, 37, 38, 39, 40, 41, 42, 43, 44, 45, 46, 47, 48, 49, 50] (t := 24) rfl rfl rfl (by kernel_rfl) (Quiet.fieldAddr rfl fo_37_3) ?_
 refine D.gqw [13, 15, 16, 17, 18, 19, 20, 21, 22, 23, 24, 25, 26, 27, 28, 29, 30, 31, 32, 33, 34, 35, 36, 37, 38, 39, 40, 41, 42, 43, 44, 45, 46, 47, 48, 49, 50] (t := 24) rfl rfl rfl (by kernel_rfl) (Quiet.to (v' := (.slice (some ⟨ba, 0, none⟩) e.x.acl.length ca)) (Quiet.load rfl ag_34 (by (repeat' constructor)) rfl) hba) ?_
 refine D.gqw [12, 13, 15, 16, 17, 18, 19, 20, 21, 22, 23, 24, 25, 26, 27, 28, 29, 30, 31, 32, 33, 34, 35, 36, 37, 38, 39, 40, 41, 42, 43, 44, 45, 46, 47, 48, 49, 50] (t := 24) rfl rfl rfl (by kernel_rfl) (Quiet.move rfl) ?_
 refine D.gqw [13, 15, 16, 17, 18, 19, 20, 21, 22, 23, 24, 25, 26, 27, 28, 29, 30, 31, 32, 33, 34, 35, 36, 37, 38, 39, 40, 41, 42, 43, 44, 45, 46, 47, 48, 49, 50] (t := 24) rfl rfl rfl (by kernel_rfl) (Quiet.add rfl rfl (by omega)) ?_
 refine D.gqw [15, 16, 17, 18, 19, 20, 21, 22, 23, 24, 25, 26, 27, 28, 29, 30, 31, 32, 33, 34, 35, 36, 37, 38, 39, 40, 41, 42, 43, 44, 45, 46, 47, 48, 49, 50] (t := 24) rfl rfl rfl (by kernel_rfl) (Quiet.to (v' := (.slice (some ⟨ba, 0, none⟩) (e.x.acl.length + 1) ca)) (Quiet.slTo rfl el_34 rfl (by omega) (.inr ⟨_, _, rfl⟩)) (by simp)) ?_
 refine D.gqw [15, 16, 17, 18, 19, 20, 21, 22, 23, 24, 25, 26, 27, 28, 29, 30, 31, 32, 33, 34, 35, 36, 37, 38, 39, 40, 41, 42, 43, 44, 45, 46, 47, 48, 49, 50] (t := 24) rfl rfl rfl (by kernel_rfl) (Quiet.move rfl) ?_
 refine D.gqw [16, 17, 18, 19, 20, 21, 22, 23, 24, 25, 26, 27, 28, 29, 30, 31, 32, 33, 34, 35, 36, 37, 38, 39, 40, 41, 42, 43, 44, 45, 46, 47, 48, 49, 50] (t := 24) rfl rfl rfl (by kernel_rfl) (Quiet.indexAddr rfl rfl el_34 (by omega)) ?_
 refine D.gqw [17, 18, 19, 20, 21, 22, 23, 24, 25, 26, 27, 28, 29, 30, 31, 32, 33, 34, 35, 36, 37, 38, 39, 40, 41, 42, 43, 44, 45, 46, 47, 48, 49, 50] (t := 24) rfl rfl rfl (by kernel_rfl) (Quiet.fieldAddr rfl fo_104_0) ?_
 refine D.gqw [18, 19, 20, 21, 22, 23, 24, 25, 26, 27, 28, 29, 30, 31, 32, 33, 34, 35, 36, 37, 38, 39, 40, 41, 42, 43, 44, 45, 46, 47, 48, 49, 50] (t := 24) rfl rfl rfl (by kernel_rfl) (Quiet.loadRd (sz := 2) (j := e.x.acl.length * 2 + 0) (p := slR 104 2 (.slice (some ⟨ba, 0, none⟩) (e.x.acl.length + 1) ca) (e.x.acl.length + 1) _) (v := vint 77) rfl ag_3 (by (repeat' constructor)) (fun h hp => slR_rd hp) (by omega) (over_at _ rfl)) ?_
 refine D.gqw [19, 20, 21, 22, 23, 24, 25, 26, 27, 28, 29, 30, 31, 32, 33, 34, 35, 36, 37, 38, 39, 40, 41, 42, 43, 44, 45, 46, 47, 48, 49, 50] (t := 24) rfl rfl rfl (by kernel_rfl) (Quiet.as (v' := .bool true) (by rfl) (Quiet.int rfl rfl rfl)) ?_
 refine D.qw [20, 21, 22, 23, 24, 25, 26, 27, 28, 29, 30, 31, 32, 33, 34, 35, 36, 37, 38, 39, 40, 41, 42, 43, 44, 45, 46, 47, 48, 49, 50] rfl (by kernel_rfl) (Quiet.pickT rfl rfl) ?_
 refine D.qw [21, 22, 23, 24, 25, 26, 27, 28, 29, 30, 31, 32, 33, 34, 35, 36, 37, 38, 39, 40, 41, 42, 43, 44, 45, 46, 47, 48, 49, 50] rfl (by kernel_rfl) (Quiet.move rfl) ?_
 refine D.gqw [22, 23, 24, 29, 30, 31, 32, 33, 34, 35, 36, 37, 38, 39, 40, 41, 42, 43, 44, 45, 46, 47, 48, 49, 50] (t := 37) rfl rfl rfl (by kernel_rfl) (Quiet.fieldAddr rfl fo_39_3) ?_
 refine D.gqw [23, 24, 29, 30, 31, 32, 33, 34, 35, 36, 37, 38, 39, 40, 41, 42, 43, 44, 45, 46, 47, 48, 49, 50] (t := 37) rfl rfl rfl (by kernel_rfl) (Quiet.fieldAddr rfl fo_37_7) ?_
 refine D.gqw [24, 29, 30, 31, 32, 33, 34, 35, 36, 37, 38, 39, 40, 41, 42, 43, 44, 45, 46, 47, 48, 49, 50] (t := 37) rfl rfl rfl (by kernel_rfl) (Quiet.to (v' := (.slice (some ⟨bs, 0, none⟩) e.subs.length cs)) (Quiet.load rfl ag_35 (by (repeat' constructor)) rfl) hbs) ?_
 refine D.gqw [29, 30, 31, 32, 33, 34, 35, 36, 37, 38, 39, 40, 41, 42, 43, 44, 45, 46, 47, 48, 49, 50] (t := 37) rfl rfl rfl (by kernel_rfl) (Quiet.slen rfl Tryz.underlying35 rfl) ?_
 refine D.gqw [26, 27, 28, 29, 30, 31, 32, 33, 34, 35, 36, 37, 38, 39, 40, 41, 42, 43, 44, 45, 46, 47, 48, 49, 50] (t := 37) rfl rfl rfl (by kernel_rfl) (Quiet.fieldAddr rfl fo_39_3) ?_
 refine D.gqw [27, 28, 29, 30, 31, 32, 33, 34, 35, 36, 37, 38, 39, 40, 41, 42, 43, 44, 45, 46, 47, 48, 49, 50] (t := 37) rfl rfl rfl (by kernel_rfl) (Quiet.fieldAddr rfl fo_37_7) ?_
 refine D.gqw [28, 29, 30, 31, 32, 33, 34, 35, 36, 37, 38, 39, 40, 41, 42, 43, 44, 45, 46, 47, 48, 49, 50] (t := 37) rfl rfl rfl (by kernel_rfl) (Quiet.to (v' := (.slice as1 e.subs.length cs1)) (Quiet.load rfl ag_35 (by (repeat' constructor)) rfl) hsv) ?_
 refine D.gqw [29, 30, 31, 32, 33, 34, 35, 36, 37, 38, 39, 40, 41, 42, 43, 44, 45, 46, 47, 48, 49, 50] (t := 37) rfl rfl rfl (by kernel_rfl) (Quiet.slen rfl Tryz.underlying35 rfl) ?_
 refine D.gqw [30, 31, 32, 33, 34, 35, 36, 37, 38, 39, 40, 41, 42, 43, 44, 45, 46, 47, 48, 49, 50] (t := 37) rfl rfl rfl (by kernel_rfl) (Quiet.as (v' := .bool true) (by simp) (Quiet.int rfl rfl rfl)) ?_
 refine D.qw [31, 32, 33, 34, 35, 36, 37, 38, 39, 40, 41, 42, 43, 44, 45, 46, 47, 48, 49, 50] rfl (by kernel_rfl) (Quiet.pickT rfl rfl) ?_
 refine D.qw [32, 33, 34, 35, 36, 37, 38, 39, 40, 41, 42, 43, 44, 45, 46, 47, 48, 49, 50] rfl (by kernel_rfl) (Quiet.move rfl) ?_
 refine D.gqw [33, 34, 40, 45, 46, 47, 48, 49, 50] (t := 48) rfl rfl rfl (by kernel_rfl) (Quiet.fieldAddr rfl fo_39_3) ?_
 refine D.gqw [34, 40, 45, 46, 47, 48, 49, 50] (t := 48) rfl rfl rfl (by kernel_rfl) (Quiet.fieldAddr rfl fo_37_7) ?_
 refine D.gqw [40, 45, 46, 47, 48, 49, 50] (t := 48) rfl rfl rfl (by kernel_rfl) (Quiet.to (v' := (.slice (some ⟨bs, 0, none⟩) e.subs.length cs)) (Quiet.load rfl ag_35 (by (repeat' constructor)) rfl) hbs) ?_
 refine D.gqw [36, 37, 38, 39, 40, 45, 46, 47, 48, 49, 50] (t := 48) rfl rfl rfl (by kernel_rfl) (Quiet.fieldAddr rfl fo_39_3) ?_
 refine D.gqw [37, 38, 39, 40, 45, 46, 47, 48, 49, 50] (t := 48) rfl rfl rfl (by kernel_rfl) (Quiet.fieldAddr rfl fo_37_7) ?_
 refine D.gqw [38, 39, 40, 45, 46, 47, 48, 49, 50] (t := 48) rfl rfl rfl (by kernel_rfl) (Quiet.to (v' := (.slice (some ⟨bs, 0, none⟩) e.subs.length cs)) (Quiet.load rfl ag_35 (by (repeat' constructor)) rfl) hbs) ?_
 refine D.gqw [39, 40, 45, 46, 47, 48, 49, 50] (t := 48) rfl rfl rfl (by kernel_rfl) (Quiet.slen rfl Tryz.underlying35 rfl) ?_
 refine D.gqw [40, 45, 46, 47, 48, 49, 50] (t := 48) rfl rfl rfl (by kernel_rfl) (Quiet.add rfl rfl (by omega)) ?_
 refine D.gqw [45, 46, 47, 48, 49, 50] (t := 48) rfl rfl rfl (by kernel_rfl) (Quiet.to (v' := (.slice (some ⟨bs, 0, none⟩) (e.subs.length + 1) cs)) (Quiet.slTo rfl el_35 rfl (by omega) (.inr ⟨_, _, rfl⟩)) (by simp)) ?_
 refine D.gqw [42, 43, 44, 45, 46, 47, 48, 49, 50] (t := 48) rfl rfl rfl (by kernel_rfl) (Quiet.fieldAddr rfl fo_39_3) ?_
 refine D.gqw [43, 44, 45, 46, 47, 48, 49, 50] (t := 48) rfl rfl rfl (by kernel_rfl) (Quiet.fieldAddr rfl fo_37_7) ?_
 refine D.gqw [44, 45, 46, 47, 48, 49, 50] (t := 48) rfl rfl rfl (by kernel_rfl) (Quiet.to (v' := (.slice (some ⟨bs, 0, none⟩) e.subs.length cs)) (Quiet.load rfl ag_35 (by (repeat' constructor)) rfl) hbs) ?_
 refine D.gqw [45, 46, 47, 48, 49, 50] (t := 48) rfl rfl rfl (by kernel_rfl) (Quiet.slen rfl Tryz.underlying35 rfl) ?_
 refine D.gqw [46, 47, 48, 49, 50] (t := 48) rfl rfl rfl (by kernel_rfl) (Quiet.indexAddr rfl rfl el_35 (by omega)) ?_
 refine D.gqw [47, 48, 49, 50] (t := 48) rfl rfl rfl (by kernel_rfl) (Quiet.fieldAddr rfl fo_37_0) ?_
 refine D.gqw [48, 49, 50] (t := 48) rfl rfl rfl (by kernel_rfl) (Quiet.loadRd (sz := 8) (j := e.subs.length * 8 + 0) (p := slR 37 8 (.slice (some ⟨bs, 0, none⟩) (e.subs.length + 1) cs) (e.subs.length + 1) _) (v := vint 77) rfl ag_3 (by (repeat' constructor)) (fun h hp => slR_rd hp) (by omega) (overS_at _ hsl.symm)) ?_
 refine D.gqw [49, 50] (t := 48) rfl rfl rfl (by kernel_rfl) (Quiet.as (v' := .bool true) (by rfl) (Quiet.int rfl rfl rfl)) ?_
 refine D.qw [50] rfl (by kernel_rfl) (Quiet.pickT rfl rfl) ?_
 refine D.qw [] rfl (by kernel_rfl) (Quiet.assign rfl) ?_
 refine D.ph (Phases.fin (G.then_n (G.seq (G.seq (G.region (G.q (Quiet.assign rfl) rfl (G.nil (G.then_n (G.block ?_)))))))))
 have hy0 : ((e.x.acl ++ [over77]).flatMap acC).length = (e.x.acl.length + 1) * 2 := by rw [flatMap_len (sz := 2) (fun _ _ => rfl)]; simp
 refine G.loopK (ι := Nat × (List Value)) (fun q E => (7, vint q.1) :: E) (fun q => [slR 104 2 (.slice (some ⟨ba, 0, none⟩) (e.x.acl.length + 1) ca) (e.x.acl.length + 1) q.2]) (fun q => q.1 ≤ e.x.acl.length + 1 ∧ q.2.length = (e.x.acl.length + 1) * 2) (fun q => e.x.acl.length + 1 - q.1) (0, (e.x.acl ++ [over77]).flatMap acC) (ts := [2, 3, 4, 5, 6]) (.cons rfl (.cons rfl (.cons rfl (.cons rfl (.cons rfl (.nil)))))) (⟨Nat.zero_le _, hy0⟩) ⟨rfl, rfl, rfl, rfl, rfl, rfl, trivial⟩ (by (repeat' constructor)) ?_
 rintro ⟨j, ys⟩ ⟨hj, hyl⟩
 dsimp only
 dsimp only at hj hyl
 refine G.seq (G.seq (G.region (G.q (Quiet.move rfl) rfl (G.q (Quiet.move rfl) rfl ?_))))
 refine G.q (Quiet.add rfl rfl (by omega)) rfl ?_
 refine G.q (Quiet.int rfl rfl rfl) rfl (G.nil (G.then_n ?_))
 refine G.condD rfl (fun h70 => ?_) (fun h70 => ?_)
 ·refine G.skip (G.then_n (G.seq (G.block (G.region (G.q (Quiet.fieldAddr rfl fo_39_3) rfl (G.q (Quiet.fieldAddr rfl fo_37_3) rfl ?_))))))
  refine G.q (Quiet.to (v' := (.slice (some ⟨ba, 0, none⟩) e.x.acl.length ca)) (Quiet.load rfl ag_34 (by (repeat' constructor)) rfl) hba) rfl ?_
  refine G.q (Quiet.move rfl) rfl ?_
  refine G.q (Quiet.add rfl rfl (by omega)) rfl ?_
  refine G.q (Quiet.to (v' := (.slice (some ⟨ba, 0, none⟩) (e.x.acl.length + 1) ca)) (Quiet.slTo rfl el_34 rfl (by omega) (.inr ⟨_, _, rfl⟩)) (by simp)) rfl ?_
  refine G.q (Quiet.move rfl) rfl ?_
  refine G.q (Quiet.to (v' := .agg (acC (-1, [111, 118, 101, 114])).toArray) (Quiet.build (us := [(0, _), (1, _)]) fl_104 ze_104 rfl rfl (by simp [isCell])) rfl) rfl ?_
  refine G.q (Quiet.indexAddr rfl rfl el_34 (by omega)) rfl ?_
  refine G.op (OpSpec.storeRdA (sz := 2) (j := j * 2) (k := 2) (vs := [vint (-1), vstr [111, 118, 101, 114]]) rfl rfl (by simp [isCell]) sz_104 rfl ?ho67 ?hi68) (by (repeat' constructor)) rfl ?nx69
  case ho67 => omega
  case hi68 => omega
  rintro v L' rfl
  refine G.nil (G.blk_n (G.then_n (G.region (G.q (Quiet.move rfl) rfl ?_))))
  refine G.q (Quiet.add rfl rfl (by omega)) rfl ?_
  refine G.q (Quiet.assign rfl) rfl (G.nil (G.then_n ?_))
  exact G.roundK ((j + 1, spl ys (j * 2) [vint (-1), vstr [111, 118, 101, 114]])) (⟨by dsimp only; omega, by dsimp only; rw [spl_length (by simp; omega)]; exact hyl⟩) (by dsimp only; omega) ⟨rfl, rfl, rfl, rfl, rfl, rfl, trivial⟩ (by (repeat' constructor)) (by ((repeat (apply Have.cons; (repeat (first | exact Pick.here | apply Pick.there)))); apply Have.base; repeat' constructor))
 ·refine G.exit (G.then_e (G.then_e (G.blk_e (G.then_n (G.seq (G.seq ?_))))))
  have hz0 : ((own.subs ++ [pt77]).flatMap ptC).length = (e.subs.length + 1) * 8 := by rw [flatMap_len (sz := 8) (fun _ _ => rfl)]; simp [hsl]
  have hzd : ∀ k (hk : k < own.subs.length), ((((own.subs ++ [pt77]).flatMap ptC).drop (k * 8)).take 8) = ptC own.subs[k] := fun k hk => by rw [flatMap_at (f := ptC) (sz := 8) (fun _ _ => rfl) (by simp; omega), List.getElem_append_left hk]
  refine G.region (G.q (Quiet.assign rfl) rfl (G.nil (G.then_n (G.block ?_))))
  rw [show bigR lentA own.subs = bigR lentA (own.subs.drop 0) from rfl]
  refine G.loopK (ι := Nat × (List Value)) (fun q E => (8, vint q.1) :: (6, .bool true) :: E) (fun q => [slR 37 8 (.slice (some ⟨bs, 0, none⟩) (e.subs.length + 1) cs) (e.subs.length + 1) q.2, bigR lentA (own.subs.drop q.1)]) (fun q => q.1 ≤ e.subs.length ∧ q.2.length = (e.subs.length + 1) * 8 ∧ ∀ k (hk : k < own.subs.length), q.1 ≤ k → ((q.2.drop (k * 8)).take 8) = ptC own.subs[k]) (fun q => e.subs.length - q.1) (0, (own.subs ++ [pt77]).flatMap ptC) (ts := [2, 3, 4]) (.cons rfl (.cons rfl (.cons rfl (.nil)))) (⟨Nat.zero_le _, hz0, fun k hk _ => hzd k hk⟩) ⟨rfl, rfl, rfl, rfl, rfl, trivial⟩ (by (repeat' constructor)) ?_
  rintro ⟨i, zs⟩ ⟨hi, hzl, hzk⟩
  dsimp only
  dsimp only at hi hzl hzk
  refine G.seq (G.seq (G.region (G.q (Quiet.move rfl) rfl (G.q (Quiet.move rfl) rfl (G.grun (t := 83) rfl rfl rfl (G.q (Quiet.move rfl) rfl (G.grun (t := 83) rfl rfl rfl (G.q (Quiet.fieldAddr rfl fo_39_3) rfl (G.grun (t := 83) rfl rfl rfl (G.q (Quiet.fieldAddr rfl fo_37_7) rfl (G.grun (t := 83) rfl rfl rfl ?_)))))))))))
  refine G.q (Quiet.to (v' := (.slice as1 e.subs.length cs1)) (Quiet.load rfl ag_35 (by (repeat' constructor)) rfl) hsv) rfl ?_
  refine G.grun (t := 83) rfl rfl rfl (G.q (Quiet.slen rfl Tryz.underlying35 rfl) rfl (G.grun (t := 83) rfl rfl rfl (G.q (Quiet.int rfl rfl rfl) rfl (G.q (Quiet.pickT rfl rfl) rfl (G.nil (G.then_n ?_))))))
  refine G.condD rfl (fun h90 => ?_) (fun h90 => ?_)
  ·have hi2 : i < e.subs.length := by omega
   have hi3 : i < own.subs.length := by omega
   have hyz : clr own.subs[i] = clr e.subs[i] := by have g := congrArg (fun l => l[i]?) hl.subs; simpa [hi2, hi3] using g
   have hpz := he.each _ (List.getElem_mem hi2)
   have hfz := hpz.few
   have hya : own.subs[i].acl = e.subs[i].acl := by have g : (clr own.subs[i]).acl = (clr e.subs[i]).acl := congrArg Pt.acl hyz; exact g
   have hyk : own.subs[i].kind = e.subs[i].kind := by have g : (clr own.subs[i]).kind = (clr e.subs[i]).kind := congrArg Pt.kind hyz; exact g
   have hyp : own.subs[i].path = e.subs[i].path := by have g : (clr own.subs[i]).path = (clr e.subs[i]).path := congrArg Pt.path hyz; exact g
   have hysv : own.subs[i].subsV = e.subs[i].subsV := by have g : (clr own.subs[i]).subsV = (clr e.subs[i]).subsV := congrArg Pt.subsV hyz; exact g
   refine G.rdShape (p := p) hrs (by (repeat' constructor)) (by omega) fun be oe e1 => ?_
   subst e1
   refine G.rdAny (p := p) hpz.acl (by (repeat' constructor)) fun az cz hzv _ => ?_
   have hrz : ∀ h : Hp, p h → rdS 2 h (.slice az e.subs[i].acl.length cz) e.subs[i].acl.length (e.subs[i].acl.flatMap acC) := fun h hp => by have q := hpz.acl h hp; rw [hzv] at q; exact q
   refine G.bigUncons (f := lentA) (x := own.subs[i]) (l := own.subs.drop (i + 1)) (m := own.subs.drop i) (List.drop_eq_getElem_cons hi3) (by (repeat' constructor)) ?_
   refine G.lentOpen (T := 104) (sz := 2) (m := own.subs[i].acl.length) (v := own.subs[i].aclV) (xs := (own.subs[i].acl ++ [over77]).flatMap acC) (by (repeat' constructor)) fun by1 cy hcy hby => ?_
   rw [hya] at hcy hby ⊢
   refine G.skip (G.then_n (G.seq (G.block (G.seq (G.region (G.q (Quiet.fieldAddr rfl fo_39_3) rfl (G.q (Quiet.fieldAddr rfl fo_37_7) rfl ?_)))))))
   refine G.q (Quiet.to (v' := (.slice (some ⟨bs, 0, none⟩) e.subs.length cs)) (Quiet.load rfl ag_35 (by (repeat' constructor)) rfl) hbs) rfl ?_
   refine G.q (Quiet.move rfl) rfl ?_
   refine G.q (Quiet.indexAddr rfl rfl el_35 (by omega)) rfl ?_
   refine G.q (Quiet.loadRdA (sz := 8) (j := i * 8) (k := 8) (p := slR 37 8 (.slice (some ⟨bs, 0, none⟩) (e.subs.length + 1) cs) (e.subs.length + 1) _) (vs := ptC own.subs[i]) rfl ag_37 (by (repeat' constructor)) (fun h hp => slR_rd hp) (by simp) (by omega) (by omega) (hzk i hi3 (Nat.le_refl _))) rfl ?_
   refine G.op (OpSpec.allocA ze_37) (by (repeat' constructor)) rfl ?nx86
   rintro v L' ⟨b9, rfl, rfl⟩
   refine G.op (OpSpec.storeA rfl rfl ?c88 sz_37 ?c91 ?c89 ?c90) (by (repeat' constructor)) rfl ?nx92
   case c88 => exact sub_cells hby (by rw [hysv]; exact hpz.subs)
   case c91 => rfl
   case c89 => simp [ptC]
   case c90 => exact nfz0 _ _
   rintro v L' rfl
   refine G.nil ?_
   refine G.ptCast (b := b9) (l' := ptC own.subs[i]) (by (repeat' constructor)) (by exact rfl) ?_
   refine G.then_n (G.seq (G.region (G.q (Quiet.fieldAddr rfl fo_39_3) rfl (G.q (Quiet.fieldAddr rfl fo_37_7) rfl ?_))))
   refine G.q (Quiet.to (v' := (.slice (some ⟨be, oe, none⟩) e.subs.length cs1)) (Quiet.load rfl ag_35 (by (repeat' constructor)) rfl) hsv) rfl ?_
   refine G.q (Quiet.move rfl) rfl ?_
   refine G.q (Quiet.indexAddr rfl rfl el_35 (by omega)) rfl ?_
   refine G.q (Quiet.fieldAddr rfl fo_37_3) rfl ?_
   refine G.q (Quiet.to (v' := (.slice az e.subs[i].acl.length cz)) (Quiet.loadRd (sz := 8) (j := i * 8 + 3) (p := p) rfl ag_34 (by (repeat' constructor)) hrs (by omega) (by show (e.subs.flatMap ptC)[i * 8 + 3]? = _; rw [flatMap_cell (f := ptC) (sz := 8) (fun _ _ => rfl) hi2 (by decide)]; rfl)) hzv) rfl ?_
   refine G.q (Quiet.slen rfl Tryz.underlying34 rfl) rfl (G.q (Quiet.assign rfl) rfl (G.nil (G.then_n (G.seq ?_))))
   refine G.draw [] [[0, 1, 2, 3, 4, 5, 6, 7, 8, 9, 10]] mixed (by kernel_rfl) ?_
   refine Phases.go [ptc b9 _ _, ptc b3 _ _, slR 104 2 (.slice (some ⟨by1, 0, none⟩) (e.subs[i].acl.length + 1) cy) (e.subs[i].acl.length + 1) _, p] (by (repeat' constructor)) ?_
   refine D.qw [1, 9, 10] rfl (by kernel_rfl) (Quiet.fieldAddr rfl fo_37_3) ?_
   refine D.qw [9, 10] rfl (by kernel_rfl) (Quiet.to (v' := (.slice (some ⟨by1, 0, none⟩) e.subs[i].acl.length cy)) (Quiet.load rfl ag_34 (by (repeat' constructor)) rfl) hby) ?_
   refine D.qw [3, 4, 6, 7, 8, 9, 10] rfl (by kernel_rfl) (Quiet.fieldAddr rfl fo_39_3) ?_
   refine D.qw [4, 6, 7, 8, 9, 10] rfl (by kernel_rfl) (Quiet.fieldAddr rfl fo_37_7) ?_
   refine D.qw [6, 7, 8, 9, 10] rfl (by kernel_rfl) (Quiet.to (v' := (.slice (some ⟨be, oe, none⟩) e.subs.length cs1)) (Quiet.load rfl ag_35 (by (repeat' constructor)) rfl) hsv) ?_
   refine D.qw [6, 7, 8, 9, 10] rfl (by kernel_rfl) (Quiet.move rfl) ?_
   refine D.qw [7, 8, 9, 10] rfl (by kernel_rfl) (Quiet.indexAddr rfl rfl el_35 (by omega)) ?_
   refine D.qw [8, 9, 10] rfl (by kernel_rfl) (Quiet.fieldAddr rfl fo_37_3) ?_
   refine D.qw [9, 10] rfl (by kernel_rfl) (Quiet.to (v' := (.slice az e.subs[i].acl.length cz)) (Quiet.loadRd (sz := 8) (j := i * 8 + 3) (p := p) rfl ag_34 (by (repeat' constructor)) hrs (by omega) (by show (e.subs.flatMap ptC)[i * 8 + 3]? = _; rw [flatMap_cell (f := ptC) (sz := 8) (fun _ _ => rfl) hi2 (by decide)]; rfl)) hzv) ?_
   refine D.m rfl (by kernel_rfl) (OpSpec.call Tryz.func64 rfl rfl (vs := [_, _]) rfl (rrowT_spec (.slice (some ⟨by1, 0, none⟩) e.subs[i].acl.length cy) (.slice az e.subs[i].acl.length cz) e.subs[i].acl (slR 104 2 (.slice (some ⟨by1, 0, none⟩) (e.subs[i].acl.length + 1) cy) (e.subs[i].acl.length + 1) _) p (lent_rdX rfl) hrz hfz)) (by (repeat' constructor)) ?nx110
   refine D.qw [] rfl (by kernel_rfl) (Quiet.assign rfl) ?_
   refine D.ph (Phases.fin (G.then_n (G.seq ?_)))
   refine G.draw [] [[0, 1, 2, 3, 4, 5, 6, 7, 8, 9, 10, 11, 12, 13, 14, 15, 16, 17, 18, 19, 20, 21, 22, 23, 24, 25, 26, 27, 28, 29, 30, 31, 32, 33, 34, 35, 36, 37]] mixed (by kernel_rfl) ?_
   refine Phases.go [] (by (repeat' constructor)) ?_
   refine D.qw [1, 2, 3, 4, 5, 6, 7, 8, 9, 10, 11, 12, 13, 14, 15, 16, 17, 18, 19, 20, 21, 22, 23, 24, 25, 26, 27, 28, 29, 30, 31, 32, 33, 34, 35, 36, 37] rfl (by kernel_rfl) (Quiet.move rfl) ?_
   refine D.qw [2, 3, 4, 5, 6, 7, 8, 9, 10, 11, 12, 13, 14, 15, 16, 17, 18, 19, 20, 21, 22, 23, 24, 25, 26, 27, 28, 29, 30, 31, 32, 33, 34, 35, 36, 37] rfl (by kernel_rfl) (Quiet.move rfl) ?_
   refine D.gqw [3, 6, 8, 9, 10, 11, 12, 13, 14, 15, 16, 17, 18, 19, 20, 21, 22, 23, 24, 25, 26, 27, 28, 29, 30, 31, 32, 33, 34, 35, 36, 37] (t := 118) rfl rfl rfl (by kernel_rfl) (Quiet.fieldAddr rfl fo_37_3) ?_
   refine D.gqw [6, 8, 9, 10, 11, 12, 13, 14, 15, 16, 17, 18, 19, 20, 21, 22, 23, 24, 25, 26, 27, 28, 29, 30, 31, 32, 33, 34, 35, 36, 37] (t := 118) rfl rfl rfl (by kernel_rfl) (Quiet.to (v' := (.slice (some ⟨by1, 0, none⟩) e.subs[i].acl.length cy)) (Quiet.load rfl ag_34 (by (repeat' constructor)) rfl) hby) ?_
   refine D.gqw [5, 6, 8, 9, 10, 11, 12, 13, 14, 15, 16, 17, 18, 19, 20, 21, 22, 23, 24, 25, 26, 27, 28, 29, 30, 31, 32, 33, 34, 35, 36, 37] (t := 118) rfl rfl rfl (by kernel_rfl) (Quiet.move rfl) ?_
   refine D.gqw [6, 8, 9, 10, 11, 12, 13, 14, 15, 16, 17, 18, 19, 20, 21, 22, 23, 24, 25, 26, 27, 28, 29, 30, 31, 32, 33, 34, 35, 36, 37] (t := 118) rfl rfl rfl (by kernel_rfl) (Quiet.add rfl rfl (by omega)) ?_
   refine D.gqw [8, 9, 10, 11, 12, 13, 14, 15, 16, 17, 18, 19, 20, 21, 22, 23, 24, 25, 26, 27, 28, 29, 30, 31, 32, 33, 34, 35, 36, 37] (t := 118) rfl rfl rfl (by kernel_rfl) (Quiet.to (v' := (.slice (some ⟨by1, 0, none⟩) (e.subs[i].acl.length + 1) cy)) (Quiet.slTo rfl el_34 rfl (by omega) (.inr ⟨_, _, rfl⟩)) (by simp)) ?_
   refine D.gqw [8, 9, 10, 11, 12, 13, 14, 15, 16, 17, 18, 19, 20, 21, 22, 23, 24, 25, 26, 27, 28, 29, 30, 31, 32, 33, 34, 35, 36, 37] (t := 118) rfl rfl rfl (by kernel_rfl) (Quiet.move rfl) ?_
   refine D.gqw [9, 10, 11, 12, 13, 14, 15, 16, 17, 18, 19, 20, 21, 22, 23, 24, 25, 26, 27, 28, 29, 30, 31, 32, 33, 34, 35, 36, 37] (t := 118) rfl rfl rfl (by kernel_rfl) (Quiet.indexAddr rfl rfl el_34 (by omega)) ?_
   refine D.gqw [10, 11, 12, 13, 14, 15, 16, 17, 18, 19, 20, 21, 22, 23, 24, 25, 26, 27, 28, 29, 30, 31, 32, 33, 34, 35, 36, 37] (t := 118) rfl rfl rfl (by kernel_rfl) (Quiet.fieldAddr rfl fo_104_0) ?_
   refine D.gqw [11, 12, 13, 14, 15, 16, 17, 18, 19, 20, 21, 22, 23, 24, 25, 26, 27, 28, 29, 30, 31, 32, 33, 34, 35, 36, 37] (t := 118) rfl rfl rfl (by kernel_rfl) (Quiet.loadRd (sz := 2) (j := e.subs[i].acl.length * 2 + 0) (p := slR 104 2 (.slice (some ⟨by1, 0, none⟩) (e.subs[i].acl.length + 1) cy) (e.subs[i].acl.length + 1) _) (v := vint 77) rfl ag_3 (by (repeat' constructor)) (fun h hp => slR_rd hp) (by omega) (over_at _ rfl)) ?_
   refine D.gqw [12, 13, 14, 15, 16, 17, 18, 19, 20, 21, 22, 23, 24, 25, 26, 27, 28, 29, 30, 31, 32, 33, 34, 35, 36, 37] (t := 118) rfl rfl rfl (by kernel_rfl) (Quiet.as (v' := .bool true) (by rfl) (Quiet.int rfl rfl rfl)) ?_
   refine D.qw [13, 14, 15, 16, 17, 18, 19, 20, 21, 22, 23, 24, 25, 26, 27, 28, 29, 30, 31, 32, 33, 34, 35, 36, 37] rfl (by kernel_rfl) (Quiet.pickT rfl rfl) ?_
   refine D.qw [14, 15, 16, 17, 18, 19, 20, 21, 22, 23, 24, 25, 26, 27, 28, 29, 30, 31, 32, 33, 34, 35, 36, 37] rfl (by kernel_rfl) (Quiet.move rfl) ?_
   refine D.gqw [15, 23, 24, 25, 26, 27, 28, 29, 30, 31, 32, 33, 34, 35, 36, 37] (t := 130) rfl rfl rfl (by kernel_rfl) (Quiet.fieldAddr rfl fo_37_0) ?_
   refine D.gqw [23, 24, 25, 26, 27, 28, 29, 30, 31, 32, 33, 34, 35, 36, 37] (t := 130) rfl rfl rfl (by kernel_rfl) (Quiet.to (v' := vint e.subs[i].kind) (Quiet.load rfl ag_3 (by (repeat' constructor)) rfl) (by rw [hyk])) ?_
   refine D.gqw [17, 18, 20, 21, 22, 23, 24, 25, 26, 27, 28, 29, 30, 31, 32, 33, 34, 35, 36, 37] (t := 130) rfl rfl rfl (by kernel_rfl) (Quiet.fieldAddr rfl fo_39_3) ?_
   refine D.gqw [18, 20, 21, 22, 23, 24, 25, 26, 27, 28, 29, 30, 31, 32, 33, 34, 35, 36, 37] (t := 130) rfl rfl rfl (by kernel_rfl) (Quiet.fieldAddr rfl fo_37_7) ?_
   refine D.gqw [20, 21, 22, 23, 24, 25, 26, 27, 28, 29, 30, 31, 32, 33, 34, 35, 36, 37] (t := 130) rfl rfl rfl (by kernel_rfl) (Quiet.to (v' := (.slice (some ⟨be, oe, none⟩) e.subs.length cs1)) (Quiet.load rfl ag_35 (by (repeat' constructor)) rfl) hsv) ?_
   refine D.gqw [20, 21, 22, 23, 24, 25, 26, 27, 28, 29, 30, 31, 32, 33, 34, 35, 36, 37] (t := 130) rfl rfl rfl (by kernel_rfl) (Quiet.move rfl) ?_
   refine D.gqw [21, 22, 23, 24, 25, 26, 27, 28, 29, 30, 31, 32, 33, 34, 35, 36, 37] (t := 130) rfl rfl rfl (by kernel_rfl) (Quiet.indexAddr rfl rfl el_35 (by omega)) ?_
   refine D.gqw [22, 23, 24, 25, 26, 27, 28, 29, 30, 31, 32, 33, 34, 35, 36, 37] (t := 130) rfl rfl rfl (by kernel_rfl) (Quiet.fieldAddr rfl fo_37_0) ?_
   refine D.gqw [23, 24, 25, 26, 27, 28, 29, 30, 31, 32, 33, 34, 35, 36, 37] (t := 130) rfl rfl rfl (by kernel_rfl) (Quiet.to (v' := vint e.subs[i].kind) (Quiet.loadRd (sz := 8) (j := i * 8 + 0) (p := p) rfl ag_3 (by (repeat' constructor)) hrs (by omega) (by show (e.subs.flatMap ptC)[i * 8 + 0]? = _; rw [flatMap_cell (f := ptC) (sz := 8) (fun _ _ => rfl) hi2 (by decide)]; rfl)) rfl) ?_
   refine D.gqw [24, 25, 26, 27, 28, 29, 30, 31, 32, 33, 34, 35, 36, 37] (t := 130) rfl rfl rfl (by kernel_rfl) (Quiet.as (v' := .bool true) (by simp) (Quiet.int rfl rfl rfl)) ?_
   refine D.qw [25, 26, 27, 28, 29, 30, 31, 32, 33, 34, 35, 36, 37] rfl (by kernel_rfl) (Quiet.pickT rfl rfl) ?_
   refine D.qw [26, 27, 28, 29, 30, 31, 32, 33, 34, 35, 36, 37] rfl (by kernel_rfl) (Quiet.move rfl) ?_
   refine D.gqw [27, 35, 36, 37] (t := 142) rfl rfl rfl (by kernel_rfl) (Quiet.fieldAddr rfl fo_37_1) ?_
   refine D.gqw [35, 36, 37] (t := 142) rfl rfl rfl (by kernel_rfl) (Quiet.to (v' := vstr e.subs[i].path) (Quiet.load rfl ag_9 (by (repeat' constructor)) rfl) (by rw [hyp])) ?_
   refine D.gqw [29, 30, 32, 33, 34, 35, 36, 37] (t := 142) rfl rfl rfl (by kernel_rfl) (Quiet.fieldAddr rfl fo_39_3) ?_
   refine D.gqw [30, 32, 33, 34, 35, 36, 37] (t := 142) rfl rfl rfl (by kernel_rfl) (Quiet.fieldAddr rfl fo_37_7) ?_
   refine D.gqw [32, 33, 34, 35, 36, 37] (t := 142) rfl rfl rfl (by kernel_rfl) (Quiet.to (v' := (.slice (some ⟨be, oe, none⟩) e.subs.length cs1)) (Quiet.load rfl ag_35 (by (repeat' constructor)) rfl) hsv) ?_
   refine D.gqw [32, 33, 34, 35, 36, 37] (t := 142) rfl rfl rfl (by kernel_rfl) (Quiet.move rfl) ?_
   refine D.gqw [33, 34, 35, 36, 37] (t := 142) rfl rfl rfl (by kernel_rfl) (Quiet.indexAddr rfl rfl el_35 (by omega)) ?_
   refine D.gqw [34, 35, 36, 37] (t := 142) rfl rfl rfl (by kernel_rfl) (Quiet.fieldAddr rfl fo_37_1) ?_
   refine D.gqw [35, 36, 37] (t := 142) rfl rfl rfl (by kernel_rfl) (Quiet.to (v' := vstr e.subs[i].path) (Quiet.loadRd (sz := 8) (j := i * 8 + 1) (p := p) rfl ag_9 (by (repeat' constructor)) hrs (by omega) (by show (e.subs.flatMap ptC)[i * 8 + 1]? = _; rw [flatMap_cell (f := ptC) (sz := 8) (fun _ _ => rfl) hi2 (by decide)]; rfl)) rfl) ?_
   refine D.gqw [36, 37] (t := 142) rfl rfl rfl (by kernel_rfl) (Quiet.as (v' := .bool true) (by simp) (Quiet.streq rfl rfl)) ?_
   refine D.qw [37] rfl (by kernel_rfl) (Quiet.pickT rfl rfl) ?_
   refine D.qw [] rfl (by kernel_rfl) (Quiet.assign rfl) ?_
   refine D.ph (Phases.fin (G.then_n (G.seq (G.seq (G.region (G.q (Quiet.assign rfl) rfl (G.nil (G.then_n (G.block ?_)))))))))
   have hw0 : ((e.subs[i].acl ++ [over77]).flatMap acC).length = (e.subs[i].acl.length + 1) * 2 := by rw [flatMap_len (sz := 2) (fun _ _ => rfl)]; simp
   refine G.loopK (ι := Nat × (List Value)) (fun q E => (12, vint q.1) :: E) (fun q => [slR 104 2 (.slice (some ⟨by1, 0, none⟩) (e.subs[i].acl.length + 1) cy) (e.subs[i].acl.length + 1) q.2]) (fun q => q.1 ≤ e.subs[i].acl.length + 1 ∧ q.2.length = (e.subs[i].acl.length + 1) * 2) (fun q => e.subs[i].acl.length + 1 - q.1) (0, (e.subs[i].acl ++ [over77]).flatMap acC) (ts := [2, 3, 4, 6, 8, 9, 10, 11, 82, 83, 84, 85, 86, 87, 88, 89, 90, 93, 94, 95, 96, 97, 98, 99, 100, 101, 102, 103, 104, 105, 106, 107, 108, 109, 110, 111, 112, 113, 114, 115, 116, 117, 118, 119, 120, 121, 122, 123, 124, 125, 126, 127, 128, 129, 130, 131, 132, 133, 134, 135, 136, 137, 138, 139, 140, 141, 142, 143, 144, 145, 146, 147, 148, 149, 150, 151, 152, 153]) (.cons rfl (.cons rfl (.cons rfl (.cons rfl (.cons rfl (.cons rfl (.cons rfl (.cons rfl (.cons rfl (.cons rfl (.cons rfl (.cons rfl (.cons rfl (.cons rfl (.cons rfl (.cons rfl (.cons rfl (.cons rfl (.cons rfl (.cons rfl (.cons rfl (.cons rfl (.cons rfl (.cons rfl (.cons rfl (.cons rfl (.cons rfl (.cons rfl (.cons rfl (.cons rfl (.cons rfl (.cons rfl (.cons rfl (.cons rfl (.cons rfl (.cons rfl (.cons rfl (.cons rfl (.cons rfl (.cons rfl (.cons rfl (.cons rfl (.cons rfl (.cons rfl (.cons rfl (.cons rfl (.cons rfl (.cons rfl (.cons rfl (.cons rfl (.cons rfl (.cons rfl (.cons rfl (.cons rfl (.cons rfl (.cons rfl (.cons rfl (.cons rfl (.cons rfl (.cons rfl (.cons rfl (.cons rfl (.cons rfl (.cons rfl (.cons rfl (.cons rfl (.cons rfl (.cons rfl (.cons rfl (.cons rfl (.cons rfl (.cons rfl (.cons rfl (.cons rfl (.cons rfl (.cons rfl (.cons rfl (.cons rfl (.nil))))))))))))))))))))))))))))))))))))))))))))))))))))))))))))))))))))))))))))))) (⟨Nat.zero_le _, hw0⟩) ⟨rfl, rfl, rfl, rfl, rfl, rfl, rfl, rfl, rfl, rfl, rfl, rfl, rfl, rfl, rfl, rfl, rfl, rfl, rfl, rfl, rfl, rfl, rfl, rfl, rfl, rfl, rfl, rfl, rfl, rfl, rfl, rfl, rfl, rfl, rfl, rfl, rfl, rfl, rfl, rfl, rfl, rfl, rfl, rfl, rfl, rfl, rfl, rfl, rfl, rfl, rfl, rfl, rfl, rfl, rfl, rfl, rfl, rfl, rfl, rfl, rfl, rfl, rfl, rfl, rfl, rfl, rfl, rfl, rfl, rfl, rfl, rfl, rfl, rfl, rfl, rfl, rfl, rfl, rfl, trivial⟩ (by (repeat' constructor)) ?_
   rintro ⟨j, ws⟩ ⟨hj, hwl⟩
   dsimp only
   dsimp only at hj hwl
   refine G.seq (G.seq (G.region (G.q (Quiet.move rfl) rfl (G.q (Quiet.move rfl) rfl ?_))))
   refine G.q (Quiet.add rfl rfl (by omega)) rfl ?_
   refine G.q (Quiet.int rfl rfl rfl) rfl (G.nil (G.then_n ?_))
   refine G.condD rfl (fun h157 => ?_) (fun h157 => ?_)
   ·refine G.skip (G.then_n (G.seq (G.block (G.region (G.q (Quiet.fieldAddr rfl fo_37_3) rfl ?_)))))
    refine G.q (Quiet.to (v' := (.slice (some ⟨by1, 0, none⟩) e.subs[i].acl.length cy)) (Quiet.load rfl ag_34 (by (repeat' constructor)) rfl) hby) rfl ?_
    refine G.q (Quiet.move rfl) rfl ?_
    refine G.q (Quiet.add rfl rfl (by omega)) rfl ?_
    refine G.q (Quiet.to (v' := (.slice (some ⟨by1, 0, none⟩) (e.subs[i].acl.length + 1) cy)) (Quiet.slTo rfl el_34 rfl (by omega) (.inr ⟨_, _, rfl⟩)) (by simp)) rfl ?_
    refine G.q (Quiet.move rfl) rfl ?_
    refine G.q (Quiet.to (v' := .agg (acC (-1, [])).toArray) (Quiet.build (us := [(0, _)]) fl_104 ze_104 rfl rfl (by simp [isCell])) rfl) rfl ?_
    refine G.q (Quiet.indexAddr rfl rfl el_34 (by omega)) rfl ?_
    refine G.op (OpSpec.storeRdA (sz := 2) (j := j * 2) (k := 2) (vs := [vint (-1), vstr []]) rfl rfl (by simp [isCell]) sz_104 rfl ?ho153 ?hi154) (by (repeat' constructor)) rfl ?nx155
    case ho153 => omega
    case hi154 => omega
    rintro v L' rfl
    refine G.nil (G.blk_n (G.then_n (G.region (G.q (Quiet.move rfl) rfl ?_))))
    refine G.q (Quiet.add rfl rfl (by omega)) rfl ?_
    refine G.q (Quiet.assign rfl) rfl (G.nil (G.then_n ?_))
    exact G.roundK ((j + 1, spl ws (j * 2) [vint (-1), vstr []])) (⟨by dsimp only; omega, by dsimp only; rw [spl_length (by simp; omega)]; exact hwl⟩) (by dsimp only; omega) ⟨rfl, rfl, rfl, rfl, rfl, rfl, rfl, rfl, rfl, rfl, rfl, rfl, rfl, rfl, rfl, rfl, rfl, rfl, rfl, rfl, rfl, rfl, rfl, rfl, rfl, rfl, rfl, rfl, rfl, rfl, rfl, rfl, rfl, rfl, rfl, rfl, rfl, rfl, rfl, rfl, rfl, rfl, rfl, rfl, rfl, rfl, rfl, rfl, rfl, rfl, rfl, rfl, rfl, rfl, rfl, rfl, rfl, rfl, rfl, rfl, rfl, rfl, rfl, rfl, rfl, rfl, rfl, rfl, rfl, rfl, rfl, rfl, rfl, rfl, rfl, rfl, rfl, rfl, rfl, trivial⟩ (by (repeat' constructor)) (by ((repeat (apply Have.cons; (repeat (first | exact Pick.here | apply Pick.there)))); apply Have.base; repeat' constructor))
   ·refine G.exit (G.then_e (G.then_e (G.blk_e (G.then_n (G.region (G.q (Quiet.fieldAddr rfl fo_39_3) rfl (G.q (Quiet.fieldAddr rfl fo_37_7) rfl ?_)))))))
    refine G.q (Quiet.to (v' := (.slice (some ⟨bs, 0, none⟩) e.subs.length cs)) (Quiet.load rfl ag_35 (by (repeat' constructor)) rfl) hbs) rfl ?_
    refine G.q (Quiet.move rfl) rfl ?_
    refine G.q (Quiet.to (v' := .agg (ptC (⟨-1, [], [], .slice none 0 0, [], 0, 0, 0, .slice none 0 0⟩ : Pt)).toArray) (Quiet.build (us := [(0, _)]) fl_37 ze_37 rfl rfl (by simp [isCell])) rfl) rfl ?_
    refine G.q (Quiet.indexAddr rfl rfl el_35 (by omega)) rfl ?_
    refine G.op (OpSpec.storeRdA (sz := 8) (j := i * 8) (k := 8) (vs := ptC (⟨-1, [], [], .slice none 0 0, [], 0, 0, 0, .slice none 0 0⟩ : Pt)) rfl rfl (by simp [ptC, isCell]) sz_37 rfl ?ho164 ?hi165) (by (repeat' constructor)) rfl ?nx166
    case ho164 => omega
    case hi165 => omega
    rintro v L' rfl
    refine G.nil (G.blk_n (G.then_n (G.region (G.q (Quiet.move rfl) rfl ?_))))
    refine G.q (Quiet.add rfl rfl (by omega)) rfl ?_
    refine G.q (Quiet.assign rfl) rfl (G.nil (G.then_n ?_))
    exact G.roundK ((i + 1, spl zs (i * 8) (ptC (⟨-1, [], [], .slice none 0 0, [], 0, 0, 0, .slice none 0 0⟩ : Pt)))) (⟨by dsimp only; omega, by dsimp only; rw [spl_length (by show i * 8 + 8 ≤ _; omega)]; exact hzl, fun k hk hik => by dsimp only; rw [spl_drop (by show i * 8 + 8 ≤ _; omega) (by show i * 8 + 8 ≤ k * 8; dsimp only at hik; omega)]; exact hzk k hk (by dsimp only at hik; omega)⟩) (by dsimp only; omega) ⟨rfl, rfl, rfl, rfl, rfl, trivial⟩ (by (repeat' constructor)) (by ((repeat (apply Have.cons; (repeat (first | exact Pick.here | apply Pick.there)))); apply Have.base; repeat' constructor))
  ·refine G.exit (G.then_e (G.then_e (G.blk_e (G.then_n (G.seq (G.region (G.q (Quiet.move rfl) rfl (G.q (Quiet.assign rfl) rfl (G.nil (G.then_n (G.ret ?_)))))))))))
   exact G.done (l := [.tmp 4]) rfl rfl ⟨rfl, rfl⟩ (by (repeat' constructor)) (by (repeat' constructor))

end Go.Proofs.YtnnbelmpbmfdnaaGreatDoor

/- Own work: steps on a tree: plain. -/

namespace Go.Proofs.YtnnbelmpbmfdnaaGreatDoor
open Go

structure Op7 where
  kind : Int
  n : Int
  m : Int
  e : En
  path : Bs
  data : Bs
  aclV : Value
  acl : List Ac
  st : Stt
  other : Bool
def op7C (o : Op7) : List Value := [vint o.kind, vint o.n, vint o.m] ++ enC o.e ++ [vstr o.path, vstr o.data, o.aclV] ++ stC o.st ++ [.bool o.other]
structure OpA (p : HP) (o : Op7) : Prop where
  tx : TxA p o.e.x o.e.subs
  own : o.e.x.own ≤ 9223372036854775807
  nn : o.n ≤ 9223372036854775807
  acl : ∀ h : Hp, p h → rdS 2 h o.aclV o.acl.length (o.acl.flatMap acC)
  few : o.acl.length ≤ 1048576
  cell : isCell o.aclV = true
  plen : o.path.length ≤ 1048576
theorem OpA.all {p : HP} {o : Op7} (h : OpA p o) : ∀ v ∈ op7C o, isCell v = true := by
  intro v hv
  unfold op7C enC at hv
  simp only [List.append_assoc, List.mem_append] at hv
  rcases hv with hv | hv | hv | hv | hv | hv
  · simp at hv; rcases hv with rfl | rfl | rfl <;> rfl
  · simp at hv; rcases hv with rfl | rfl | rfl <;> rfl
  · exact h.tx.own.all v hv
  · simp at hv
    rcases hv with rfl | rfl | rfl
    · rfl
    · rfl
    · exact h.cell
  · simp [stC] at hv; rcases hv with rfl | rfl | rfl | rfl | rfl | rfl | rfl | rfl | rfl <;> rfl
  · simp at hv; subst hv; rfl
def stepZ (τ : Tr) (o : Op7) : Tr :=
  if o.kind = 1 then (applyZ τ o.e.zx o.e.x o.e.subs).1 else if o.kind = 7 then layZ τ o.path o.data o.acl o.st else if o.kind = 8 then layS τ o.n o.m o.data else if o.kind = 9 then zxT τ o.n else τ
theorem step_ok {p : HP} {o : Op7} {τ : Tr} {N : Nat} (h : τ.Ok N) (ho : OpA p o) : (stepZ τ o).Ok (N + (1 + o.e.subs.length)) := by
  unfold stepZ
  split
  · exact apply_ok h ho.tx
  · split
    · exact (h.layZ _ _ _ ho.few).more (by omega)
    · split
      · unfold layS
        split
        · rename_i g; exact (h.openS g _ _).more (by omega)
        · exact h.more (by omega)
      · split
        · exact (h.zx _).more (by omega)
        · exact h.more (by omega)
theorem step_sesB {p : HP} {o : Op7} {τ : Tr} (h : SesB τ) (ho : OpA p o) : SesB (stepZ τ o) := by
  unfold stepZ
  split
  · exact app_sesB h ho.own
  · split
    · unfold layZ; split <;> exact h
    · split
      · unfold layS
        split
        · intro y hy
          rcases sset_mem hy with rfl | hy
          · exact ho.nn
          · exact h y hy
        · exact h
      · split <;> exact h
theorem ses_neg {τ : Tr} {id : Int} (h : sesP τ id < 0) : sesD τ id = (0, []) ∧ ¬ sesT τ id := by
  have hn : id ∉ τ.sess.map (·.1) := by
    intro hm
    unfold sesP at h
    cases e : posK id (τ.sess.map (·.1)) with
    | none =>
      obtain ⟨x, hx, g⟩ := List.mem_map.1 hm
      have : posK id (τ.sess.map (·.1)) ≠ none := by
        intro e2
        clear h e
        revert e2 hm
        generalize τ.sess.map (·.1) = l
        intro hm
        induction l with
        | nil => cases hm
        | cons y l ih =>
          unfold posK
          split
          · simp
          · rcases List.mem_cons.1 hm with rfl | hm
            · rename_i g; exact absurd rfl g
            · simpa using ih hm
      exact this e
    | some i => rw [e] at h; dsimp only at h; omega
  have := al_none.2 hn
  unfold sesD sesT
  rw [this]
  exact ⟨rfl, by simp⟩
theorem ses_pos {τ : Tr} {N : Nat} (ho : τ.Ok N) {id : Int} (h : ¬ sesP τ id < 0) : ∃ k, ∃ hk : k < τ.sess.length, sesP τ id = k ∧ sesD τ id = τ.sess[k].2 ∧ sesT τ id := by
  unfold sesP at h ⊢
  cases e : posK id (τ.sess.map (·.1)) with
  | none => rw [e] at h; simp at h
  | some i =>
    obtain ⟨hi, h1, -⟩ := posK_get e
    rw [List.length_map] at hi
    rw [List.getElem_map] at h1
    have g : alook τ.sess τ.sess[i].1 = some τ.sess[i].2 := al_of_mem (ho.ssorted.nodup linI) (List.getElem_mem hi)
    rw [h1] at g
    refine ⟨i, hi, rfl, ?_, ?_⟩
    · unfold sesD; rw [g]; rfl
    · unfold sesT; rw [g]; rfl
def wtO (l : List Op7) : Nat := (l.map fun o => 1 + o.e.subs.length).sum
theorem wtO_step {l : List Op7} {i : Nat} (hi : i < l.length) : wtO (l.take (i + 1)) = wtO (l.take i) + (1 + l[i].e.subs.length) := by
  unfold wtO; rw [List.take_succ_eq_append_getElem hi, List.map_append, List.sum_append]; simp
theorem wtO_take {l : List Op7} (i : Nat) : wtO (l.take i) ≤ wtO l := by
  unfold wtO
  induction l generalizing i with
  | nil => simp
  | cons e l ih =>
    cases i with
    | zero => simp
    | succ i =>
      rw [List.take_succ_cons, List.map_cons, List.sum_cons, List.map_cons, List.sum_cons]
      have := ih i
      omega
structure OpsA (p : HP) (v : Value) (os : List Op7) : Prop where
  cells : ∀ h : Hp, p h → rdS 27 h v os.length (os.flatMap op7C)
  len : os.length ≤ 1048576
  each : ∀ o ∈ os, OpA p o
  total : wtO os ≤ 2097152
end Go.Proofs.YtnnbelmpbmfdnaaGreatDoor

/- Own work, by program: package tree: a tree and itself: walked. -/
namespace Go.Proofs.YtnnbelmpbmfdnaaGreatDoor
open Go
theorem Quiet.weak {P : Program} {o : Oper} {E : Env} {L R : List HP} {p q : HP} {v : Value} (hpq : ∀ h, p h → q h) (hL : Pick p L R) (hq : Quiet P o E (q :: R) v) : Quiet P o E L v :=
  fun ρ w ha hs => hq ρ w ha (sep_imp hpq (hs.pick hL))
set_option maxRecDepth 100000 in
theorem aclself_spec (va : Value) (xs : List Ac) (hn : xs.length ≤ 1048576) : Fn Tryz.prog 56 #[va, va] [rdO 2 va xs.length (xs.flatMap acC)] fun v L => v = .bool true ∧ L = [rdO 2 va xs.length (xs.flatMap acC)] := by
 refine Fn.intro (vs := [va, va]) Tryz.func56 rfl rfl ?_
 intro F W
 refine G.rdAny (p := rdO 2 va xs.length (xs.flatMap acC)) (fun h hp => hp) (by (repeat' constructor)) fun aa ca e0 _ => ?_
 subst e0
 refine G.seq (G.region (G.q (Quiet.assign rfl) rfl (G.nil (G.then_n (G.seq (G.seq (G.region (G.q (Quiet.move rfl) rfl (G.q (Quiet.slen rfl Tryz.underlying34 rfl) rfl (G.q (Quiet.move rfl) rfl (G.q (Quiet.slen rfl Tryz.underlying34 rfl) rfl (G.q (Quiet.int rfl rfl rfl) rfl (G.nil (G.then_n ?_))))))))))))))
 refine G.condN rfl (fun h10 => ?_) (fun h10 => ?_)
 ·omega
 ·refine G.skip (G.then_n (G.seq (G.seq (G.region (G.q (Quiet.move rfl) rfl (G.q (Quiet.slen rfl Tryz.underlying34 rfl) rfl (G.q (Quiet.move rfl) rfl (G.nil (G.then_n (G.block ?_))))))))))
  refine G.loopK (ι := Nat) (fun q E => (13, vint q) :: E) (fun q => []) (fun q => q ≤ xs.length) (fun q => xs.length - q) (0) (ts := [0, 1, 12]) (.cons rfl (.cons rfl (.cons rfl (.nil)))) (Nat.zero_le _) ⟨rfl, rfl, rfl, rfl, trivial⟩ (by (repeat' constructor)) ?_
  rintro i hi
  refine G.seq (G.region (G.q (Quiet.int rfl rfl rfl) rfl (G.nil (G.then_n (G.seq ?_)))))
  refine G.condD rfl (fun h14 => ?_) (fun h14 => ?_)
  ·have hi2 : i < xs.length := by omega
   refine G.rdShape (p := rdO 2 _ xs.length (xs.flatMap acC)) (fun h hp => hp) (by (repeat' constructor)) (by omega) fun ba oa e0 => ?_
   subst e0
   refine G.skip (G.then_n (G.seq (G.block (G.seq (G.region (G.q (Quiet.move rfl) rfl (G.q (Quiet.assign rfl) rfl (G.nil (G.then_n (G.seq ?_))))))))))
   refine G.draw [] [[0, 1, 2, 3, 4, 5, 6, 7, 8]] mixed (by kernel_rfl) ?_
   refine Phases.go [] (by (repeat' constructor)) ?_
   refine D.qw [2, 3, 8] rfl (by kernel_rfl) (Quiet.move rfl) ?_
   refine D.qw [2, 3, 8] rfl (by kernel_rfl) (Quiet.move rfl) ?_
   refine D.qw [3, 8] rfl (by kernel_rfl) (Quiet.indexAddr rfl rfl el_34 (by omega)) ?_
   refine D.qw [8] rfl (by kernel_rfl) (Quiet.loadRdA (sz := 2) (j := i * 2) (k := 2) (p := rdO 2 _ xs.length (xs.flatMap acC)) (vs := acC xs[i]) rfl ag_104 (by (repeat' constructor)) (fun h hp => hp) (by simp) (by omega) (by omega) (flatMap_at (f := acC) (sz := 2) (fun _ _ => rfl) (by omega))) ?_
   refine D.qw [6, 7, 8] rfl (by kernel_rfl) (Quiet.move rfl) ?_
   refine D.qw [6, 7, 8] rfl (by kernel_rfl) (Quiet.move rfl) ?_
   refine D.qw [7, 8] rfl (by kernel_rfl) (Quiet.indexAddr rfl rfl el_34 (by omega)) ?_
   refine D.qw [8] rfl (by kernel_rfl) (Quiet.loadRdA (sz := 2) (j := i * 2) (k := 2) (p := rdO 2 _ xs.length (xs.flatMap acC)) (vs := acC xs[i]) rfl ag_104 (by (repeat' constructor)) (fun h hp => hp) (by simp) (by omega) (by omega) (flatMap_at (f := acC) (sz := 2) (fun _ _ => rfl) (by omega))) ?_
   refine D.qw [] rfl (by kernel_rfl) (Quiet.as (v' := .bool false) (by simp) (Quiet.structNe (r := decide (xs[i] = xs[i])) rfl rfl (by kernel_rfl) (ac_eq 9998 _ _))) ?_
   refine D.ph (Phases.fin (G.then_n (G.condF rfl (G.skip (G.blk_n (G.then_n (G.region ?_)))))))
   refine G.q (Quiet.add rfl rfl (by omega)) rfl ?_
   refine G.q (Quiet.move rfl) rfl (G.nil (G.then_n ?_))
   exact G.roundK (i + 1) (by omega) (by omega) ⟨rfl, rfl, rfl, rfl, trivial⟩ (by (repeat' constructor)) (by ((repeat (apply Have.cons; (repeat (first | exact Pick.here | apply Pick.there)))); apply Have.base; repeat' constructor))
  ·refine G.exit (G.then_e (G.then_e (G.blk_e (G.then_n (G.seq (G.region (G.q (Quiet.assign rfl) rfl (G.nil (G.then_n (G.ret ?_))))))))))
   exact G.done (l := [.tmp 4]) rfl rfl ⟨rfl, rfl⟩ (by (repeat' constructor)) (by (repeat' constructor))

set_option maxRecDepth 100000 in
theorem trself1_spec (a : Bs) (px : Nm) (hn : px.2.2.acl.length ≤ 1048576) : Fn Tryz.prog 55 #[vptr px.1, vptr px.1] [inN (a, px)] fun v L => v = .bool true ∧ L = [inN (a, px)] := by
 refine Fn.intro (vs := [vptr px.1, vptr px.1]) Tryz.func55 rfl rfl ?_
 intro F W
 refine G.ndOpen (x := (a, px)) (by (repeat' constructor)) ?_
 refine G.seq (G.region (G.q (Quiet.assign rfl) rfl (G.nil (G.then_n (G.seq ?_)))))
 refine G.draw [] [[0, 1, 2, 3, 4, 5, 6, 7, 8, 9, 10, 11, 12, 13, 14, 15, 16, 17, 18, 19, 20, 21, 22, 23, 24, 25, 26, 27, 28, 29, 30, 31]] mixed (by kernel_rfl) ?_
 refine Phases.go [ptc px.1 _ _, rdO 2 px.2.1 _ _] (by (repeat' constructor)) ?_
 refine D.qw [1, 2, 3, 8, 9, 10, 11, 12, 13, 14, 15, 16, 17, 18, 19, 20, 21, 22, 23, 24, 25, 26, 27, 28, 29, 30, 31] rfl (by kernel_rfl) (Quiet.move rfl) ?_
 refine D.qw [2, 3, 8, 9, 10, 11, 12, 13, 14, 15, 16, 17, 18, 19, 20, 21, 22, 23, 24, 25, 26, 27, 28, 29, 30, 31] rfl (by kernel_rfl) (Quiet.nilp rfl) ?_
 refine D.qw [3, 8, 9, 10, 11, 12, 13, 14, 15, 16, 17, 18, 19, 20, 21, 22, 23, 24, 25, 26, 27, 28, 29, 30, 31] rfl (by kernel_rfl) (Quiet.fieldAddr rfl fo_106_0) ?_
 refine D.qw [8, 9, 10, 11, 12, 13, 14, 15, 16, 17, 18, 19, 20, 21, 22, 23, 24, 25, 26, 27, 28, 29, 30, 31] rfl (by kernel_rfl) (Quiet.load rfl ag_9 (by (repeat' constructor)) (rfl)) ?_
 refine D.qw [5, 6, 7, 8, 9, 10, 11, 12, 13, 14, 15, 16, 17, 18, 19, 20, 21, 22, 23, 24, 25, 26, 27, 28, 29, 30, 31] rfl (by kernel_rfl) (Quiet.move rfl) ?_
 refine D.qw [6, 7, 8, 9, 10, 11, 12, 13, 14, 15, 16, 17, 18, 19, 20, 21, 22, 23, 24, 25, 26, 27, 28, 29, 30, 31] rfl (by kernel_rfl) (Quiet.nilp rfl) ?_
 refine D.qw [7, 8, 9, 10, 11, 12, 13, 14, 15, 16, 17, 18, 19, 20, 21, 22, 23, 24, 25, 26, 27, 28, 29, 30, 31] rfl (by kernel_rfl) (Quiet.fieldAddr rfl fo_106_0) ?_
 refine D.qw [8, 9, 10, 11, 12, 13, 14, 15, 16, 17, 18, 19, 20, 21, 22, 23, 24, 25, 26, 27, 28, 29, 30, 31] rfl (by kernel_rfl) (Quiet.load rfl ag_9 (by (repeat' constructor)) (rfl)) ?_
 refine D.qw [9, 10, 11, 12, 13, 14, 15, 16, 17, 18, 19, 20, 21, 22, 23, 24, 25, 26, 27, 28, 29, 30, 31] rfl (by kernel_rfl) (Quiet.as (v' := .bool true) (by simp) (Quiet.streq rfl rfl)) ?_
 refine D.qw [10, 11, 12, 13, 14, 15, 16, 17, 18, 19, 20, 21, 22, 23, 24, 25, 26, 27, 28, 29, 30, 31] rfl (by kernel_rfl) (Quiet.move rfl) ?_
 refine D.gqw [11, 12, 13, 18, 19, 20, 21, 22, 23, 24, 25, 26, 27, 28, 29, 30, 31] (t := 14) rfl rfl rfl (by kernel_rfl) (Quiet.move rfl) ?_
 refine D.gqw [12, 13, 18, 19, 20, 21, 22, 23, 24, 25, 26, 27, 28, 29, 30, 31] (t := 14) rfl rfl rfl (by kernel_rfl) (Quiet.nilp rfl) ?_
 refine D.gqw [13, 18, 19, 20, 21, 22, 23, 24, 25, 26, 27, 28, 29, 30, 31] (t := 14) rfl rfl rfl (by kernel_rfl) (Quiet.fieldAddr rfl fo_106_2) ?_
 refine D.gqw [18, 19, 20, 21, 22, 23, 24, 25, 26, 27, 28, 29, 30, 31] (t := 14) rfl rfl rfl (by kernel_rfl) (Quiet.loadAs (vs := stC px.2.2.st) rfl ag_43 (by (repeat' constructor)) (by simp [ndC]) rfl) ?_
 refine D.gqw [15, 16, 17, 18, 19, 20, 21, 22, 23, 24, 25, 26, 27, 28, 29, 30, 31] (t := 14) rfl rfl rfl (by kernel_rfl) (Quiet.move rfl) ?_
 refine D.gqw [16, 17, 18, 19, 20, 21, 22, 23, 24, 25, 26, 27, 28, 29, 30, 31] (t := 14) rfl rfl rfl (by kernel_rfl) (Quiet.nilp rfl) ?_
 refine D.gqw [17, 18, 19, 20, 21, 22, 23, 24, 25, 26, 27, 28, 29, 30, 31] (t := 14) rfl rfl rfl (by kernel_rfl) (Quiet.fieldAddr rfl fo_106_2) ?_
 refine D.gqw [18, 19, 20, 21, 22, 23, 24, 25, 26, 27, 28, 29, 30, 31] (t := 14) rfl rfl rfl (by kernel_rfl) (Quiet.loadAs (vs := stC px.2.2.st) rfl ag_43 (by (repeat' constructor)) (by simp [ndC]) rfl) ?_
 refine D.gqw [19, 20, 21, 22, 23, 24, 25, 26, 27, 28, 29, 30, 31] (t := 14) rfl rfl rfl (by kernel_rfl) (Quiet.as (v' := .bool true) (by simp) (Quiet.structEq (r := decide (px.2.2.st = px.2.2.st)) rfl rfl (by kernel_rfl) (st_eq 9998 _ _))) ?_
 refine D.qw [20, 21, 22, 23, 24, 25, 26, 27, 28, 29, 30, 31] rfl (by kernel_rfl) (Quiet.pickT rfl rfl) ?_
 refine D.qw [21, 22, 23, 24, 25, 26, 27, 28, 29, 30, 31] rfl (by kernel_rfl) (Quiet.move rfl) ?_
 refine D.gqw [22, 23, 24, 29, 30, 31] (t := 25) rfl rfl rfl (by kernel_rfl) (Quiet.move rfl) ?_
 refine D.gqw [23, 24, 29, 30, 31] (t := 25) rfl rfl rfl (by kernel_rfl) (Quiet.nilp rfl) ?_
 refine D.gqw [24, 29, 30, 31] (t := 25) rfl rfl rfl (by kernel_rfl) (Quiet.fieldAddr rfl fo_106_1) ?_
 refine D.gqw [29, 30, 31] (t := 25) rfl rfl rfl (by kernel_rfl) (Quiet.load rfl ag_34 (by (repeat' constructor)) (rfl)) ?_
 refine D.gqw [26, 27, 28, 29, 30, 31] (t := 25) rfl rfl rfl (by kernel_rfl) (Quiet.move rfl) ?_
 refine D.gqw [27, 28, 29, 30, 31] (t := 25) rfl rfl rfl (by kernel_rfl) (Quiet.nilp rfl) ?_
 refine D.gqw [28, 29, 30, 31] (t := 25) rfl rfl rfl (by kernel_rfl) (Quiet.fieldAddr rfl fo_106_1) ?_
 refine D.gqw [29, 30, 31] (t := 25) rfl rfl rfl (by kernel_rfl) (Quiet.load rfl ag_34 (by (repeat' constructor)) (rfl)) ?_
 refine D.gm (t := 25) rfl rfl rfl (by kernel_rfl) (OpSpec.call Tryz.func56 rfl rfl (vs := [_, _]) rfl (aclself_spec px.2.1 px.2.2.acl hn)) (by (repeat' constructor)) ?nx28
 refine D.qw [31] rfl (by kernel_rfl) (Quiet.pickT rfl rfl) ?_
 refine D.qw [] rfl (by kernel_rfl) (Quiet.assign rfl) ?_
 refine D.ph (Phases.fin (G.then_n (G.ret ?_)))
 refine G.ndFold (x := (a, px)) (by (repeat' constructor)) rfl rfl rfl rfl ?_
 exact G.done (l := [.tmp 4]) rfl rfl ⟨rfl, rfl⟩ (by (repeat' constructor)) (by (repeat' constructor))

set_option maxRecDepth 100000 in
theorem mapself_spec (r1 : Nat) (s1 : SsM) (hn1 : (s1.map (·.1)).Nodup) : Fn Tryz.prog 53 #[.map (some r1), .map (some r1)] [mapR r1 (ssE s1)] fun v L => v = .bool true ∧ L = [mapR r1 (ssE s1)] := by
 refine Fn.intro (vs := [.map (some r1), .map (some r1)]) Tryz.func53 rfl rfl ?_
 intro F W
 refine G.seq (G.region (G.q (Quiet.assign rfl) rfl (G.nil (G.then_n (G.seq (G.seq (G.region (G.q (Quiet.move rfl) rfl ?_))))))))
 refine G.q (Quiet.to (Quiet.maplen rfl Tryz.underlying108 rfl (by (repeat' constructor))) (show _ = vint s1.length by simp [ssE])) rfl ?_
 refine G.q (Quiet.move rfl) rfl ?_
 refine G.q (Quiet.to (Quiet.maplen rfl Tryz.underlying108 rfl (by (repeat' constructor))) (show _ = vint s1.length by simp [ssE])) rfl ?_
 refine G.q (Quiet.int rfl rfl rfl) rfl (G.nil (G.then_n ?_))
 refine G.condN rfl (fun h13 => ?_) (fun h13 => ?_)
 ·omega
 ·refine G.skip (G.then_n (G.seq (G.seq (G.region (G.q (Quiet.move rfl) rfl ?_)))))
  refine G.op (OpSpec.range (f := fun x : Int × (Int × Bs) => (vint x.1, ssV x.2)) (m := s1) rfl Tryz.underlying108 ?he8) (by (repeat' constructor)) rfl ?nx9
  case he8 => rfl
  rintro v L' ⟨it, rfl, rfl⟩
  refine G.nil (G.then_n (G.block ?_))
  refine G.loopK (ι := SsM) (fun q E => E) (fun q => [rangeR (fun x : Int × (Int × Bs) => (vint x.1, ssV x.2)) it r1 s1 q]) (fun q => ∃ rest, s1.Perm (q ++ rest)) (fun q => s1.length - q.length) ([]) (ts := [1, 15]) (.cons rfl (.cons rfl (.nil))) (⟨s1, .refl _⟩) ⟨rfl, rfl, trivial⟩ (by (repeat' constructor)) ?_
  rintro ss ⟨rest, hm⟩
  have hml := hm.length_eq
  rw [List.length_append] at hml
  refine G.seq (G.region ?_)
  refine G.op (OpSpec.next rfl) (by (repeat' constructor)) rfl ?nx11
  rintro v L' (⟨rfl, hp4, rfl⟩ | ⟨x, rest4, rfl, hp4, rfl⟩)
  ·refine G.rangeDone (by (repeat' constructor)) ?_
   refine G.q (Quiet.extract rfl rfl) rfl (G.nil (G.then_n (G.seq (G.condF rfl (G.exit (G.then_e (G.then_e (G.blk_e (G.then_n (G.seq (G.region (G.q (Quiet.assign rfl) rfl (G.nil (G.then_n (G.ret ?_)))))))))))))))
   exact G.done (l := [.tmp 4]) rfl rfl ⟨rfl, rfl⟩ (by (repeat' constructor)) (by (repeat' constructor))
  ·refine G.q (Quiet.extract rfl rfl) rfl (G.nil (G.then_n (G.seq (G.condT rfl (G.skip (G.then_n (G.block (G.seq (G.region ?_)))))))))
   refine G.q (Quiet.entryE (v := .tuple #[vint x.1, ssV x.2]) rfl (by (repeat' constructor)) rfl) rfl ?_
   refine G.q (Quiet.extract rfl rfl) rfl (G.q (Quiet.extract rfl rfl) rfl ?_)
   refine G.op (OpSpec.allocA ze_112) (by (repeat' constructor)) rfl ?nx20
   rintro v L' ⟨b6, rfl, rfl⟩
   refine G.q (Quiet.assign rfl) rfl ?_
   refine G.op (OpSpec.storeA (vs := [vint x.2.1, vstr x.2.2]) rfl rfl ?c122 sz_112 rfl ?c223 ?c324) (by (repeat' constructor)) rfl ?nx25
   case c122 => (first | (simp [isCell]; done) | (simp [isCell, setAll, Value.cells]; done))
   case c223 => (first | (simp; done) | (simp [setAll, spl, Value.cells]; done))
   case c324 => exact nfz0 _ _
   rintro v L' rfl
   refine G.nil ?_
   refine G.ptCast (b := b6) (l' := [vint x.2.1, vstr x.2.2]) (by (repeat' constructor)) rfl ?_
   have hxm : x ∈ s1 := hp4.mem_iff.2 (by simp)
   have hx1 := al_of_mem (k := x.1) (b := x.2) hn1 hxm
   refine G.then_n (G.seq (G.region (G.q (Quiet.move rfl) rfl (G.q (Quiet.move rfl) rfl ?_))))
   refine G.q (Quiet.weak (fun h hp => rangeR_map hp) (by (repeat' constructor)) (Quiet.lookupOkY (m := s1) (enc := ssV) (KeyLaw.int Tryz.underlying3) hx1 rfl rfl Tryz.underlying108 ze_112 .here rfl)) rfl ?_
   refine G.q (Quiet.move rfl) rfl (G.q (Quiet.extract rfl rfl) rfl (G.q (Quiet.extract rfl rfl) rfl ?_))
   refine G.op (OpSpec.allocA ze_112) (by (repeat' constructor)) rfl ?nx30
   rintro v L' ⟨b7, rfl, rfl⟩
   refine G.op (OpSpec.storeA (vs := [vint x.2.1, vstr x.2.2]) rfl rfl ?c132 sz_112 rfl ?c233 ?c334) (by (repeat' constructor)) rfl ?nx35
   case c132 => (first | (simp [isCell]; done) | (simp [isCell, setAll, Value.cells]; done))
   case c233 => (first | (simp; done) | (simp [setAll, spl, Value.cells]; done))
   case c334 => exact nfz0 _ _
   rintro v L' rfl
   refine G.q (Quiet.assign rfl) rfl (G.nil ?_)
   refine G.ptCast (b := b7) (l' := [vint x.2.1, vstr x.2.2]) (by (repeat' constructor)) rfl ?_
   refine G.then_n (G.seq (G.region (G.q (Quiet.move rfl) rfl (G.q (Quiet.not rfl) rfl (G.q (Quiet.move rfl) rfl (G.grun (t := 29) rfl rfl rfl ?_))))))
   refine G.q (Quiet.loadAs (vs := [vint x.2.1, vstr x.2.2]) rfl ag_112 (by (repeat' constructor)) (by simp) rfl) rfl ?_
   refine G.grun (t := 29) rfl rfl rfl ?_
   refine G.q (Quiet.loadAs (vs := [vint x.2.1, vstr x.2.2]) rfl ag_112 (by (repeat' constructor)) (by simp) rfl) rfl ?_
   refine G.grun (t := 29) rfl rfl rfl ?_
   refine G.q (Quiet.as (v' := .bool false) (by simp) (Quiet.structNe (r := decide (x.2 = x.2)) rfl rfl (by kernel_rfl) (ss_eq 9998 x.2 x.2))) rfl ?_
   refine G.q (Quiet.pickF rfl rfl) rfl (G.nil (G.then_n (G.condF rfl (G.skip (G.blk_n (G.then_n ?_))))))
   have hl := hp4.length_eq
   simp at hl
   exact G.roundK ((ss ++ [x])) (⟨_, by simpa using hp4⟩) (by simp; omega) ⟨rfl, rfl, trivial⟩ (by (repeat' constructor)) (by ((repeat (apply Have.cons; (repeat (first | exact Pick.here | apply Pick.there)))); apply Have.base; repeat' constructor))

set_option maxRecDepth 100000 in
theorem mapselff_spec (r1 : Nat) (m1 : NmM) (hn1 : (m1.map (·.1)).Nodup) (hacl : ∀ x ∈ m1, x.2.2.2.acl.length ≤ 1048576) : Fn Tryz.prog 54 #[.map (some r1), .map (some r1), .func (.func 55) #[] #[]] [mapR r1 (ndE m1), bigR inN m1] fun v L => v = .bool true ∧ L = [mapR r1 (ndE m1), bigR inN m1] := by
 refine Fn.intro (vs := [.map (some r1), .map (some r1), .func (.func 55) #[] #[]]) Tryz.func54 rfl rfl ?_
 intro F W
 refine G.seq (G.region (G.q (Quiet.assign rfl) rfl (G.nil (G.then_n (G.seq (G.seq (G.region (G.q (Quiet.move rfl) rfl ?_))))))))
 refine G.q (Quiet.to (Quiet.maplen rfl Tryz.underlying107 rfl (by (repeat' constructor))) (show _ = vint m1.length by simp [ndE])) rfl ?_
 refine G.q (Quiet.move rfl) rfl ?_
 refine G.q (Quiet.to (Quiet.maplen rfl Tryz.underlying107 rfl (by (repeat' constructor))) (show _ = vint m1.length by simp [ndE])) rfl ?_
 refine G.q (Quiet.int rfl rfl rfl) rfl (G.nil (G.then_n ?_))
 refine G.condN rfl (fun h15 => ?_) (fun h15 => ?_)
 ·omega
 ·refine G.skip (G.then_n (G.seq (G.seq (G.region (G.q (Quiet.move rfl) rfl ?_)))))
  refine G.op (OpSpec.range (f := fun x : Bs × Nm => (vstr x.1, ndV x.2)) (m := m1) rfl Tryz.underlying107 ?he8) (by (repeat' constructor)) rfl ?nx9
  case he8 => rfl
  rintro v L' ⟨it, rfl, rfl⟩
  refine G.nil (G.then_n (G.block ?_))
  refine G.loopK (ι := NmM) (fun q E => E) (fun q => [rangeR (fun x : Bs × Nm => (vstr x.1, ndV x.2)) it r1 m1 q]) (fun q => ∃ rest, m1.Perm (q ++ rest)) (fun q => m1.length - q.length) ([]) (ts := [1, 2, 17]) (.cons rfl (.cons rfl (.cons rfl (.nil)))) (⟨m1, .refl _⟩) ⟨rfl, rfl, rfl, trivial⟩ (by (repeat' constructor)) ?_
  rintro ss ⟨rest, hm⟩
  have hml := hm.length_eq
  rw [List.length_append] at hml
  refine G.seq (G.region ?_)
  refine G.op (OpSpec.next rfl) (by (repeat' constructor)) rfl ?nx11
  rintro v L' (⟨rfl, hp4, rfl⟩ | ⟨x, rest4, rfl, hp4, rfl⟩)
  ·refine G.rangeDone (by (repeat' constructor)) ?_
   refine G.q (Quiet.extract rfl rfl) rfl (G.nil (G.then_n (G.seq (G.condF rfl (G.exit (G.then_e (G.then_e (G.blk_e (G.then_n (G.seq (G.region (G.q (Quiet.assign rfl) rfl (G.nil (G.then_n (G.ret ?_)))))))))))))))
   exact G.done (l := [.tmp 6]) rfl rfl ⟨rfl, rfl⟩ (by (repeat' constructor)) (by (repeat' constructor))
  ·refine G.q (Quiet.extract rfl rfl) rfl (G.nil (G.then_n (G.seq (G.condT rfl (G.skip (G.then_n (G.block (G.seq (G.region ?_)))))))))
   refine G.q (Quiet.entryE (v := .tuple #[vstr x.1, ndV x.2]) rfl (by (repeat' constructor)) rfl) rfl ?_
   refine G.q (Quiet.extract rfl rfl) rfl (G.q (Quiet.extract rfl rfl) rfl (G.q (Quiet.assign rfl) rfl (G.q (Quiet.assign rfl) rfl (G.nil ?_))))
   have hxm : x ∈ m1 := hp4.mem_iff.2 (by simp)
   have hx1 := al_of_mem (k := x.1) (b := x.2) hn1 hxm
   refine G.then_n (G.seq (G.region (G.q (Quiet.move rfl) rfl (G.q (Quiet.move rfl) rfl ?_))))
   refine G.q (Quiet.weak (fun h hp => rangeR_map hp) (by (repeat' constructor)) (Quiet.lookupOkY (m := m1) (enc := ndV) (KeyLaw.str Tryz.underlying9) hx1 rfl rfl Tryz.underlying107 ze_102 .here rfl)) rfl ?_
   refine G.q (Quiet.move rfl) rfl (G.q (Quiet.extract rfl rfl) rfl (G.q (Quiet.extract rfl rfl) rfl (G.q (Quiet.assign rfl) rfl (G.q (Quiet.assign rfl) rfl (G.nil (G.then_n (G.seq (G.region (G.q (Quiet.move rfl) rfl (G.q (Quiet.not rfl) rfl (G.q (Quiet.move rfl) rfl ?_)))))))))))
   refine G.bigTake hx1 (by (repeat' constructor)) ?_
   refine G.grun (t := 31) rfl rfl rfl (G.q (Quiet.move rfl) rfl (G.grun (t := 31) rfl rfl rfl (G.q (Quiet.move rfl) rfl (G.grun (t := 31) rfl rfl rfl (G.q (Quiet.move rfl) rfl (G.grun (t := 31) rfl rfl rfl ?_))))))
   refine G.op (OpSpec.callV Tryz.func55 rfl rfl (us := []) (vs := [_, _]) (ws := []) rfl rfl (trself1_spec x.1 x.2 (hacl _ hxm))) (by (repeat' constructor)) rfl ?nx26
   rintro v L' ⟨rfl, rfl⟩
   refine G.bigPut (f := inN) (m := m1) x.1 x.2 rfl (by (repeat' constructor)) ?_
   rw [aset_self hx1]
   refine G.grun (t := 31) rfl rfl rfl (G.q (Quiet.not rfl) rfl (G.q (Quiet.pickF rfl rfl) rfl (G.nil (G.then_n (G.condF rfl (G.skip (G.blk_n (G.then_n ?_))))))))
   have hl := hp4.length_eq
   simp at hl
   exact G.roundK ((ss ++ [x])) (⟨_, by simpa using hp4⟩) (by simp; omega) ⟨rfl, rfl, rfl, trivial⟩ (by (repeat' constructor)) (by ((repeat (apply Have.cons; (repeat (first | exact Pick.here | apply Pick.there)))); apply Have.base; repeat' constructor))

set_option maxRecDepth 100000 in
theorem trself_spec (t : Nat) (τ : Tr) (N : Nat) (ho : τ.Ok N) : Fn Tryz.prog 23 #[vptr t, vptr t] [treeR t τ] fun v L => v = .bool true ∧ L = [treeR t τ] := by
 refine Fn.intro (vs := [vptr t, vptr t]) Tryz.func23 rfl rfl ?_
 intro F W
 refine G.trOpen (τ := τ) (by (repeat' constructor)) fun rn rs m s hI => ?_
 refine G.seq (G.region (G.q (Quiet.assign rfl) rfl (G.nil (G.then_n (G.seq ?_)))))
 refine G.draw [22, 33] [[0, 1, 2, 3, 4, 5, 6, 7, 8, 9, 10, 11, 12, 13, 14, 15, 16, 17, 18, 19, 20, 21, 22], [23, 24, 25, 26, 27, 28, 29, 30, 31, 32, 33], [34, 35]] mixed (by kernel_rfl) ?_
 refine Phases.go [] (by (repeat' constructor)) ?_
 refine D.qw [1, 2, 3, 4, 5, 6, 7, 8, 9, 10, 11, 12, 13, 14, 15, 16, 17, 18, 19, 20, 21, 22] rfl (by kernel_rfl) (Quiet.move rfl) ?_
 refine D.qw [2, 3, 4, 5, 6, 7, 8, 9, 10, 11, 12, 13, 14, 15, 16, 17, 18, 19, 20, 21, 22] rfl (by kernel_rfl) (Quiet.as (v' := .bool true) (by rfl) (Quiet.ptrne rfl rfl Tryz.underlying28)) ?_
 refine D.qw [3, 4, 5, 6, 7, 8, 9, 10, 11, 12, 13, 14, 15, 16, 17, 18, 19, 20, 21, 22] rfl (by kernel_rfl) (Quiet.move rfl) ?_
 refine D.gqw [4, 5, 6, 11, 12, 13, 14, 15, 16, 17, 18, 19, 20, 21, 22] (t := 7) rfl rfl rfl (by kernel_rfl) (Quiet.move rfl) ?_
 refine D.gqw [5, 6, 11, 12, 13, 14, 15, 16, 17, 18, 19, 20, 21, 22] (t := 7) rfl rfl rfl (by kernel_rfl) (Quiet.nilp rfl) ?_
 refine D.gqw [6, 11, 12, 13, 14, 15, 16, 17, 18, 19, 20, 21, 22] (t := 7) rfl rfl rfl (by kernel_rfl) (Quiet.fieldAddr rfl fo_110_2) ?_
 refine D.gqw [11, 12, 13, 14, 15, 16, 17, 18, 19, 20, 21, 22] (t := 7) rfl rfl rfl (by kernel_rfl) (Quiet.load rfl ag_3 (by (repeat' constructor)) (rfl)) ?_
 refine D.gqw [8, 9, 10, 11, 12, 13, 14, 15, 16, 17, 18, 19, 20, 21, 22] (t := 7) rfl rfl rfl (by kernel_rfl) (Quiet.move rfl) ?_
 refine D.gqw [9, 10, 11, 12, 13, 14, 15, 16, 17, 18, 19, 20, 21, 22] (t := 7) rfl rfl rfl (by kernel_rfl) (Quiet.nilp rfl) ?_
 refine D.gqw [10, 11, 12, 13, 14, 15, 16, 17, 18, 19, 20, 21, 22] (t := 7) rfl rfl rfl (by kernel_rfl) (Quiet.fieldAddr rfl fo_110_2) ?_
 refine D.gqw [11, 12, 13, 14, 15, 16, 17, 18, 19, 20, 21, 22] (t := 7) rfl rfl rfl (by kernel_rfl) (Quiet.load rfl ag_3 (by (repeat' constructor)) (rfl)) ?_
 refine D.gqw [12, 13, 14, 15, 16, 17, 18, 19, 20, 21, 22] (t := 7) rfl rfl rfl (by kernel_rfl) (Quiet.as (v' := .bool true) (by simp) (Quiet.int rfl rfl rfl)) ?_
 refine D.qw [13, 14, 15, 16, 17, 18, 19, 20, 21, 22] rfl (by kernel_rfl) (Quiet.pickT rfl rfl) ?_
 refine D.qw [14, 15, 16, 17, 18, 19, 20, 21, 22] rfl (by kernel_rfl) (Quiet.move rfl) ?_
 refine D.gqw [15, 16, 17, 22] (t := 18) rfl rfl rfl (by kernel_rfl) (Quiet.move rfl) ?_
 refine D.gqw [16, 17, 22] (t := 18) rfl rfl rfl (by kernel_rfl) (Quiet.nilp rfl) ?_
 refine D.gqw [17, 22] (t := 18) rfl rfl rfl (by kernel_rfl) (Quiet.fieldAddr rfl fo_110_1) ?_
 refine D.gqw [22] (t := 18) rfl rfl rfl (by kernel_rfl) (Quiet.load rfl ag_108 (by (repeat' constructor)) (rfl)) ?_
 refine D.gqw [19, 20, 21, 22] (t := 18) rfl rfl rfl (by kernel_rfl) (Quiet.move rfl) ?_
 refine D.gqw [20, 21, 22] (t := 18) rfl rfl rfl (by kernel_rfl) (Quiet.nilp rfl) ?_
 refine D.gqw [21, 22] (t := 18) rfl rfl rfl (by kernel_rfl) (Quiet.fieldAddr rfl fo_110_1) ?_
 refine D.gqw [22] (t := 18) rfl rfl rfl (by kernel_rfl) (Quiet.load rfl ag_108 (by (repeat' constructor)) (rfl)) ?_
 refine D.gh (t := 18) rfl rfl rfl (by kernel_rfl) (OpSpec.call Tryz.func53 rfl rfl (vs := [_, _]) rfl (mapself_spec rs s hI.skeys)) (by (repeat' constructor)) ?nx21
 rintro v L' ⟨rfl, rfl⟩
 refine D.ph ?_
 refine Phases.go [] (by (repeat' constructor)) ?_
 refine D.qw [24, 25, 26, 27, 28, 29, 30, 31, 32, 33] rfl (by kernel_rfl) (Quiet.pickT rfl rfl) ?_
 refine D.qw [25, 26, 27, 28, 29, 30, 31, 32, 33] rfl (by kernel_rfl) (Quiet.move rfl) ?_
 refine D.gqw [26, 27, 28, 33] (t := 29) rfl rfl rfl (by kernel_rfl) (Quiet.move rfl) ?_
 refine D.gqw [27, 28, 33] (t := 29) rfl rfl rfl (by kernel_rfl) (Quiet.nilp rfl) ?_
 refine D.gqw [28, 33] (t := 29) rfl rfl rfl (by kernel_rfl) (Quiet.fieldAddr rfl fo_110_0) ?_
 refine D.gqw [33] (t := 29) rfl rfl rfl (by kernel_rfl) (Quiet.load rfl ag_107 (by (repeat' constructor)) (rfl)) ?_
 refine D.gqw [30, 31, 32, 33] (t := 29) rfl rfl rfl (by kernel_rfl) (Quiet.move rfl) ?_
 refine D.gqw [31, 32, 33] (t := 29) rfl rfl rfl (by kernel_rfl) (Quiet.nilp rfl) ?_
 refine D.gqw [32, 33] (t := 29) rfl rfl rfl (by kernel_rfl) (Quiet.fieldAddr rfl fo_110_0) ?_
 refine D.gqw [33] (t := 29) rfl rfl rfl (by kernel_rfl) (Quiet.load rfl ag_107 (by (repeat' constructor)) (rfl)) ?_
 refine D.gh (t := 29) rfl rfl rfl (by kernel_rfl) (OpSpec.call Tryz.func54 rfl rfl (vs := [_, _, _]) rfl (mapselff_spec rn m hI.keys (fun x hx => hI.acl ho (al_of_mem (k := x.1) (b := x.2) hI.keys hx)))) (by (repeat' constructor)) ?nx31
 rintro v L' ⟨rfl, rfl⟩
 refine D.ph ?_
 refine Phases.go [] (by (repeat' constructor)) ?_
 refine D.qw [35] rfl (by kernel_rfl) (Quiet.pickT rfl rfl) ?_
 refine D.qw [] rfl (by kernel_rfl) (Quiet.assign rfl) ?_
 refine D.ph (Phases.fin (G.then_n (G.ret ?_)))
 refine G.trFold (τ := τ) hI (by (repeat' constructor)) rfl rfl rfl ?_
 exact G.done (l := [.tmp 4]) rfl rfl ⟨rfl, rfl⟩ (by (repeat' constructor)) (by (repeat' constructor))

set_option maxRecDepth 100000 in
theorem trsamenil_spec (t : Nat) : Fn Tryz.prog 23 #[vptr t, .pointer none] [] fun v L => v = .bool false ∧ L = [] := by
 refine Fn.intro (vs := [vptr t, .pointer none]) Tryz.func23 rfl rfl ?_
 intro F W
 refine G.seq (G.region (G.q (Quiet.assign rfl) rfl (G.nil (G.then_n (G.seq ?_)))))
 refine G.draw [22, 33] [[0, 1, 2, 3, 4, 5, 6, 7, 8, 9, 10, 11, 12, 13, 14, 15, 16, 17, 18, 19, 20, 21, 22], [23, 24, 25, 26, 27, 28, 29, 30, 31, 32, 33], [34, 35]] mixed (by kernel_rfl) ?_
 refine Phases.go [] (by (repeat' constructor)) ?_
 refine D.qw [1, 2, 3, 4, 5, 6, 7, 8, 9, 10, 11, 12, 13, 14, 15, 16, 17, 18, 19, 20, 21, 22] rfl (by kernel_rfl) (Quiet.move rfl) ?_
 refine D.qw [2, 3, 4, 5, 6, 7, 8, 9, 10, 11, 12, 13, 14, 15, 16, 17, 18, 19, 20, 21, 22] rfl (by kernel_rfl) (Quiet.as (v' := .bool false) (by rfl) (Quiet.ptrne rfl rfl Tryz.underlying28)) ?_
 refine D.qw [3, 4, 5, 6, 7, 8, 9, 10, 11, 12, 13, 14, 15, 16, 17, 18, 19, 20, 21, 22] rfl (by kernel_rfl) (Quiet.move rfl) ?_
 refine D.gs (t := 7) rfl rfl rfl rfl (by kernel_rfl) ?_
 refine D.gs (t := 7) rfl rfl rfl rfl (by kernel_rfl) ?_
 refine D.gs (t := 7) rfl rfl rfl rfl (by kernel_rfl) ?_
 refine D.gs (t := 7) rfl rfl rfl rfl (by kernel_rfl) ?_
 refine D.gs (t := 7) rfl rfl rfl rfl (by kernel_rfl) ?_
 refine D.gs (t := 7) rfl rfl rfl rfl (by kernel_rfl) ?_
 refine D.gs (t := 7) rfl rfl rfl rfl (by kernel_rfl) ?_
 refine D.gs (t := 7) rfl rfl rfl rfl (by kernel_rfl) ?_
 refine D.gs (t := 7) rfl rfl rfl rfl (by kernel_rfl) ?_
 refine D.qw [13, 14, 15, 16, 17, 18, 19, 20, 21, 22] rfl (by kernel_rfl) (Quiet.pickF rfl rfl) ?_
 refine D.qw [14, 15, 16, 17, 18, 19, 20, 21, 22] rfl (by kernel_rfl) (Quiet.move rfl) ?_
 refine D.gs (t := 18) rfl rfl rfl rfl (by kernel_rfl) ?_
 refine D.gs (t := 18) rfl rfl rfl rfl (by kernel_rfl) ?_
 refine D.gs (t := 18) rfl rfl rfl rfl (by kernel_rfl) ?_
 refine D.gs (t := 18) rfl rfl rfl rfl (by kernel_rfl) ?_
 refine D.gs (t := 18) rfl rfl rfl rfl (by kernel_rfl) ?_
 refine D.gs (t := 18) rfl rfl rfl rfl (by kernel_rfl) ?_
 refine D.gs (t := 18) rfl rfl rfl rfl (by kernel_rfl) ?_
 refine D.gs (t := 18) rfl rfl rfl rfl (by kernel_rfl) ?_
 refine D.gs (t := 18) rfl rfl rfl rfl (by kernel_rfl) ?_
 refine D.ph ?_
 refine Phases.go [] (by (repeat' constructor)) ?_
 refine D.qw [24, 25, 26, 27, 28, 29, 30, 31, 32, 33] rfl (by kernel_rfl) (Quiet.pickF rfl rfl) ?_
 refine D.qw [25, 26, 27, 28, 29, 30, 31, 32, 33] rfl (by kernel_rfl) (Quiet.move rfl) ?_
 refine D.gs (t := 29) rfl rfl rfl rfl (by kernel_rfl) ?_
 refine D.gs (t := 29) rfl rfl rfl rfl (by kernel_rfl) ?_
 refine D.gs (t := 29) rfl rfl rfl rfl (by kernel_rfl) ?_
 refine D.gs (t := 29) rfl rfl rfl rfl (by kernel_rfl) ?_
 refine D.gs (t := 29) rfl rfl rfl rfl (by kernel_rfl) ?_
 refine D.gs (t := 29) rfl rfl rfl rfl (by kernel_rfl) ?_
 refine D.gs (t := 29) rfl rfl rfl rfl (by kernel_rfl) ?_
 refine D.gs (t := 29) rfl rfl rfl rfl (by kernel_rfl) ?_
 refine D.gs (t := 29) rfl rfl rfl rfl (by kernel_rfl) ?_
 refine D.ph ?_
 refine Phases.go [] (by (repeat' constructor)) ?_
 refine D.qw [35] rfl (by kernel_rfl) (Quiet.pickF rfl rfl) ?_
 refine D.qw [] rfl (by kernel_rfl) (Quiet.assign rfl) ?_
 refine D.ph (Phases.fin (G.then_n (G.ret ?_)))
 exact G.done (l := [.tmp 4]) rfl rfl ⟨rfl, rfl⟩ (by (repeat' constructor)) (by (repeat' constructor))

end Go.Proofs.YtnnbelmpbmfdnaaGreatDoor

/-
  DERIVED: THE SHELF's CONTRACTS AT THIS DUMP, IN PLAIN WORDS (tools/lay-plain.mjs out of 'YtnnbelmpbmfdnaaGreatDoorLayC.lean', which tools/lay-shelf.mjs wrote): THE SAME DECLARATIONS UNDER THE SAME NAMES: 'import', 'namespace', 'open', 'def', 'theorem' AND NOTHING ELSE: no command of the shelf's: FOR A HAND-IN. Each laying: the table of numbers ('.._ren') and one theorem, a field a fact of the dump's own or the kernel's comparison; each contract: ONE APPLICATION.
-/

namespace Go.Proofs
open Go.Shelf
def Tryz.cloneI_ren : Go.Shelf.Ren := ⟨fun | 5 => 57 | 7 => 102 | n => n, fun | 23 => 108 | 25 => 3 | 3 => 112 | 4 => 4 | 20 => 20 | n => n, fun | n => n⟩
theorem Tryz.cloneI : Go.Proofs.SlLaysW.n5 Tryz.prog Tryz.cloneI_ren := {
  mixed := by kernel_rfl
  f5 := ⟨Tryz.f57.name, by decide, Tryz.func57.trans (congrArg some (by kernel_rfl))⟩
  f7 := Tryz.func102.trans (congrArg some (by kernel_rfl))
  t4 := Tryz.underlying4
  a4 := Tryz.isAgg4
  z4 := Tryz.sizeOf4
  v4 := Tryz.zeroValue4
  t20 := Tryz.underlying20
  a20 := Tryz.isAgg20
  z20 := Tryz.sizeOf20
  v20 := Tryz.zeroValue20
  t23 := Tryz.underlying108
  a23 := Tryz.isAgg108
  z23 := Tryz.sizeOf108
  v23 := Tryz.zeroValue108 }
end Go.Proofs

/- Own work, by program: package tree: Clone: walked. -/
namespace Go.Proofs.YtnnbelmpbmfdnaaGreatDoor
open Go
/-- The shelf's maps.Clone: a new block with the old entries. -/
theorem trclonem_spec (r : Nat) (ents : List (Value × Value)) : Fn Tryz.prog 57 #[.map (some r)] [mapR r ents] fun v L => ∃ r', v = .map (some r') ∧ L = [mapR r ents, mapR r' ents] := by
  intro F w hs
  obtain ⟨h1, hle, es, clock, hb, he, hc, hn⟩ := sep_head (show sep (mapR r ents :: F) _ from hs)
  have hr : w.heap[r]? = some (.map es.toArray clock) := hle _ _ hb
  refine (AnyW.maps_Clone Tryz.cloneI r es.toArray clock w hr).mono ?_
  rintro e w' ⟨rfl, rfl⟩
  refine ⟨_, [mapR r ents, mapR w.heap.size ents], ⟨_, rfl, rfl⟩, rfl, ?_, Keeps.new w _⟩
  have h2 := St.new hs (.map es.toArray clock)
  exact sep_swap (sep_imp (fun _ hp => ⟨es, clock, hp, he, hc, hn⟩) h2)
theorem OpSpec.makeMapN {P : Program} {E : Env} {ty t : TypeId} {k e : TypeId} {x : Operand} {n : Int} (ht : P.underlying t = some (.map k e)) (hx : ev E x = some (vint n)) : OpSpec P ⟨none, .makeMap t (some x), ty, "", #[], none⟩ E [] fun u L' => ∃ b, u = .map (some b) ∧ L' = [pt b (.map #[] 0)] := by
  intro ρ w F ha hs
  have : (execOp ρ ⟨none, .makeMap t (some x), ty, "", #[], none⟩).run P w = .ok (.value (.map (some w.heap.size))) { w with heap := w.heap.push (.map #[] 0) } := by
    refine run_v ?_
    show (Instr.makeMap t (some (ρ x))).run P w = _
    rw [ha x _ hx]
    unfold Instr.makeMap
    simp [run_underlying ht, go_sem, asInt, Result.andThen]
  unfold Runs; rw [this]
  exact ⟨_, ⟨_, rfl, rfl⟩, St.new (L := F) hs _, Keeps.new _ _⟩
theorem clone_new {m ss rest : NmM} {x : Bs × Nm} (hn : (m.map (·.1)).Nodup) (hp : m.Perm (ss ++ x :: rest)) : alook ss x.1 = none := by
  rw [al_none]
  intro h
  have h1 : ((ss ++ x :: rest).map (·.1)).Nodup := (hp.map _).nodup_iff.1 hn
  rw [List.map_append, List.map_cons] at h1
  exact (List.nodup_append.1 h1).2.2 _ h _ List.mem_cons_self rfl
theorem al_snoc {β : Type} : ∀ (l : List (Bs × β)) (x : Bs × β) (p : Bs), alook l x.1 = none → alook (l ++ [x]) p = if p = x.1 then some x.2 else alook l p
  | [], x, p, _ => by simp only [List.nil_append, alook]
  | y :: l, x, p, h => by
    simp only [List.cons_append, alook] at h ⊢
    by_cases e : p = y.1
    · rw [if_pos e]
      have : ¬ p = x.1 := fun g => by rw [if_pos (g.symm.trans e)] at h; cases h
      rw [if_neg this, if_pos e]
    · rw [if_neg e, if_neg e]
      by_cases e2 : x.1 = y.1
      · rw [if_pos e2] at h; cases h
      · rw [if_neg e2] at h
        exact al_snoc l x p h
theorem clone_step {m2 ss : NmM} {x : Bs × Nm} {y : Nm} (h : ∀ p, (alook m2 p).map (fun y : Nm => y.2.2) = (alook ss p).map (fun y : Nm => y.2.2)) (hx : alook ss x.1 = none) (hy : y.2.2 = x.2.2.2) (p : Bs) : (alook (aset m2 x.1 y) p).map (fun y : Nm => y.2.2) = (alook (ss ++ [x]) p).map (fun y : Nm => y.2.2) := by
  rw [al_aset, al_snoc ss x p hx]
  split
  · simp [hy]
  · exact h p
set_option maxRecDepth 100000 in
theorem trclone_spec (t : Nat) (τ : Tr) (N : Nat) (ho : τ.Ok N) (hN : N ≤ 1099511627776) : Fn Tryz.prog 24 #[vptr t] [treeR t τ] fun v L => ∃ c, v = vptr c ∧ L = [treeR c τ, treeR t τ] := by
 refine Fn.intro (vs := [vptr t]) Tryz.func24 rfl rfl ?_
 intro F W
 refine G.trOpen (τ := τ) (by (repeat' constructor)) fun rn rs m s hI => ?_
 have hlen := hI.len ho
 have hfew := ho.few
 refine G.seq (G.region (G.q (Quiet.assign rfl) rfl (G.nil (G.then_n (G.seq ?_)))))
 refine G.draw [5, 10, 16] [[0, 1, 2, 3, 4, 6, 7, 8, 9, 11, 12, 13, 14, 5, 10], [15, 16], [17]] mixed (by kernel_rfl) ?_
 refine Phases.go [ptc t _ _] (by (repeat' constructor)) ?_
 refine D.qw [1, 2, 3, 4, 5, 10] rfl (by kernel_rfl) (Quiet.move rfl) ?_
 refine D.qw [2, 3, 4, 5, 10] rfl (by kernel_rfl) (Quiet.nilp rfl) ?_
 refine D.qw [3, 4, 5, 10] rfl (by kernel_rfl) (Quiet.fieldAddr rfl fo_110_0) ?_
 refine D.qw [4, 5, 10] rfl (by kernel_rfl) (Quiet.load rfl ag_107 (by (repeat' constructor)) (rfl)) ?_
 refine D.qw [5, 10] rfl (by kernel_rfl) (Quiet.maplen rfl Tryz.underlying107 rfl (by (repeat' constructor))) ?_
 refine D.q rfl (by kernel_rfl) (Quiet.move rfl) ?_
 refine D.q rfl (by kernel_rfl) (Quiet.nilp rfl) ?_
 refine D.q rfl (by kernel_rfl) (Quiet.fieldAddr rfl fo_110_1) ?_
 refine D.q rfl (by kernel_rfl) (Quiet.load rfl ag_108 (by (repeat' constructor)) (rfl)) ?_
 refine D.q rfl (by kernel_rfl) (Quiet.move rfl) ?_
 refine D.q rfl (by kernel_rfl) (Quiet.nilp rfl) ?_
 refine D.q rfl (by kernel_rfl) (Quiet.fieldAddr rfl fo_110_2) ?_
 refine D.q rfl (by kernel_rfl) (Quiet.load rfl ag_3 (by (repeat' constructor)) (rfl)) ?_
 refine D.h2 (k := 10) rfl rfl (by kernel_rfl) rfl (OpSpec.makeMapN Tryz.underlying107 rfl) (by (repeat' constructor)) (OpSpec.call Tryz.func57 rfl rfl (vs := [_]) rfl (trclonem_spec rs (ssE s))) (by (repeat' constructor)) ?nx15 ?nx16
 ·rintro v L' ⟨rn2, rfl, rfl⟩
  refine D.h rfl (by kernel_rfl) (OpSpec.call Tryz.func57 rfl rfl (vs := [_]) rfl (trclonem_spec rs (ssE s))) (by (repeat' constructor)) ?nx18
  rintro v L' ⟨rs2, rfl, rfl⟩
  refine D.ph ?_
  refine Phases.go [] (by (repeat' constructor)) ?_
  refine D.qw [16] rfl (by kernel_rfl) (Quiet.to (v' := .agg ([.map (some rn2), .map (some rs2), vint τ.zx] : List Value).toArray) (Quiet.build (us := [(0, _), (1, _), (2, _)]) fl_110 ze_110 rfl rfl (by simp [isCell])) rfl) ?_
  refine D.h rfl (by kernel_rfl) (OpSpec.box rfl) (by (repeat' constructor)) ?nx21
  rintro v L' ⟨c, rfl, rfl⟩
  refine D.ph ?_
  refine Phases.go [] (by (repeat' constructor)) ?_
  refine D.qw [] rfl (by kernel_rfl) (Quiet.assign rfl) ?_
  refine D.ph (Phases.fin ?_)
  refine G.ptCast (b := c) (l' := [.map (some rn2), .map (some rs2), vint τ.zx]) (by (repeat' constructor)) rfl ?_
  refine G.fold (p := mapR rn2 []) (.cons (p := pt rn2 (.map #[] 0)) (by (repeat' constructor)) .nil) (fun h hp => mapR_new (sep_pt hp)) ?_
  refine G.add (p := bigR inN []) big_nil (G.then_n (G.seq (G.seq (G.region (G.q (Quiet.move rfl) rfl (G.q (Quiet.nilp rfl) rfl (G.q (Quiet.fieldAddr rfl fo_110_0) rfl ?_)))))))
  refine G.q (Quiet.load rfl ag_107 (by (repeat' constructor)) (rfl)) rfl ?_
  refine G.op (OpSpec.range (f := fun x : Bs × Nm => (vstr x.1, ndV x.2)) (m := m) rfl Tryz.underlying107 ?he27) (by (repeat' constructor)) rfl ?nx28
  case he27 => rfl
  rintro v L' ⟨it, rfl, rfl⟩
  refine G.nil (G.then_n (G.block ?_))
  refine G.loopK (ι := NmM × NmM) (fun q E => E) (fun q => [rangeR (fun x : Bs × Nm => (vstr x.1, ndV x.2)) it rn m q.1, bigR inN m, mapR rn2 (ndE q.2), bigR inN q.2, ptc c [.map (some rn2), .map (some rs2), vint τ.zx] 110]) (fun q => ((q.2.map (·.1)).Nodup ∧ ∀ p, (alook q.2 p).map (fun y : Nm => y.2.2) = (alook q.1 p).map (fun y : Nm => y.2.2)) ∧ ∃ rest, m.Perm (q.1 ++ rest)) (fun q => m.length - q.1.length) ([], []) (ts := [2, 3, 27]) (.cons rfl (.cons rfl (.cons rfl (.nil)))) (⟨⟨by simp, fun p => rfl⟩, m, .refl _⟩) ⟨rfl, rfl, rfl, trivial⟩ (by (repeat' constructor)) ?_
  rintro ⟨ss, m2⟩ ⟨⟨hnd2, hm2⟩, rest, hm⟩
  dsimp only
  dsimp only at hnd2 hm2 hm
  have hml := hm.length_eq
  rw [List.length_append] at hml
  refine G.seq (G.region ?_)
  refine G.op (OpSpec.next rfl) (by (repeat' constructor)) rfl ?nx30
  rintro v L' (⟨rfl, hp3, rfl⟩ | ⟨x, rest3, rfl, hp3, rfl⟩)
  ·refine G.rangeDone (by (repeat' constructor)) ?_
   refine G.q (Quiet.extract rfl rfl) rfl (G.nil (G.then_n (G.seq (G.condF rfl (G.exit (G.then_e (G.then_e (G.blk_e (G.then_n (G.seq (G.region (G.q (Quiet.move rfl) rfl (G.q (Quiet.assign rfl) rfl (G.nil (G.then_n (G.ret ?_))))))))))))))))
   have hI2 : TrI τ m2 s := ⟨hnd2, fun p => by rw [hm2, ← al_perm hp3 hI.keys p]; exact hI.look p, hI.skeys, hI.slook⟩
   refine G.trFold (t := c) (rn := rn2) (rs := rs2) (τ := τ) hI2 (by (repeat' constructor)) rfl rfl rfl ?_
   refine G.trFold (t := t) (τ := τ) hI (by (repeat' constructor)) rfl rfl rfl ?_
   exact G.done (l := [.tmp 2]) rfl rfl ⟨_, rfl, rfl⟩ (by (repeat' constructor)) (by (repeat' constructor))
  ·refine G.q (Quiet.extract rfl rfl) rfl (G.nil (G.then_n (G.seq (G.condT rfl (G.skip (G.then_n (G.block (G.seq (G.region ?_)))))))))
   refine G.q (Quiet.entryE (v := .tuple #[vstr x.1, ndV x.2]) rfl (by (repeat' constructor)) rfl) rfl ?_
   refine G.q (Quiet.extract rfl rfl) rfl (G.q (Quiet.extract rfl rfl) rfl (G.q (Quiet.assign rfl) rfl (G.q (Quiet.assign rfl) rfl (G.nil ?_))))
   have hxm : x ∈ m := hp3.mem_iff.2 (by simp)
   have hal : alook m x.1 = some x.2 := al_of_mem hI.keys hxm
   have hxa := hI.acl ho hal
   refine G.bigTake hal (by (repeat' constructor)) ?_
   refine G.ndOpen (x := (x.1, x.2)) (by (repeat' constructor)) ?_
   refine G.then_n ?_
   refine G.draw [13, 19, 20] [[0, 1, 2, 3, 4, 5, 6, 7, 8, 9, 10, 11, 12, 14, 15, 16, 17, 13, 18, 19], [20]] mixed (by kernel_rfl) ?_
   refine Phases.go [ptc x.2.1 _ _, ptc c _ _] (by (repeat' constructor)) ?_
   refine D.q rfl (by kernel_rfl) (Quiet.move rfl) ?_
   refine D.q rfl (by kernel_rfl) (Quiet.nilp rfl) ?_
   refine D.q rfl (by kernel_rfl) (Quiet.fieldAddr rfl fo_110_0) ?_
   refine D.q rfl (by kernel_rfl) (Quiet.load rfl ag_107 (by (repeat' constructor)) (rfl)) ?_
   refine D.q rfl (by kernel_rfl) (Quiet.move rfl) ?_
   refine D.q rfl (by kernel_rfl) (Quiet.move rfl) ?_
   refine D.q rfl (by kernel_rfl) (Quiet.nilp rfl) ?_
   refine D.q rfl (by kernel_rfl) (Quiet.fieldAddr rfl fo_106_0) ?_
   refine D.q rfl (by kernel_rfl) (Quiet.load rfl ag_9 (by (repeat' constructor)) (rfl)) ?_
   refine D.qw [10, 11, 12, 13, 18, 19] rfl (by kernel_rfl) (Quiet.move rfl) ?_
   refine D.qw [11, 12, 13, 18, 19] rfl (by kernel_rfl) (Quiet.nilp rfl) ?_
   refine D.qw [12, 13, 18, 19] rfl (by kernel_rfl) (Quiet.fieldAddr rfl fo_106_1) ?_
   refine D.qw [13, 18, 19] rfl (by kernel_rfl) (Quiet.load rfl ag_34 (by (repeat' constructor)) (rfl)) ?_
   refine D.q rfl (by kernel_rfl) (Quiet.move rfl) ?_
   refine D.q rfl (by kernel_rfl) (Quiet.nilp rfl) ?_
   refine D.q rfl (by kernel_rfl) (Quiet.fieldAddr rfl fo_106_2) ?_
   refine D.q rfl (by kernel_rfl) (Quiet.loadAs (vs := stC x.2.2.2.st) rfl ag_43 (by (repeat' constructor)) (by simp [ndC]) rfl) ?_
   refine D.h rfl (by kernel_rfl) (OpSpec.call Tryz.func58 rfl rfl (vs := [_]) rfl (aclone_spec x.2.2.1 x.2.2.2.acl _ (fun h hp => hp) hxa)) (by (repeat' constructor)) ?nx52
   rintro v L' ⟨⟨a5, c5, rfl⟩, rfl⟩
   refine D.qw [19] rfl (by kernel_rfl) (Quiet.buildN (pl := [(0, 1), (1, 1), (2, 9)]) (us := [(0, vstr x.2.2.2.data), (1, .slice a5 x.2.2.2.acl.length c5), (2, .agg (stC x.2.2.2.st).toArray)]) (cells := ndC (.slice a5 x.2.2.2.acl.length c5) x.2.2.2) Tryz.underlying106 (by kernel_rfl) ze_106 rfl (fill_node _ _ _ _ _ _ _ _ _ _ _ _ _)) ?_
   refine D.h rfl (by kernel_rfl) (OpSpec.box rfl) (by (repeat' constructor)) ?nx55
   rintro v L' ⟨tn, rfl, rfl⟩
   refine D.ph ?_
   refine Phases.go [] (by (repeat' constructor)) ?_
   refine D.h rfl (by kernel_rfl) (OpSpec.mapSet (m := m2) (enc := ndV) (v := ((tn, (.slice a5 x.2.2.2.acl.length c5, x.2.2.2)) : Nm)) (k := x.1) (KeyLaw.str Tryz.underlying9) rfl rfl rfl Tryz.underlying107 ?he57) (by (repeat' constructor)) ?nx58
   case he57 => rfl
   rintro v L' rfl
   refine D.ph (Phases.fin (G.blk_n (G.then_n ?_)))
   have hl := hp3.length_eq
   simp at hl
   refine G.ndFold (x := (x.1, x.2)) (by (repeat' constructor)) rfl rfl rfl rfl ?_
   refine G.bigPut (f := inN) (m := m) x.1 x.2 rfl (by (repeat' constructor)) ?_
   rw [aset_self hal]
   refine G.toRd (v := .slice a5 x.2.2.2.acl.length c5) (by (repeat' constructor)) ?_
   refine G.ndFold (x := (x.1, ((tn, (.slice a5 x.2.2.2.acl.length c5, x.2.2.2)) : Nm))) (by (repeat' constructor)) rfl rfl rfl rfl ?_
   have hnx : alook ss x.1 = none := clone_new hI.keys hp3
   have hn2 : alook m2 x.1 = none := by have h := hm2 x.1; rw [hnx] at h; simpa using h
   have hdel := adel_none hn2
   refine G.bigPut (f := inN) (m := m2) x.1 ((tn, (.slice a5 x.2.2.2.acl.length c5, x.2.2.2)) : Nm) rfl (by rw [hdel]; (repeat' constructor)) ?_
   exact G.roundK ((ss ++ [x], aset m2 x.1 ((tn, (.slice a5 x.2.2.2.acl.length c5, x.2.2.2)) : Nm))) (⟨⟨nodup_aset hnd2 _ _, clone_step hm2 hnx rfl⟩, _, by simpa using hp3⟩) (by dsimp only; simp; omega) ⟨rfl, rfl, rfl, trivial⟩ (by (repeat' constructor)) (by ((repeat (apply Have.cons; (repeat (first | exact Pick.here | apply Pick.there)))); apply Have.base; repeat' constructor))
 ·rintro v L' ⟨rs2, rfl, rfl⟩
  refine D.h rfl (by kernel_rfl) (OpSpec.makeMapN Tryz.underlying107 rfl) (by (repeat' constructor)) ?nx60
  rintro v L' ⟨rn2, rfl, rfl⟩
  refine D.ph ?_
  refine Phases.go [] (by (repeat' constructor)) ?_
  refine D.qw [16] rfl (by kernel_rfl) (Quiet.to (v' := .agg ([.map (some rn2), .map (some rs2), vint τ.zx] : List Value).toArray) (Quiet.build (us := [(0, _), (1, _), (2, _)]) fl_110 ze_110 rfl rfl (by simp [isCell])) rfl) ?_
  refine D.h rfl (by kernel_rfl) (OpSpec.box rfl) (by (repeat' constructor)) ?nx63
  rintro v L' ⟨c, rfl, rfl⟩
  refine D.ph ?_
  refine Phases.go [] (by (repeat' constructor)) ?_
  refine D.qw [] rfl (by kernel_rfl) (Quiet.assign rfl) ?_
  refine D.ph (Phases.fin ?_)
  refine G.ptCast (b := c) (l' := [.map (some rn2), .map (some rs2), vint τ.zx]) (by (repeat' constructor)) rfl ?_
  refine G.fold (p := mapR rn2 []) (.cons (p := pt rn2 (.map #[] 0)) (by (repeat' constructor)) .nil) (fun h hp => mapR_new (sep_pt hp)) ?_
  refine G.add (p := bigR inN []) big_nil (G.then_n (G.seq (G.seq (G.region (G.q (Quiet.move rfl) rfl (G.q (Quiet.nilp rfl) rfl (G.q (Quiet.fieldAddr rfl fo_110_0) rfl ?_)))))))
  refine G.q (Quiet.load rfl ag_107 (by (repeat' constructor)) (rfl)) rfl ?_
  refine G.op (OpSpec.range (f := fun x : Bs × Nm => (vstr x.1, ndV x.2)) (m := m) rfl Tryz.underlying107 ?he69) (by (repeat' constructor)) rfl ?nx70
  case he69 => rfl
  rintro v L' ⟨it, rfl, rfl⟩
  refine G.nil (G.then_n (G.block ?_))
  refine G.loopK (ι := NmM × NmM) (fun q E => E) (fun q => [rangeR (fun x : Bs × Nm => (vstr x.1, ndV x.2)) it rn m q.1, bigR inN m, mapR rn2 (ndE q.2), bigR inN q.2, ptc c [.map (some rn2), .map (some rs2), vint τ.zx] 110]) (fun q => ((q.2.map (·.1)).Nodup ∧ ∀ p, (alook q.2 p).map (fun y : Nm => y.2.2) = (alook q.1 p).map (fun y : Nm => y.2.2)) ∧ ∃ rest, m.Perm (q.1 ++ rest)) (fun q => m.length - q.1.length) ([], []) (ts := [2, 3, 27]) (.cons rfl (.cons rfl (.cons rfl (.nil)))) (⟨⟨by simp, fun p => rfl⟩, m, .refl _⟩) ⟨rfl, rfl, rfl, trivial⟩ (by (repeat' constructor)) ?_
  rintro ⟨ss, m2⟩ ⟨⟨hnd2, hm2⟩, rest, hm⟩
  dsimp only
  dsimp only at hnd2 hm2 hm
  have hml := hm.length_eq
  rw [List.length_append] at hml
  refine G.seq (G.region ?_)
  refine G.op (OpSpec.next rfl) (by (repeat' constructor)) rfl ?nx72
  rintro v L' (⟨rfl, hp3, rfl⟩ | ⟨x, rest3, rfl, hp3, rfl⟩)
  ·refine G.rangeDone (by (repeat' constructor)) ?_
   refine G.q (Quiet.extract rfl rfl) rfl (G.nil (G.then_n (G.seq (G.condF rfl (G.exit (G.then_e (G.then_e (G.blk_e (G.then_n (G.seq (G.region (G.q (Quiet.move rfl) rfl (G.q (Quiet.assign rfl) rfl (G.nil (G.then_n (G.ret ?_))))))))))))))))
   have hI2 : TrI τ m2 s := ⟨hnd2, fun p => by rw [hm2, ← al_perm hp3 hI.keys p]; exact hI.look p, hI.skeys, hI.slook⟩
   refine G.trFold (t := c) (rn := rn2) (rs := rs2) (τ := τ) hI2 (by (repeat' constructor)) rfl rfl rfl ?_
   refine G.trFold (t := t) (τ := τ) hI (by (repeat' constructor)) rfl rfl rfl ?_
   exact G.done (l := [.tmp 2]) rfl rfl ⟨_, rfl, rfl⟩ (by (repeat' constructor)) (by (repeat' constructor))
  ·refine G.q (Quiet.extract rfl rfl) rfl (G.nil (G.then_n (G.seq (G.condT rfl (G.skip (G.then_n (G.block (G.seq (G.region ?_)))))))))
   refine G.q (Quiet.entryE (v := .tuple #[vstr x.1, ndV x.2]) rfl (by (repeat' constructor)) rfl) rfl ?_
   refine G.q (Quiet.extract rfl rfl) rfl (G.q (Quiet.extract rfl rfl) rfl (G.q (Quiet.assign rfl) rfl (G.q (Quiet.assign rfl) rfl (G.nil ?_))))
   have hxm : x ∈ m := hp3.mem_iff.2 (by simp)
   have hal : alook m x.1 = some x.2 := al_of_mem hI.keys hxm
   have hxa := hI.acl ho hal
   refine G.bigTake hal (by (repeat' constructor)) ?_
   refine G.ndOpen (x := (x.1, x.2)) (by (repeat' constructor)) ?_
   refine G.then_n ?_
   refine G.draw [13, 19, 20] [[0, 1, 2, 3, 4, 5, 6, 7, 8, 9, 10, 11, 12, 14, 15, 16, 17, 13, 18, 19], [20]] mixed (by kernel_rfl) ?_
   refine Phases.go [ptc x.2.1 _ _, ptc c _ _] (by (repeat' constructor)) ?_
   refine D.q rfl (by kernel_rfl) (Quiet.move rfl) ?_
   refine D.q rfl (by kernel_rfl) (Quiet.nilp rfl) ?_
   refine D.q rfl (by kernel_rfl) (Quiet.fieldAddr rfl fo_110_0) ?_
   refine D.q rfl (by kernel_rfl) (Quiet.load rfl ag_107 (by (repeat' constructor)) (rfl)) ?_
   refine D.q rfl (by kernel_rfl) (Quiet.move rfl) ?_
   refine D.q rfl (by kernel_rfl) (Quiet.move rfl) ?_
   refine D.q rfl (by kernel_rfl) (Quiet.nilp rfl) ?_
   refine D.q rfl (by kernel_rfl) (Quiet.fieldAddr rfl fo_106_0) ?_
   refine D.q rfl (by kernel_rfl) (Quiet.load rfl ag_9 (by (repeat' constructor)) (rfl)) ?_
   refine D.qw [10, 11, 12, 13, 18, 19] rfl (by kernel_rfl) (Quiet.move rfl) ?_
   refine D.qw [11, 12, 13, 18, 19] rfl (by kernel_rfl) (Quiet.nilp rfl) ?_
   refine D.qw [12, 13, 18, 19] rfl (by kernel_rfl) (Quiet.fieldAddr rfl fo_106_1) ?_
   refine D.qw [13, 18, 19] rfl (by kernel_rfl) (Quiet.load rfl ag_34 (by (repeat' constructor)) (rfl)) ?_
   refine D.q rfl (by kernel_rfl) (Quiet.move rfl) ?_
   refine D.q rfl (by kernel_rfl) (Quiet.nilp rfl) ?_
   refine D.q rfl (by kernel_rfl) (Quiet.fieldAddr rfl fo_106_2) ?_
   refine D.q rfl (by kernel_rfl) (Quiet.loadAs (vs := stC x.2.2.2.st) rfl ag_43 (by (repeat' constructor)) (by simp [ndC]) rfl) ?_
   refine D.h rfl (by kernel_rfl) (OpSpec.call Tryz.func58 rfl rfl (vs := [_]) rfl (aclone_spec x.2.2.1 x.2.2.2.acl _ (fun h hp => hp) hxa)) (by (repeat' constructor)) ?nx94
   rintro v L' ⟨⟨a5, c5, rfl⟩, rfl⟩
   refine D.qw [19] rfl (by kernel_rfl) (Quiet.buildN (pl := [(0, 1), (1, 1), (2, 9)]) (us := [(0, vstr x.2.2.2.data), (1, .slice a5 x.2.2.2.acl.length c5), (2, .agg (stC x.2.2.2.st).toArray)]) (cells := ndC (.slice a5 x.2.2.2.acl.length c5) x.2.2.2) Tryz.underlying106 (by kernel_rfl) ze_106 rfl (fill_node _ _ _ _ _ _ _ _ _ _ _ _ _)) ?_
   refine D.h rfl (by kernel_rfl) (OpSpec.box rfl) (by (repeat' constructor)) ?nx97
   rintro v L' ⟨tn, rfl, rfl⟩
   refine D.ph ?_
   refine Phases.go [] (by (repeat' constructor)) ?_
   refine D.h rfl (by kernel_rfl) (OpSpec.mapSet (m := m2) (enc := ndV) (v := ((tn, (.slice a5 x.2.2.2.acl.length c5, x.2.2.2)) : Nm)) (k := x.1) (KeyLaw.str Tryz.underlying9) rfl rfl rfl Tryz.underlying107 ?he99) (by (repeat' constructor)) ?nx100
   case he99 => rfl
   rintro v L' rfl
   refine D.ph (Phases.fin (G.blk_n (G.then_n ?_)))
   have hl := hp3.length_eq
   simp at hl
   refine G.ndFold (x := (x.1, x.2)) (by (repeat' constructor)) rfl rfl rfl rfl ?_
   refine G.bigPut (f := inN) (m := m) x.1 x.2 rfl (by (repeat' constructor)) ?_
   rw [aset_self hal]
   refine G.toRd (v := .slice a5 x.2.2.2.acl.length c5) (by (repeat' constructor)) ?_
   refine G.ndFold (x := (x.1, ((tn, (.slice a5 x.2.2.2.acl.length c5, x.2.2.2)) : Nm))) (by (repeat' constructor)) rfl rfl rfl rfl ?_
   have hnx : alook ss x.1 = none := clone_new hI.keys hp3
   have hn2 : alook m2 x.1 = none := by have h := hm2 x.1; rw [hnx] at h; simpa using h
   have hdel := adel_none hn2
   refine G.bigPut (f := inN) (m := m2) x.1 ((tn, (.slice a5 x.2.2.2.acl.length c5, x.2.2.2)) : Nm) rfl (by rw [hdel]; (repeat' constructor)) ?_
   exact G.roundK ((ss ++ [x], aset m2 x.1 ((tn, (.slice a5 x.2.2.2.acl.length c5, x.2.2.2)) : Nm))) (⟨⟨nodup_aset hnd2 _ _, clone_step hm2 hnx rfl⟩, _, by simpa using hp3⟩) (by dsimp only; simp; omega) ⟨rfl, rfl, rfl, trivial⟩ (by (repeat' constructor)) (by ((repeat (apply Have.cons; (repeat (first | exact Pick.here | apply Pick.there)))); apply Have.base; repeat' constructor))

end Go.Proofs.YtnnbelmpbmfdnaaGreatDoor

