/- Own work, some of it printed by program, texts that were built one by one and are laid one behind the other here: law 07: a part of a sound history: walked. | law 07: acts made small: walked. | the document's tree: entries, and what is told: walked. | law 07: transactions of a sound history: walked. | package tree: Owned, Session, Kids: walked. | who owns what in a sound history: plain. | sessions and nodes know nothing of one another, but for a session's end: plain. -/
import Derived.Test.YtnnbelmpbmfdnaaGreatDoorCAgainP2
import Derived.Test.YtnnbelmpbmfdnaaGreatDoorCAgainP3
import Derived.Test.YtnnbelmpbmfdnaaGreatDoorCAgainP1
set_option linter.unusedSimpArgs false
set_option linter.unusedVariables false
/- Own work, by program: law 07: a part of a sound history: walked. -/

namespace Go.Proofs.YtnnbelmpbmfdnaaGreatDoor
open Go
def names6 : List Bs := [[97], [98], [99], [120], [121], [122]]
def nm6 (k : Int) : Bs := names6.getD k.toNat []
theorem nm6_at {k : Int} (h0 : 0 ≤ k) (h6 : k < 6) : (names6.map vstr)[0 + k.toNat * 1]? = some (vstr (nm6 k)) := by
  have : 0 + k.toNat * 1 < names6.length := by show _ < 6; omega
  rw [List.getElem?_map, List.getElem?_eq_getElem this]
  unfold nm6
  rw [List.getD_eq_getElem?_getD, List.getElem?_eq_getElem (by show _ < 6; omega)]
  simp
theorem nm6_len (k : Int) : (nm6 k).length ≤ 1 := by
  unfold nm6 names6
  rcases Nat.lt_or_ge k.toNat 6 with h | h
  · rw [List.getD_eq_getElem?_getD]
    match k.toNat, h with
    | 0, _ => decide
    | 1, _ => decide
    | 2, _ => decide
    | 3, _ => decide
    | 4, _ => decide
    | 5, _ => decide
  · rw [List.getD_eq_getElem?_getD, List.getElem?_eq_none (by simpa using h)]; decide
structure IntsOk (a : Ac0) : Prop where
  h1 : -9223372036854775808 ≤ a.1 ∧ a.1 ≤ 9223372036854775807
  h2 : -9223372036854775808 ≤ a.2.1 ∧ a.2.1 ≤ 9223372036854775807
  h3 : -9223372036854775808 ≤ a.2.2.1 ∧ a.2.2.1 ≤ 9223372036854775807
/-- What a part is, whether it may be or not. -/
structure PtB (y : Pt) : Prop where
  cell : isCell y.aclV = true
  subs : y.subsV = .slice none 0 0
  acl : y.acl.length ≤ 1
  path : y.path.length ≤ 62
theorem pt_cells {y : Pt} (h1 : isCell y.aclV = true) (h2 : isCell y.subsV = true) : ∀ v ∈ ptC y, isCell v = true := by
  intro v hv
  simp only [ptC, List.mem_cons, List.not_mem_nil, or_false] at hv
  rcases hv with rfl | rfl | rfl | rfl | rfl | rfl | rfl | rfl
  case inr.inr.inr.inl => exact h1
  case inr.inr.inr.inr.inr.inr.inr => exact h2
  all_goals rfl
theorem al_get {β : Type} {l : List (Bs × β)} (hn : (l.map (·.1)).Nodup) {i : Nat} (hi : i < l.length) : alook l l[i].1 = some l[i].2 := al_of_mem hn (List.getElem_mem hi)
set_option maxHeartbeats 1000000 in
set_option maxRecDepth 100000 in
theorem part7_spec (x : Nat) (τ : Tr) (a : Ac0) (K : Int) (hinv : HInv τ K) (hK : K ≤ 1099511627776) (ha : IntsOk a) (hd : a.2.2.2.1.length ≤ 100) : Fn Tryz.prog 92 #[vptr x, .agg (ac0C a).toArray, .bool true] [refR x τ] fun v L => ∃ (y : Pt) (b : Bool), v = .tuple #[.agg (ptC y).toArray, .bool b] ∧ (b = true → PartH τ y K) ∧ PtB y ∧ L = [refR x τ, rdO 2 y.aclV y.acl.length (y.acl.flatMap acC)] := by
 refine Fn.intro (vs := [vptr x, .agg (ac0C a).toArray, .bool true]) Tryz.func92 rfl rfl ?_
 intro F W
 have hnd := hinv.ok.sorted.nodup linB
 have hfew := hinv.ok.few
 have hsf := hinv.ok.sfew
 have hpos := hinv.pos
 have hnl := nm6_len (pickZ a.2.2.1 6)
 have hp6 := pickZ_range a.2.2.1 (n := 6) (by decide)
 have hp31 := pickZ_range a.2.2.1 (n := 31) (by decide)
 have hpw := pickZ_range a.1 (n := 6) (by decide)
 obtain ⟨i, hi⟩ : ∃ i : Nat, pickZ a.2.1 (τ.nodes.length : Int) = i := ⟨(pickZ a.2.1 τ.nodes.length).toNat, by have := pickZ_range a.2.1 (n := (τ.nodes.length : Int)) (by omega); omega⟩
 have hi2 : i < τ.nodes.length := by have := pickZ_range a.2.1 (n := (τ.nodes.length : Int)) (by omega); omega
 refine G.rfOpen (x := x) (τ := τ) (by (repeat' constructor)) fun an cn as1 cs l hl => ?_
 have hll := nds_len hl
 have hin : i < l.length := by omega
 have hli : alook τ.nodes l[i].1 = some l[i].2.2 := by have g := nds_get hl (i := i) (by omega); have g2 := al_get hnd (i := i) (by omega); rw [g] at g2; exact g2
 have hvi := hinv.ver _ _ hli
 refine G.slShape (T := 131) (sz := 12) (v := .slice an l.length cn) (xs := l.flatMap rnC) (by (repeat' constructor)) (by omega) fun bn bn' e0 mbn _ => ?_
 simp only [Value.slice.injEq, true_and] at e0
 obtain ⟨rfl, rfl⟩ := e0
 have hpli : l[i].1.length ≤ 60 := able_len (by have h2 := hinv.ok.able _ (al_mem hli); exact h2)
 have hkl := kid_len l[i].1 (nm6 (pickZ a.2.2.1 6))
 have hpl62 : (kidZ l[i].1 (nm6 (pickZ a.2.2.1 6))).length ≤ 62 := by omega
 refine G.seq (G.region ?_)
 refine G.op (OpSpec.box rfl) (by (repeat' constructor)) rfl ?nx1
 rintro v L' ⟨ba, rfl, rfl⟩
 refine G.op (OpSpec.allocA ze_37) (by (repeat' constructor)) rfl ?nx3
 rintro v L' ⟨b0, rfl, rfl⟩
 refine G.q (Quiet.assign rfl) rfl (G.nil ?_)
 refine G.ptCast (b := ba) (l' := ac0C a) (by (repeat' constructor)) rfl ?_
 refine G.then_n (G.seq ?_)
 refine G.aclShape (l := l) (i := i) (by omega) (by (repeat' constructor)) fun hcl => ?_
 refine G.draw [14, 15] [[0, 1, 2, 3, 4, 5, 6, 7, 8, 9, 10, 11, 12, 13, 14], [15]] mixed (by kernel_rfl) ?_
 refine Phases.go [rnR _ _, ptc x _ _, ptc ba _ _] (by (repeat' constructor)) ?_
 refine D.q rfl (by kernel_rfl) (Quiet.move rfl) ?_
 refine D.q rfl (by kernel_rfl) (Quiet.nilp rfl) ?_
 refine D.q rfl (by kernel_rfl) (Quiet.fieldAddr rfl fo_101_0) ?_
 refine D.q rfl (by kernel_rfl) (Quiet.load rfl ag_98 (by (repeat' constructor)) (rfl)) ?_
 refine D.q rfl (by kernel_rfl) (Quiet.fieldAddr rfl fo_94_1) ?_
 refine D.q rfl (by kernel_rfl) (Quiet.load rfl ag_3 (by (repeat' constructor)) (rfl)) ?_
 refine D.q rfl (by kernel_rfl) (Quiet.move rfl) ?_
 refine D.q rfl (by kernel_rfl) (Quiet.nilp rfl) ?_
 refine D.q rfl (by kernel_rfl) (Quiet.fieldAddr rfl fo_101_0) ?_
 refine D.q rfl (by kernel_rfl) (Quiet.load rfl ag_98 (by (repeat' constructor)) (rfl)) ?_
 refine D.q rfl (by kernel_rfl) (Quiet.slen rfl Tryz.underlying98 rfl) ?_
 refine D.m rfl (by kernel_rfl) (OpSpec.call Tryz.func21 rfl rfl (vs := [_, _]) rfl (pick7_is _ _ (k := (i : Int)) (by rw [hll]; exact hi) ha.h2 (by first | decide | omega))) (by (repeat' constructor)) ?nx17
 refine D.q rfl (by kernel_rfl) (Quiet.indexAddr rfl rfl el_98 (by omega)) ?_
 refine D.q rfl (by kernel_rfl) (Quiet.loadRdA (sz := 12) (j := i * 12) (k := 12) (p := rnR _ l) (vs := rnC l[i]) rfl ag_131 (by (repeat' constructor)) (fun h hp => slR_rd hp) (by omega) (by omega) (by omega) (flatMap_at (f := rnC) (sz := 12) (fun _ _ => rfl) (by omega))) ?_
 refine D.h rfl (by kernel_rfl) (OpSpec.allocA ze_131) (by (repeat' constructor)) ?nx21
 rintro v L' ⟨bN, rfl, rfl⟩
 refine D.ph ?_
 refine Phases.go [] (by (repeat' constructor)) ?_
 refine D.h rfl (by kernel_rfl) (OpSpec.storeA rfl rfl ?c23 sz_131 ?c26 ?c24 ?c25) (by (repeat' constructor)) ?nx27
 case c23 => exact rn_cells hcl
 case c26 => rfl
 case c24 => simp [rnC]
 case c25 => exact nfz0 _ _
 rintro v L' rfl
 refine D.ph (Phases.fin ?_)
 refine G.ptCast (b := bN) (l' := rnC l[i]) (by (repeat' constructor)) rfl ?_
 refine G.rfFold (x := x) (τ := τ) (l := l) hl (by (repeat' constructor)) rfl rfl rfl rfl rfl ?_
 generalize l[i] = z at hli hvi hpli hkl hpl62 hcl ⊢
 refine G.then_n (G.seq (G.region (G.q (Quiet.move rfl) rfl (G.q (Quiet.fieldAddr rfl fo_131_0) rfl ?_))))
 refine G.q (Quiet.load rfl ag_9 (by (repeat' constructor)) (rfl)) rfl ?_
 refine G.op (OpSpec.call Tryz.func51 rfl rfl (vs := [_]) rfl (rparent_spec _ ?hs31)) (by (repeat' constructor)) rfl ?nx32
 case hs31 => first | assumption | omega
 rintro v L' ⟨rfl, rfl⟩
 refine G.op (OpSpec.call Tryz.func69 rfl rfl (vs := [_, _]) rfl (rplace_spec x τ (parentZ z.1) (by omega))) (by (repeat' constructor)) rfl ?nx34
 rintro v L' ⟨rfl, rfl⟩
 refine G.q (Quiet.assign rfl) rfl (G.nil ?_)
 refine G.rfOpen (x := x) (τ := τ) (by (repeat' constructor)) fun am cm as2 cs2 m hm => ?_
 have hml := nds_len hm
 refine G.then_n (G.seq (G.seq (G.region (G.q (Quiet.fieldAddr rfl fo_94_0) rfl ?_))))
 refine G.q (Quiet.load rfl ag_3 (by (repeat' constructor)) (rfl)) rfl ?_
 refine G.op (OpSpec.call Tryz.func21 rfl rfl (vs := [_, _]) rfl (pick7_spec _ _ ha.h1 (by decide))) (by (repeat' constructor)) rfl ?nx38
 rintro v L' ⟨rfl, rfl⟩
 refine G.nil (G.then_n (G.block (G.seq (G.seq (G.region (G.q (Quiet.int rfl rfl rfl) rfl (G.q (Quiet.assign rfl) rfl (G.nil (G.then_n ?_)))))))))
 refine G.dec (t := 35) rfl (fun h35 => ?_) (fun h35 => ?_)
 ·refine G.condT rfl (G.skip (G.then_n (G.condT rfl (G.seq (G.region ?_)))))
  refine G.op (OpSpec.buildSlice1 (vs := [_, _, _, _, _, _]) el_40 ze_9 rfl rfl rfl rfl rfl (by decide)) (by (repeat' constructor)) rfl ?nx41
  rintro v L' ⟨bs, rfl, rfl⟩
  refine G.q (Quiet.assign rfl) rfl (G.nil ?_)
  refine G.ptCast (b := bs) (l' := names6.map vstr) (by (repeat' constructor)) rfl ?_
  refine G.then_n (G.seq ?_)
  refine G.draw [] [[0, 1, 2, 3, 4, 5, 6, 7, 8, 9]] mixed (by kernel_rfl) ?_
  refine Phases.go [ptc bs _ _, ptc ba _ _, ptc bN _ _] (by (repeat' constructor)) ?_
  refine D.qw [1, 8, 9] rfl (by kernel_rfl) (Quiet.fieldAddr rfl fo_131_0) ?_
  refine D.qw [8, 9] rfl (by kernel_rfl) (Quiet.load rfl ag_9 (by (repeat' constructor)) (rfl)) ?_
  refine D.qw [6, 7, 8, 9] rfl (by kernel_rfl) (Quiet.move rfl) ?_
  refine D.qw [4, 5, 6, 7, 8, 9] rfl (by kernel_rfl) (Quiet.fieldAddr rfl fo_94_2) ?_
  refine D.qw [5, 6, 7, 8, 9] rfl (by kernel_rfl) (Quiet.load rfl ag_3 (by (repeat' constructor)) (rfl)) ?_
  refine D.m rfl (by kernel_rfl) (OpSpec.call Tryz.func21 rfl rfl (vs := [_, _]) rfl (pick7_spec _ _ ha.h3 (by decide))) (by (repeat' constructor)) ?nx47
  refine D.qw [7, 8, 9] rfl (by kernel_rfl) (Quiet.indexAddr rfl rfl el_40 (by simp; omega)) ?_
  refine D.qw [8, 9] rfl (by kernel_rfl) (Quiet.load rfl ag_9 (by (repeat' constructor)) (nm6_at hp6.1 hp6.2)) ?_
  refine D.m rfl (by kernel_rfl) (OpSpec.call Tryz.func52 rfl rfl (vs := [_, _]) rfl (rkid_spec _ _ ?hs51 ?hn52)) (by (repeat' constructor)) ?nx53
  case hs51 => first | assumption | omega
  case hn52 => first | assumption | omega | simp
  refine D.qw [] rfl (by kernel_rfl) (Quiet.assign rfl) ?_
  refine D.ph (Phases.fin (G.then_n (G.seq (G.region (G.q (Quiet.assign rfl) rfl (G.nil (G.then_n (G.seq (G.seq (G.region (G.q (Quiet.move rfl) rfl ?_)))))))))))
  refine G.q (Quiet.as (v' := .bool true) (by rfl) (Quiet.move rfl)) rfl ?_
  refine G.grun (t := 50) rfl rfl rfl (G.q (Quiet.move rfl) rfl (G.grun (t := 50) rfl rfl rfl (G.q (Quiet.nilp rfl) rfl (G.grun (t := 50) rfl rfl rfl (G.q (Quiet.fieldAddr rfl fo_101_1) rfl (G.grun (t := 50) rfl rfl rfl ?_))))))
  refine G.q (Quiet.load rfl ag_99 (by (repeat' constructor)) (rfl)) rfl ?_
  refine G.grun (t := 50) rfl rfl rfl (G.q (Quiet.slen rfl Tryz.underlying99 rfl) rfl (G.grun (t := 50) rfl rfl rfl (G.q (Quiet.int rfl rfl rfl) rfl (G.q (Quiet.pickT rfl rfl) rfl (G.q (Quiet.move rfl) rfl ?_)))))
  refine G.dec (t := 58) rfl (fun h10_58 => ?_) (fun h10_58 => ?_)
  ·refine G.kDT (t := 56) rfl h10_58 (G.kDT (t := 57) rfl h10_58 (G.grun (t := 58) rfl rfl rfl (G.q (Quiet.fieldAddr rfl fo_94_2) rfl (G.grun (t := 58) rfl rfl rfl ?_))))
   refine G.q (Quiet.load rfl ag_3 (by (repeat' constructor)) (rfl)) rfl ?_
   refine G.grun (t := 58) rfl rfl rfl ?_
   refine G.op (OpSpec.call Tryz.func21 rfl rfl (vs := [_, _]) rfl (pick7_spec _ _ ha.h3 (by decide))) (by (repeat' constructor)) rfl ?nx65
   rintro v L' ⟨rfl, rfl⟩
   refine G.grun (t := 58) rfl rfl rfl (G.q (Quiet.int rfl rfl rfl) rfl (G.q (Quiet.pickT rfl rfl) rfl (G.nil (G.then_n ?_))))
   refine G.condD rfl (fun h63 => ?_) (fun h63 => ?_)
   ·obtain ⟨j, hjp⟩ : ∃ j : Nat, pickZ a.2.1 (τ.sess.length : Int) = j := ⟨(pickZ a.2.1 τ.sess.length).toNat, by have := pickZ_range a.2.1 (n := (τ.sess.length : Int)) (by omega); omega⟩
    have hj : j < τ.sess.length := by have := pickZ_range a.2.1 (n := (τ.sess.length : Int)) (by omega); omega
    refine G.slShape (T := 134) (sz := 3) (v := .slice as2 τ.sess.length cs2) (xs := τ.sess.flatMap rsC) (by (repeat' constructor)) (by omega) fun bs bs' e0 mbs _ => ?_
    simp only [Value.slice.injEq, true_and] at e0
    obtain ⟨rfl, rfl⟩ := e0
    refine G.draw [] [[0, 1, 2, 3, 4, 5, 6, 7, 8, 9, 10, 11, 12, 13, 14, 15]] mixed (by kernel_rfl) ?_
    refine Phases.go [rsR _ _, ptc x _ _, ptc ba _ _] (by (repeat' constructor)) ?_
    refine D.qw [1, 2, 3, 12, 13, 14, 15] rfl (by kernel_rfl) (Quiet.move rfl) ?_
    refine D.qw [2, 3, 12, 13, 14, 15] rfl (by kernel_rfl) (Quiet.nilp rfl) ?_
    refine D.qw [3, 12, 13, 14, 15] rfl (by kernel_rfl) (Quiet.fieldAddr rfl fo_101_1) ?_
    refine D.qw [12, 13, 14, 15] rfl (by kernel_rfl) (Quiet.load rfl ag_99 (by (repeat' constructor)) (rfl)) ?_
    refine D.qw [5, 11, 12, 13, 14, 15] rfl (by kernel_rfl) (Quiet.fieldAddr rfl fo_94_1) ?_
    refine D.qw [11, 12, 13, 14, 15] rfl (by kernel_rfl) (Quiet.load rfl ag_3 (by (repeat' constructor)) (rfl)) ?_
    refine D.qw [7, 8, 9, 10, 11, 12, 13, 14, 15] rfl (by kernel_rfl) (Quiet.move rfl) ?_
    refine D.qw [8, 9, 10, 11, 12, 13, 14, 15] rfl (by kernel_rfl) (Quiet.nilp rfl) ?_
    refine D.qw [9, 10, 11, 12, 13, 14, 15] rfl (by kernel_rfl) (Quiet.fieldAddr rfl fo_101_1) ?_
    refine D.qw [10, 11, 12, 13, 14, 15] rfl (by kernel_rfl) (Quiet.load rfl ag_99 (by (repeat' constructor)) (rfl)) ?_
    refine D.qw [11, 12, 13, 14, 15] rfl (by kernel_rfl) (Quiet.slen rfl Tryz.underlying99 rfl) ?_
    refine D.m rfl (by kernel_rfl) (OpSpec.call Tryz.func21 rfl rfl (vs := [_, _]) rfl (pick7_is _ _ (k := (j : Int)) hjp ha.h2 (by first | decide | omega))) (by (repeat' constructor)) ?nx79
    refine D.qw [13, 14, 15] rfl (by kernel_rfl) (Quiet.indexAddr rfl rfl el_99 (by omega)) ?_
    refine D.qw [14, 15] rfl (by kernel_rfl) (Quiet.fieldAddr rfl fo_134_0) ?_
    refine D.qw [15] rfl (by kernel_rfl) (Quiet.loadRd (sz := 3) (j := j * 3 + 0) (p := rsR _ τ.sess) rfl ag_3 (by (repeat' constructor)) (fun h hp => slR_rd hp) (by omega) ((rs_cell (l := τ.sess) (i := j) (k := 0) (by omega) (by decide)).trans rfl)) ?_
    refine D.qw [] rfl (by kernel_rfl) (Quiet.assign rfl) ?_
    refine D.ph (Phases.fin (G.then_n (G.seq ?_)))
    refine G.draw [8, 32] [[0, 1, 2, 3, 4, 5, 6, 7, 9, 10, 11, 12, 13, 15, 16, 17, 18, 19, 20, 21, 22, 23, 24, 25, 26, 27, 28, 29, 30, 31, 8, 14, 32], [33]] mixed (by kernel_rfl) ?_
    refine Phases.go [ptc ba _ _, ptc bN _ _, ptc x _ _] (by (repeat' constructor)) ?_
    refine D.q rfl (by kernel_rfl) (Quiet.move rfl) ?_
    refine D.q rfl (by kernel_rfl) (Quiet.fieldAddr rfl fo_94_3) ?_
    refine D.q rfl (by kernel_rfl) (Quiet.load rfl ag_9 (by (repeat' constructor)) (rfl)) ?_
    refine D.qw [4, 5, 6, 7, 19, 20, 21, 22, 23, 24, 25, 26, 27, 28, 29, 30, 31, 8, 14, 32] rfl (by kernel_rfl) (Quiet.fieldAddr rfl fo_94_2) ?_
    refine D.qw [5, 6, 7, 19, 20, 21, 22, 23, 24, 25, 26, 27, 28, 29, 30, 31, 8, 14, 32] rfl (by kernel_rfl) (Quiet.load rfl ag_3 (by (repeat' constructor)) (rfl)) ?_
    refine D.m rfl (by kernel_rfl) (OpSpec.call Tryz.func21 rfl rfl (vs := [_, _]) rfl (pick7_spec _ _ ha.h3 (by decide))) (by (repeat' constructor)) ?nx88
    refine D.qw [7, 8, 14, 32] rfl (by kernel_rfl) (Quiet.add rfl rfl (by omega)) ?_
    refine D.qw [8, 14, 32] rfl (by kernel_rfl) (Quiet.to (v' := .agg (acC (1 + pickZ a.2.2.1 31, wldZ)).toArray) (Quiet.build (us := [(0, _), (1, _)]) fl_104 ze_104 rfl rfl (by simp [isCell])) rfl) ?_
    refine D.q rfl (by kernel_rfl) (Quiet.move rfl) ?_
    refine D.q rfl (by kernel_rfl) (Quiet.fieldAddr rfl fo_131_3) ?_
    refine D.q rfl (by kernel_rfl) (Quiet.fieldAddr rfl fo_43_4) ?_
    refine D.q rfl (by kernel_rfl) (Quiet.load rfl ag_3 (by (repeat' constructor)) (rfl)) ?_
    refine D.q rfl (by kernel_rfl) (Quiet.add rfl rfl (by omega)) ?_
    refine D.q rfl (by kernel_rfl) (Quiet.fieldAddr rfl fo_131_3) ?_
    refine D.q rfl (by kernel_rfl) (Quiet.fieldAddr rfl fo_43_6) ?_
    refine D.q rfl (by kernel_rfl) (Quiet.load rfl ag_3 (by (repeat' constructor)) (rfl)) ?_
    refine D.q rfl (by kernel_rfl) (Quiet.int rfl rfl rfl) ?_
    refine D.q rfl (by kernel_rfl) (Quiet.move rfl) ?_
    refine D.dec (t := 98) rfl (fun h12_98 => ?_) (fun h12_98 => ?_)
    ·refine D.kDT (t := 97) rfl h12_98 ?_
     refine D.gq (t := 98) rfl rfl rfl (by kernel_rfl) (Quiet.move rfl) ?_
     refine D.gq (t := 98) rfl rfl rfl (by kernel_rfl) (Quiet.nilp rfl) ?_
     refine D.gq (t := 98) rfl rfl rfl (by kernel_rfl) (Quiet.fieldAddr rfl fo_101_0) ?_
     refine D.gq (t := 98) rfl rfl rfl (by kernel_rfl) (Quiet.load rfl ag_98 (by (repeat' constructor)) (rfl)) ?_
     refine D.gq (t := 98) rfl rfl rfl (by kernel_rfl) (Quiet.slen rfl Tryz.underlying98 rfl) ?_
     refine D.gq (t := 98) rfl rfl rfl (by kernel_rfl) (Quiet.int rfl rfl rfl) ?_
     refine D.q rfl (by kernel_rfl) (Quiet.pickT rfl rfl) ?_
     refine D.q rfl (by kernel_rfl) (Quiet.move rfl) ?_
     refine D.dec (t := 106) rfl (fun h12_106 => ?_) (fun h12_106 => ?_)
     ·refine D.kDT (t := 104) rfl h12_106 (D.kDT (t := 105) rfl h12_106 ?_)
      refine D.gq (t := 106) rfl rfl rfl (by kernel_rfl) (Quiet.move rfl) ?_
      refine D.gm (t := 106) rfl rfl rfl (by kernel_rfl) (OpSpec.call Tryz.func111 rfl rfl (vs := [_]) rfl (rcheck_spec _ ?hs106)) (by (repeat' constructor)) ?nx107
      case hs106 => first | assumption | omega
      refine D.gq (t := 106) rfl rfl rfl (by kernel_rfl) (Quiet.int rfl rfl rfl) ?_
      refine D.q rfl (by kernel_rfl) (Quiet.pickT rfl rfl) ?_
      refine D.h rfl (by kernel_rfl) (OpSpec.buildSlice (vs := [_]) el_34 ze_104 rfl rfl rfl rfl (by first | (simp [Value.cells]; done) | (intro v hv; simp only [List.mem_cons, List.not_mem_nil, or_false] at hv; (repeat (first | (subst hv; rfl) | (rcases hv with hv | hv; (subst hv; rfl)))))) (by decide)) (by (repeat' constructor)) ?nx110
      rintro v L' ⟨b12, rfl, rfl⟩
      refine D.qw [32] rfl (by kernel_rfl) (Quiet.to (v' := .agg (ptC (⟨1, (kidZ z.1 (nm6 (pickZ a.2.2.1 6))), a.2.2.2.1, (.slice (some ⟨b12, 0, none⟩) 1 1), [(1 + pickZ a.2.2.1 31, wldZ)], (τ.sess[j].1), z.2.2.st.cver + 1, 0, .slice none 0 0⟩ : Pt)).toArray) (Quiet.build (us := [(0, _), (1, _), (2, _), (3, _), (4, _), (5, _)]) fl_37 ze_37 rfl rfl (by simp [isCell])) rfl) ?_
      refine D.h rfl (by kernel_rfl) (OpSpec.storeA rfl rfl ?c113 sz_37 ?c116 ?c114 ?c115) (by (repeat' constructor)) ?nx117
      case c113 => exact pt_cells rfl rfl
      case c116 => rfl
      case c114 => simp [ptC]
      case c115 => exact nfz0 _ _
      rintro v L' rfl
      refine D.ph ?_
      refine Phases.go [] (by (repeat' constructor)) ?_
      refine D.qw [] rfl (by kernel_rfl) (Quiet.assign rfl) ?_
      refine D.ph (Phases.fin (G.then_n (G.ret (G.blk_r (G.then_r ?_)))))
      refine G.slMakeN 2 1 (b := b12) (xs := ([(1 + pickZ a.2.2.1 31, wldZ)] : List Ac).flatMap acC) (by (repeat' constructor)) rfl rfl ?_
      refine G.toRd (m := 1) (by (repeat' constructor)) ?_
      refine G.ptCast (b := b0) (l' := ptC (⟨1, (kidZ z.1 (nm6 (pickZ a.2.2.1 6))), a.2.2.2.1, (.slice (some ⟨b12, 0, none⟩) 1 1), [(1 + pickZ a.2.2.1 31, wldZ)], (τ.sess[j].1), z.2.2.st.cver + 1, 0, .slice none 0 0⟩ : Pt)) (by (repeat' constructor)) rfl ?_
      refine G.rfFold (x := x) (τ := τ) (l := m) hm (by (repeat' constructor)) rfl rfl rfl rfl rfl ?_
      exact G.done2 rfl (.cellA rfl ag_37 (by (repeat' constructor)) (by simp [ptC]) rfl) (.tmp rfl) ⟨(⟨1, (kidZ z.1 (nm6 (pickZ a.2.2.1 6))), a.2.2.2.1, (.slice (some ⟨b12, 0, none⟩) 1 1), [(1 + pickZ a.2.2.1 31, wldZ)], (τ.sess[j].1), z.2.2.st.cver + 1, 0, .slice none 0 0⟩ : Pt), _, rfl, fun _ => ⟨⟨by show (0 : Int) ≤ 1; decide, by show (1 : Int) ≤ 4; decide⟩, hpl62, hd, .inr ⟨_, by omega, by omega, rfl⟩, .inr ⟨τ.sess[j].2, al_of_mem (hinv.ok.ssorted.nodup linI) (List.getElem_mem hj)⟩, ⟨by show 0 ≤ z.2.2.st.cver + 1; omega, by show z.2.2.st.cver + 1 ≤ K + 1; omega⟩, rfl, fun _ => by omega⟩, ⟨rfl, rfl, by simp, by first | exact hpl62 | (simp; done) | (show z.1.length ≤ 62; omega)⟩, rfl⟩ (by (repeat' constructor)) (by (repeat' constructor))
     ·refine D.kDF (t := 104) rfl h12_106 (D.kDF (t := 105) rfl h12_106 ?_)
      refine D.gs (t := 106) rfl rfl rfl rfl (by kernel_rfl) ?_
      refine D.gs (t := 106) rfl rfl rfl rfl (by kernel_rfl) ?_
      refine D.gs (t := 106) rfl rfl rfl rfl (by kernel_rfl) ?_
      refine D.q rfl (by kernel_rfl) (Quiet.pickF rfl rfl) ?_
      refine D.h rfl (by kernel_rfl) (OpSpec.buildSlice (vs := [_]) el_34 ze_104 rfl rfl rfl rfl (by first | (simp [Value.cells]; done) | (intro v hv; simp only [List.mem_cons, List.not_mem_nil, or_false] at hv; (repeat (first | (subst hv; rfl) | (rcases hv with hv | hv; (subst hv; rfl)))))) (by decide)) (by (repeat' constructor)) ?nx119
      rintro v L' ⟨b12, rfl, rfl⟩
      refine D.qw [32] rfl (by kernel_rfl) (Quiet.to (v' := .agg (ptC (⟨1, (kidZ z.1 (nm6 (pickZ a.2.2.1 6))), a.2.2.2.1, (.slice (some ⟨b12, 0, none⟩) 1 1), [(1 + pickZ a.2.2.1 31, wldZ)], (τ.sess[j].1), z.2.2.st.cver + 1, 0, .slice none 0 0⟩ : Pt)).toArray) (Quiet.build (us := [(0, _), (1, _), (2, _), (3, _), (4, _), (5, _)]) fl_37 ze_37 rfl rfl (by simp [isCell])) rfl) ?_
      refine D.h rfl (by kernel_rfl) (OpSpec.storeA rfl rfl ?c122 sz_37 ?c125 ?c123 ?c124) (by (repeat' constructor)) ?nx126
      case c122 => exact pt_cells rfl rfl
      case c125 => rfl
      case c123 => simp [ptC]
      case c124 => exact nfz0 _ _
      rintro v L' rfl
      refine D.ph ?_
      refine Phases.go [] (by (repeat' constructor)) ?_
      refine D.qw [] rfl (by kernel_rfl) (Quiet.assign rfl) ?_
      refine D.ph (Phases.fin (G.then_n (G.ret (G.blk_r (G.then_r ?_)))))
      refine G.slMakeN 2 1 (b := b12) (xs := ([(1 + pickZ a.2.2.1 31, wldZ)] : List Ac).flatMap acC) (by (repeat' constructor)) rfl rfl ?_
      refine G.toRd (m := 1) (by (repeat' constructor)) ?_
      refine G.ptCast (b := b0) (l' := ptC (⟨1, (kidZ z.1 (nm6 (pickZ a.2.2.1 6))), a.2.2.2.1, (.slice (some ⟨b12, 0, none⟩) 1 1), [(1 + pickZ a.2.2.1 31, wldZ)], (τ.sess[j].1), z.2.2.st.cver + 1, 0, .slice none 0 0⟩ : Pt)) (by (repeat' constructor)) rfl ?_
      refine G.rfFold (x := x) (τ := τ) (l := m) hm (by (repeat' constructor)) rfl rfl rfl rfl rfl ?_
      exact G.done2 rfl (.cellA rfl ag_37 (by (repeat' constructor)) (by simp [ptC]) rfl) (.tmp rfl) ⟨(⟨1, (kidZ z.1 (nm6 (pickZ a.2.2.1 6))), a.2.2.2.1, (.slice (some ⟨b12, 0, none⟩) 1 1), [(1 + pickZ a.2.2.1 31, wldZ)], (τ.sess[j].1), z.2.2.st.cver + 1, 0, .slice none 0 0⟩ : Pt), false, rfl, (fun e => by cases e), ⟨rfl, rfl, by simp, by first | exact hpl62 | (simp; done) | (show z.1.length ≤ 62; omega)⟩, rfl⟩ (by (repeat' constructor)) (by (repeat' constructor))
    ·refine D.kDF (t := 97) rfl h12_98 ?_
     refine D.gs (t := 98) rfl rfl rfl rfl (by kernel_rfl) ?_
     refine D.gs (t := 98) rfl rfl rfl rfl (by kernel_rfl) ?_
     refine D.gs (t := 98) rfl rfl rfl rfl (by kernel_rfl) ?_
     refine D.gs (t := 98) rfl rfl rfl rfl (by kernel_rfl) ?_
     refine D.gs (t := 98) rfl rfl rfl rfl (by kernel_rfl) ?_
     refine D.gs (t := 98) rfl rfl rfl rfl (by kernel_rfl) ?_
     refine D.q rfl (by kernel_rfl) (Quiet.pickF rfl rfl) ?_
     refine D.q rfl (by kernel_rfl) (Quiet.move rfl) ?_
     refine D.gs (t := 106) rfl rfl rfl rfl (by kernel_rfl) ?_
     refine D.gs (t := 106) rfl rfl rfl rfl (by kernel_rfl) ?_
     refine D.gs (t := 106) rfl rfl rfl rfl (by kernel_rfl) ?_
     refine D.q rfl (by kernel_rfl) (Quiet.pickF rfl rfl) ?_
     refine D.h rfl (by kernel_rfl) (OpSpec.buildSlice (vs := [_]) el_34 ze_104 rfl rfl rfl rfl (by first | (simp [Value.cells]; done) | (intro v hv; simp only [List.mem_cons, List.not_mem_nil, or_false] at hv; (repeat (first | (subst hv; rfl) | (rcases hv with hv | hv; (subst hv; rfl)))))) (by decide)) (by (repeat' constructor)) ?nx129
     rintro v L' ⟨b12, rfl, rfl⟩
     refine D.qw [32] rfl (by kernel_rfl) (Quiet.to (v' := .agg (ptC (⟨1, (kidZ z.1 (nm6 (pickZ a.2.2.1 6))), a.2.2.2.1, (.slice (some ⟨b12, 0, none⟩) 1 1), [(1 + pickZ a.2.2.1 31, wldZ)], (τ.sess[j].1), z.2.2.st.cver + 1, 0, .slice none 0 0⟩ : Pt)).toArray) (Quiet.build (us := [(0, _), (1, _), (2, _), (3, _), (4, _), (5, _)]) fl_37 ze_37 rfl rfl (by simp [isCell])) rfl) ?_
     refine D.h rfl (by kernel_rfl) (OpSpec.storeA rfl rfl ?c132 sz_37 ?c135 ?c133 ?c134) (by (repeat' constructor)) ?nx136
     case c132 => exact pt_cells rfl rfl
     case c135 => rfl
     case c133 => simp [ptC]
     case c134 => exact nfz0 _ _
     rintro v L' rfl
     refine D.ph ?_
     refine Phases.go [] (by (repeat' constructor)) ?_
     refine D.qw [] rfl (by kernel_rfl) (Quiet.assign rfl) ?_
     refine D.ph (Phases.fin (G.then_n (G.ret (G.blk_r (G.then_r ?_)))))
     refine G.slMakeN 2 1 (b := b12) (xs := ([(1 + pickZ a.2.2.1 31, wldZ)] : List Ac).flatMap acC) (by (repeat' constructor)) rfl rfl ?_
     refine G.toRd (m := 1) (by (repeat' constructor)) ?_
     refine G.ptCast (b := b0) (l' := ptC (⟨1, (kidZ z.1 (nm6 (pickZ a.2.2.1 6))), a.2.2.2.1, (.slice (some ⟨b12, 0, none⟩) 1 1), [(1 + pickZ a.2.2.1 31, wldZ)], (τ.sess[j].1), z.2.2.st.cver + 1, 0, .slice none 0 0⟩ : Pt)) (by (repeat' constructor)) rfl ?_
     refine G.rfFold (x := x) (τ := τ) (l := m) hm (by (repeat' constructor)) rfl rfl rfl rfl rfl ?_
     exact G.done2 rfl (.cellA rfl ag_37 (by (repeat' constructor)) (by simp [ptC]) rfl) (.tmp rfl) ⟨(⟨1, (kidZ z.1 (nm6 (pickZ a.2.2.1 6))), a.2.2.2.1, (.slice (some ⟨b12, 0, none⟩) 1 1), [(1 + pickZ a.2.2.1 31, wldZ)], (τ.sess[j].1), z.2.2.st.cver + 1, 0, .slice none 0 0⟩ : Pt), false, rfl, (fun e => by cases e), ⟨rfl, rfl, by simp, by first | exact hpl62 | (simp; done) | (show z.1.length ≤ 62; omega)⟩, rfl⟩ (by (repeat' constructor)) (by (repeat' constructor))
   ·refine G.skip (G.then_n (G.seq ?_))
    refine G.draw [8, 32] [[0, 1, 2, 3, 4, 5, 6, 7, 9, 10, 11, 12, 13, 15, 16, 17, 18, 19, 20, 21, 22, 23, 24, 25, 26, 27, 28, 29, 30, 31, 8, 14, 32], [33]] mixed (by kernel_rfl) ?_
    refine Phases.go [ptc ba _ _, ptc bN _ _, ptc x _ _] (by (repeat' constructor)) ?_
    refine D.q rfl (by kernel_rfl) (Quiet.move rfl) ?_
    refine D.q rfl (by kernel_rfl) (Quiet.fieldAddr rfl fo_94_3) ?_
    refine D.q rfl (by kernel_rfl) (Quiet.load rfl ag_9 (by (repeat' constructor)) (rfl)) ?_
    refine D.qw [4, 5, 6, 7, 19, 20, 21, 22, 23, 24, 25, 26, 27, 28, 29, 30, 31, 8, 14, 32] rfl (by kernel_rfl) (Quiet.fieldAddr rfl fo_94_2) ?_
    refine D.qw [5, 6, 7, 19, 20, 21, 22, 23, 24, 25, 26, 27, 28, 29, 30, 31, 8, 14, 32] rfl (by kernel_rfl) (Quiet.load rfl ag_3 (by (repeat' constructor)) (rfl)) ?_
    refine D.m rfl (by kernel_rfl) (OpSpec.call Tryz.func21 rfl rfl (vs := [_, _]) rfl (pick7_spec _ _ ha.h3 (by decide))) (by (repeat' constructor)) ?nx141
    refine D.qw [7, 8, 14, 32] rfl (by kernel_rfl) (Quiet.add rfl rfl (by omega)) ?_
    refine D.qw [8, 14, 32] rfl (by kernel_rfl) (Quiet.to (v' := .agg (acC (1 + pickZ a.2.2.1 31, wldZ)).toArray) (Quiet.build (us := [(0, _), (1, _)]) fl_104 ze_104 rfl rfl (by simp [isCell])) rfl) ?_
    refine D.q rfl (by kernel_rfl) (Quiet.move rfl) ?_
    refine D.q rfl (by kernel_rfl) (Quiet.fieldAddr rfl fo_131_3) ?_
    refine D.q rfl (by kernel_rfl) (Quiet.fieldAddr rfl fo_43_4) ?_
    refine D.q rfl (by kernel_rfl) (Quiet.load rfl ag_3 (by (repeat' constructor)) (rfl)) ?_
    refine D.q rfl (by kernel_rfl) (Quiet.add rfl rfl (by omega)) ?_
    refine D.q rfl (by kernel_rfl) (Quiet.fieldAddr rfl fo_131_3) ?_
    refine D.q rfl (by kernel_rfl) (Quiet.fieldAddr rfl fo_43_6) ?_
    refine D.q rfl (by kernel_rfl) (Quiet.load rfl ag_3 (by (repeat' constructor)) (rfl)) ?_
    refine D.q rfl (by kernel_rfl) (Quiet.int rfl rfl rfl) ?_
    refine D.q rfl (by kernel_rfl) (Quiet.move rfl) ?_
    refine D.dec (t := 98) rfl (fun h12_98 => ?_) (fun h12_98 => ?_)
    ·refine D.kDT (t := 97) rfl h12_98 ?_
     refine D.gq (t := 98) rfl rfl rfl (by kernel_rfl) (Quiet.move rfl) ?_
     refine D.gq (t := 98) rfl rfl rfl (by kernel_rfl) (Quiet.nilp rfl) ?_
     refine D.gq (t := 98) rfl rfl rfl (by kernel_rfl) (Quiet.fieldAddr rfl fo_101_0) ?_
     refine D.gq (t := 98) rfl rfl rfl (by kernel_rfl) (Quiet.load rfl ag_98 (by (repeat' constructor)) (rfl)) ?_
     refine D.gq (t := 98) rfl rfl rfl (by kernel_rfl) (Quiet.slen rfl Tryz.underlying98 rfl) ?_
     refine D.gq (t := 98) rfl rfl rfl (by kernel_rfl) (Quiet.int rfl rfl rfl) ?_
     refine D.q rfl (by kernel_rfl) (Quiet.pickT rfl rfl) ?_
     refine D.q rfl (by kernel_rfl) (Quiet.move rfl) ?_
     refine D.dec (t := 106) rfl (fun h12_106 => ?_) (fun h12_106 => ?_)
     ·refine D.kDT (t := 104) rfl h12_106 (D.kDT (t := 105) rfl h12_106 ?_)
      refine D.gq (t := 106) rfl rfl rfl (by kernel_rfl) (Quiet.move rfl) ?_
      refine D.gm (t := 106) rfl rfl rfl (by kernel_rfl) (OpSpec.call Tryz.func111 rfl rfl (vs := [_]) rfl (rcheck_spec _ ?hs159)) (by (repeat' constructor)) ?nx160
      case hs159 => first | assumption | omega
      refine D.gq (t := 106) rfl rfl rfl (by kernel_rfl) (Quiet.int rfl rfl rfl) ?_
      refine D.q rfl (by kernel_rfl) (Quiet.pickT rfl rfl) ?_
      refine D.h rfl (by kernel_rfl) (OpSpec.buildSlice (vs := [_]) el_34 ze_104 rfl rfl rfl rfl (by first | (simp [Value.cells]; done) | (intro v hv; simp only [List.mem_cons, List.not_mem_nil, or_false] at hv; (repeat (first | (subst hv; rfl) | (rcases hv with hv | hv; (subst hv; rfl)))))) (by decide)) (by (repeat' constructor)) ?nx163
      rintro v L' ⟨b12, rfl, rfl⟩
      refine D.qw [32] rfl (by kernel_rfl) (Quiet.to (v' := .agg (ptC (⟨1, (kidZ z.1 (nm6 (pickZ a.2.2.1 6))), a.2.2.2.1, (.slice (some ⟨b12, 0, none⟩) 1 1), [(1 + pickZ a.2.2.1 31, wldZ)], 0, z.2.2.st.cver + 1, 0, .slice none 0 0⟩ : Pt)).toArray) (Quiet.build (us := [(0, _), (1, _), (2, _), (3, _), (4, _), (5, _)]) fl_37 ze_37 rfl rfl (by simp [isCell])) rfl) ?_
      refine D.h rfl (by kernel_rfl) (OpSpec.storeA rfl rfl ?c166 sz_37 ?c169 ?c167 ?c168) (by (repeat' constructor)) ?nx170
      case c166 => exact pt_cells rfl rfl
      case c169 => rfl
      case c167 => simp [ptC]
      case c168 => exact nfz0 _ _
      rintro v L' rfl
      refine D.ph ?_
      refine Phases.go [] (by (repeat' constructor)) ?_
      refine D.qw [] rfl (by kernel_rfl) (Quiet.assign rfl) ?_
      refine D.ph (Phases.fin (G.then_n (G.ret (G.blk_r (G.then_r ?_)))))
      refine G.slMakeN 2 1 (b := b12) (xs := ([(1 + pickZ a.2.2.1 31, wldZ)] : List Ac).flatMap acC) (by (repeat' constructor)) rfl rfl ?_
      refine G.toRd (m := 1) (by (repeat' constructor)) ?_
      refine G.ptCast (b := b0) (l' := ptC (⟨1, (kidZ z.1 (nm6 (pickZ a.2.2.1 6))), a.2.2.2.1, (.slice (some ⟨b12, 0, none⟩) 1 1), [(1 + pickZ a.2.2.1 31, wldZ)], 0, z.2.2.st.cver + 1, 0, .slice none 0 0⟩ : Pt)) (by (repeat' constructor)) rfl ?_
      refine G.rfFold (x := x) (τ := τ) (l := m) hm (by (repeat' constructor)) rfl rfl rfl rfl rfl ?_
      exact G.done2 rfl (.cellA rfl ag_37 (by (repeat' constructor)) (by simp [ptC]) rfl) (.tmp rfl) ⟨(⟨1, (kidZ z.1 (nm6 (pickZ a.2.2.1 6))), a.2.2.2.1, (.slice (some ⟨b12, 0, none⟩) 1 1), [(1 + pickZ a.2.2.1 31, wldZ)], 0, z.2.2.st.cver + 1, 0, .slice none 0 0⟩ : Pt), _, rfl, fun _ => ⟨⟨by show (0 : Int) ≤ 1; decide, by show (1 : Int) ≤ 4; decide⟩, hpl62, hd, .inr ⟨_, by omega, by omega, rfl⟩, .inl rfl, ⟨by show 0 ≤ z.2.2.st.cver + 1; omega, by show z.2.2.st.cver + 1 ≤ K + 1; omega⟩, rfl, fun _ => by omega⟩, ⟨rfl, rfl, by simp, by first | exact hpl62 | (simp; done) | (show z.1.length ≤ 62; omega)⟩, rfl⟩ (by (repeat' constructor)) (by (repeat' constructor))
     ·refine D.kDF (t := 104) rfl h12_106 (D.kDF (t := 105) rfl h12_106 ?_)
      refine D.gs (t := 106) rfl rfl rfl rfl (by kernel_rfl) ?_
      refine D.gs (t := 106) rfl rfl rfl rfl (by kernel_rfl) ?_
      refine D.gs (t := 106) rfl rfl rfl rfl (by kernel_rfl) ?_
      refine D.q rfl (by kernel_rfl) (Quiet.pickF rfl rfl) ?_
      refine D.h rfl (by kernel_rfl) (OpSpec.buildSlice (vs := [_]) el_34 ze_104 rfl rfl rfl rfl (by first | (simp [Value.cells]; done) | (intro v hv; simp only [List.mem_cons, List.not_mem_nil, or_false] at hv; (repeat (first | (subst hv; rfl) | (rcases hv with hv | hv; (subst hv; rfl)))))) (by decide)) (by (repeat' constructor)) ?nx172
      rintro v L' ⟨b12, rfl, rfl⟩
      refine D.qw [32] rfl (by kernel_rfl) (Quiet.to (v' := .agg (ptC (⟨1, (kidZ z.1 (nm6 (pickZ a.2.2.1 6))), a.2.2.2.1, (.slice (some ⟨b12, 0, none⟩) 1 1), [(1 + pickZ a.2.2.1 31, wldZ)], 0, z.2.2.st.cver + 1, 0, .slice none 0 0⟩ : Pt)).toArray) (Quiet.build (us := [(0, _), (1, _), (2, _), (3, _), (4, _), (5, _)]) fl_37 ze_37 rfl rfl (by simp [isCell])) rfl) ?_
      refine D.h rfl (by kernel_rfl) (OpSpec.storeA rfl rfl ?c175 sz_37 ?c178 ?c176 ?c177) (by (repeat' constructor)) ?nx179
      case c175 => exact pt_cells rfl rfl
      case c178 => rfl
      case c176 => simp [ptC]
      case c177 => exact nfz0 _ _
      rintro v L' rfl
      refine D.ph ?_
      refine Phases.go [] (by (repeat' constructor)) ?_
      refine D.qw [] rfl (by kernel_rfl) (Quiet.assign rfl) ?_
      refine D.ph (Phases.fin (G.then_n (G.ret (G.blk_r (G.then_r ?_)))))
      refine G.slMakeN 2 1 (b := b12) (xs := ([(1 + pickZ a.2.2.1 31, wldZ)] : List Ac).flatMap acC) (by (repeat' constructor)) rfl rfl ?_
      refine G.toRd (m := 1) (by (repeat' constructor)) ?_
      refine G.ptCast (b := b0) (l' := ptC (⟨1, (kidZ z.1 (nm6 (pickZ a.2.2.1 6))), a.2.2.2.1, (.slice (some ⟨b12, 0, none⟩) 1 1), [(1 + pickZ a.2.2.1 31, wldZ)], 0, z.2.2.st.cver + 1, 0, .slice none 0 0⟩ : Pt)) (by (repeat' constructor)) rfl ?_
      refine G.rfFold (x := x) (τ := τ) (l := m) hm (by (repeat' constructor)) rfl rfl rfl rfl rfl ?_
      exact G.done2 rfl (.cellA rfl ag_37 (by (repeat' constructor)) (by simp [ptC]) rfl) (.tmp rfl) ⟨(⟨1, (kidZ z.1 (nm6 (pickZ a.2.2.1 6))), a.2.2.2.1, (.slice (some ⟨b12, 0, none⟩) 1 1), [(1 + pickZ a.2.2.1 31, wldZ)], 0, z.2.2.st.cver + 1, 0, .slice none 0 0⟩ : Pt), false, rfl, (fun e => by cases e), ⟨rfl, rfl, by simp, by first | exact hpl62 | (simp; done) | (show z.1.length ≤ 62; omega)⟩, rfl⟩ (by (repeat' constructor)) (by (repeat' constructor))
    ·refine D.kDF (t := 97) rfl h12_98 ?_
     refine D.gs (t := 98) rfl rfl rfl rfl (by kernel_rfl) ?_
     refine D.gs (t := 98) rfl rfl rfl rfl (by kernel_rfl) ?_
     refine D.gs (t := 98) rfl rfl rfl rfl (by kernel_rfl) ?_
     refine D.gs (t := 98) rfl rfl rfl rfl (by kernel_rfl) ?_
     refine D.gs (t := 98) rfl rfl rfl rfl (by kernel_rfl) ?_
     refine D.gs (t := 98) rfl rfl rfl rfl (by kernel_rfl) ?_
     refine D.q rfl (by kernel_rfl) (Quiet.pickF rfl rfl) ?_
     refine D.q rfl (by kernel_rfl) (Quiet.move rfl) ?_
     refine D.gs (t := 106) rfl rfl rfl rfl (by kernel_rfl) ?_
     refine D.gs (t := 106) rfl rfl rfl rfl (by kernel_rfl) ?_
     refine D.gs (t := 106) rfl rfl rfl rfl (by kernel_rfl) ?_
     refine D.q rfl (by kernel_rfl) (Quiet.pickF rfl rfl) ?_
     refine D.h rfl (by kernel_rfl) (OpSpec.buildSlice (vs := [_]) el_34 ze_104 rfl rfl rfl rfl (by first | (simp [Value.cells]; done) | (intro v hv; simp only [List.mem_cons, List.not_mem_nil, or_false] at hv; (repeat (first | (subst hv; rfl) | (rcases hv with hv | hv; (subst hv; rfl)))))) (by decide)) (by (repeat' constructor)) ?nx182
     rintro v L' ⟨b12, rfl, rfl⟩
     refine D.qw [32] rfl (by kernel_rfl) (Quiet.to (v' := .agg (ptC (⟨1, (kidZ z.1 (nm6 (pickZ a.2.2.1 6))), a.2.2.2.1, (.slice (some ⟨b12, 0, none⟩) 1 1), [(1 + pickZ a.2.2.1 31, wldZ)], 0, z.2.2.st.cver + 1, 0, .slice none 0 0⟩ : Pt)).toArray) (Quiet.build (us := [(0, _), (1, _), (2, _), (3, _), (4, _), (5, _)]) fl_37 ze_37 rfl rfl (by simp [isCell])) rfl) ?_
     refine D.h rfl (by kernel_rfl) (OpSpec.storeA rfl rfl ?c185 sz_37 ?c188 ?c186 ?c187) (by (repeat' constructor)) ?nx189
     case c185 => exact pt_cells rfl rfl
     case c188 => rfl
     case c186 => simp [ptC]
     case c187 => exact nfz0 _ _
     rintro v L' rfl
     refine D.ph ?_
     refine Phases.go [] (by (repeat' constructor)) ?_
     refine D.qw [] rfl (by kernel_rfl) (Quiet.assign rfl) ?_
     refine D.ph (Phases.fin (G.then_n (G.ret (G.blk_r (G.then_r ?_)))))
     refine G.slMakeN 2 1 (b := b12) (xs := ([(1 + pickZ a.2.2.1 31, wldZ)] : List Ac).flatMap acC) (by (repeat' constructor)) rfl rfl ?_
     refine G.toRd (m := 1) (by (repeat' constructor)) ?_
     refine G.ptCast (b := b0) (l' := ptC (⟨1, (kidZ z.1 (nm6 (pickZ a.2.2.1 6))), a.2.2.2.1, (.slice (some ⟨b12, 0, none⟩) 1 1), [(1 + pickZ a.2.2.1 31, wldZ)], 0, z.2.2.st.cver + 1, 0, .slice none 0 0⟩ : Pt)) (by (repeat' constructor)) rfl ?_
     refine G.rfFold (x := x) (τ := τ) (l := m) hm (by (repeat' constructor)) rfl rfl rfl rfl rfl ?_
     exact G.done2 rfl (.cellA rfl ag_37 (by (repeat' constructor)) (by simp [ptC]) rfl) (.tmp rfl) ⟨(⟨1, (kidZ z.1 (nm6 (pickZ a.2.2.1 6))), a.2.2.2.1, (.slice (some ⟨b12, 0, none⟩) 1 1), [(1 + pickZ a.2.2.1 31, wldZ)], 0, z.2.2.st.cver + 1, 0, .slice none 0 0⟩ : Pt), false, rfl, (fun e => by cases e), ⟨rfl, rfl, by simp, by first | exact hpl62 | (simp; done) | (show z.1.length ≤ 62; omega)⟩, rfl⟩ (by (repeat' constructor)) (by (repeat' constructor))
  ·refine G.kDF (t := 56) rfl h10_58 (G.kDF (t := 57) rfl h10_58 (G.gskip (t := 58) rfl rfl rfl rfl (G.gskip (t := 58) rfl rfl rfl rfl (G.gskip (t := 58) rfl rfl rfl rfl (G.gskip (t := 58) rfl rfl rfl rfl (G.q (Quiet.pickF rfl rfl) rfl (G.nil (G.then_n (G.condF rfl (G.skip (G.then_n (G.seq ?_))))))))))))
   refine G.draw [8, 32] [[0, 1, 2, 3, 4, 5, 6, 7, 9, 10, 11, 12, 13, 15, 16, 17, 18, 19, 20, 21, 22, 23, 24, 25, 26, 27, 28, 29, 30, 31, 8, 14, 32], [33]] mixed (by kernel_rfl) ?_
   refine Phases.go [ptc ba _ _, ptc bN _ _, ptc x _ _] (by (repeat' constructor)) ?_
   refine D.q rfl (by kernel_rfl) (Quiet.move rfl) ?_
   refine D.q rfl (by kernel_rfl) (Quiet.fieldAddr rfl fo_94_3) ?_
   refine D.q rfl (by kernel_rfl) (Quiet.load rfl ag_9 (by (repeat' constructor)) (rfl)) ?_
   refine D.qw [4, 5, 6, 7, 19, 20, 21, 22, 23, 24, 25, 26, 27, 28, 29, 30, 31, 8, 14, 32] rfl (by kernel_rfl) (Quiet.fieldAddr rfl fo_94_2) ?_
   refine D.qw [5, 6, 7, 19, 20, 21, 22, 23, 24, 25, 26, 27, 28, 29, 30, 31, 8, 14, 32] rfl (by kernel_rfl) (Quiet.load rfl ag_3 (by (repeat' constructor)) (rfl)) ?_
   refine D.m rfl (by kernel_rfl) (OpSpec.call Tryz.func21 rfl rfl (vs := [_, _]) rfl (pick7_spec _ _ ha.h3 (by decide))) (by (repeat' constructor)) ?nx195
   refine D.qw [7, 8, 14, 32] rfl (by kernel_rfl) (Quiet.add rfl rfl (by omega)) ?_
   refine D.qw [8, 14, 32] rfl (by kernel_rfl) (Quiet.to (v' := .agg (acC (1 + pickZ a.2.2.1 31, wldZ)).toArray) (Quiet.build (us := [(0, _), (1, _)]) fl_104 ze_104 rfl rfl (by simp [isCell])) rfl) ?_
   refine D.q rfl (by kernel_rfl) (Quiet.move rfl) ?_
   refine D.q rfl (by kernel_rfl) (Quiet.fieldAddr rfl fo_131_3) ?_
   refine D.q rfl (by kernel_rfl) (Quiet.fieldAddr rfl fo_43_4) ?_
   refine D.q rfl (by kernel_rfl) (Quiet.load rfl ag_3 (by (repeat' constructor)) (rfl)) ?_
   refine D.q rfl (by kernel_rfl) (Quiet.add rfl rfl (by omega)) ?_
   refine D.q rfl (by kernel_rfl) (Quiet.fieldAddr rfl fo_131_3) ?_
   refine D.q rfl (by kernel_rfl) (Quiet.fieldAddr rfl fo_43_6) ?_
   refine D.q rfl (by kernel_rfl) (Quiet.load rfl ag_3 (by (repeat' constructor)) (rfl)) ?_
   refine D.q rfl (by kernel_rfl) (Quiet.int rfl rfl rfl) ?_
   refine D.q rfl (by kernel_rfl) (Quiet.move rfl) ?_
   refine D.dec (t := 98) rfl (fun h12_98 => ?_) (fun h12_98 => ?_)
   ·refine D.kDT (t := 97) rfl h12_98 ?_
    refine D.gq (t := 98) rfl rfl rfl (by kernel_rfl) (Quiet.move rfl) ?_
    refine D.gq (t := 98) rfl rfl rfl (by kernel_rfl) (Quiet.nilp rfl) ?_
    refine D.gq (t := 98) rfl rfl rfl (by kernel_rfl) (Quiet.fieldAddr rfl fo_101_0) ?_
    refine D.gq (t := 98) rfl rfl rfl (by kernel_rfl) (Quiet.load rfl ag_98 (by (repeat' constructor)) (rfl)) ?_
    refine D.gq (t := 98) rfl rfl rfl (by kernel_rfl) (Quiet.slen rfl Tryz.underlying98 rfl) ?_
    refine D.gq (t := 98) rfl rfl rfl (by kernel_rfl) (Quiet.int rfl rfl rfl) ?_
    refine D.q rfl (by kernel_rfl) (Quiet.pickT rfl rfl) ?_
    refine D.q rfl (by kernel_rfl) (Quiet.move rfl) ?_
    refine D.dec (t := 106) rfl (fun h12_106 => ?_) (fun h12_106 => ?_)
    ·refine D.kDT (t := 104) rfl h12_106 (D.kDT (t := 105) rfl h12_106 ?_)
     refine D.gq (t := 106) rfl rfl rfl (by kernel_rfl) (Quiet.move rfl) ?_
     refine D.gm (t := 106) rfl rfl rfl (by kernel_rfl) (OpSpec.call Tryz.func111 rfl rfl (vs := [_]) rfl (rcheck_spec _ ?hs213)) (by (repeat' constructor)) ?nx214
     case hs213 => first | assumption | omega
     refine D.gq (t := 106) rfl rfl rfl (by kernel_rfl) (Quiet.int rfl rfl rfl) ?_
     refine D.q rfl (by kernel_rfl) (Quiet.pickT rfl rfl) ?_
     refine D.h rfl (by kernel_rfl) (OpSpec.buildSlice (vs := [_]) el_34 ze_104 rfl rfl rfl rfl (by first | (simp [Value.cells]; done) | (intro v hv; simp only [List.mem_cons, List.not_mem_nil, or_false] at hv; (repeat (first | (subst hv; rfl) | (rcases hv with hv | hv; (subst hv; rfl)))))) (by decide)) (by (repeat' constructor)) ?nx217
     rintro v L' ⟨b12, rfl, rfl⟩
     refine D.qw [32] rfl (by kernel_rfl) (Quiet.to (v' := .agg (ptC (⟨1, (kidZ z.1 (nm6 (pickZ a.2.2.1 6))), a.2.2.2.1, (.slice (some ⟨b12, 0, none⟩) 1 1), [(1 + pickZ a.2.2.1 31, wldZ)], 0, z.2.2.st.cver + 1, 0, .slice none 0 0⟩ : Pt)).toArray) (Quiet.build (us := [(0, _), (1, _), (2, _), (3, _), (4, _), (5, _)]) fl_37 ze_37 rfl rfl (by simp [isCell])) rfl) ?_
     refine D.h rfl (by kernel_rfl) (OpSpec.storeA rfl rfl ?c220 sz_37 ?c223 ?c221 ?c222) (by (repeat' constructor)) ?nx224
     case c220 => exact pt_cells rfl rfl
     case c223 => rfl
     case c221 => simp [ptC]
     case c222 => exact nfz0 _ _
     rintro v L' rfl
     refine D.ph ?_
     refine Phases.go [] (by (repeat' constructor)) ?_
     refine D.qw [] rfl (by kernel_rfl) (Quiet.assign rfl) ?_
     refine D.ph (Phases.fin (G.then_n (G.ret (G.blk_r (G.then_r ?_)))))
     refine G.slMakeN 2 1 (b := b12) (xs := ([(1 + pickZ a.2.2.1 31, wldZ)] : List Ac).flatMap acC) (by (repeat' constructor)) rfl rfl ?_
     refine G.toRd (m := 1) (by (repeat' constructor)) ?_
     refine G.ptCast (b := b0) (l' := ptC (⟨1, (kidZ z.1 (nm6 (pickZ a.2.2.1 6))), a.2.2.2.1, (.slice (some ⟨b12, 0, none⟩) 1 1), [(1 + pickZ a.2.2.1 31, wldZ)], 0, z.2.2.st.cver + 1, 0, .slice none 0 0⟩ : Pt)) (by (repeat' constructor)) rfl ?_
     refine G.rfFold (x := x) (τ := τ) (l := m) hm (by (repeat' constructor)) rfl rfl rfl rfl rfl ?_
     exact G.done2 rfl (.cellA rfl ag_37 (by (repeat' constructor)) (by simp [ptC]) rfl) (.tmp rfl) ⟨(⟨1, (kidZ z.1 (nm6 (pickZ a.2.2.1 6))), a.2.2.2.1, (.slice (some ⟨b12, 0, none⟩) 1 1), [(1 + pickZ a.2.2.1 31, wldZ)], 0, z.2.2.st.cver + 1, 0, .slice none 0 0⟩ : Pt), _, rfl, fun _ => ⟨⟨by show (0 : Int) ≤ 1; decide, by show (1 : Int) ≤ 4; decide⟩, hpl62, hd, .inr ⟨_, by omega, by omega, rfl⟩, .inl rfl, ⟨by show 0 ≤ z.2.2.st.cver + 1; omega, by show z.2.2.st.cver + 1 ≤ K + 1; omega⟩, rfl, fun _ => by omega⟩, ⟨rfl, rfl, by simp, by first | exact hpl62 | (simp; done) | (show z.1.length ≤ 62; omega)⟩, rfl⟩ (by (repeat' constructor)) (by (repeat' constructor))
    ·refine D.kDF (t := 104) rfl h12_106 (D.kDF (t := 105) rfl h12_106 ?_)
     refine D.gs (t := 106) rfl rfl rfl rfl (by kernel_rfl) ?_
     refine D.gs (t := 106) rfl rfl rfl rfl (by kernel_rfl) ?_
     refine D.gs (t := 106) rfl rfl rfl rfl (by kernel_rfl) ?_
     refine D.q rfl (by kernel_rfl) (Quiet.pickF rfl rfl) ?_
     refine D.h rfl (by kernel_rfl) (OpSpec.buildSlice (vs := [_]) el_34 ze_104 rfl rfl rfl rfl (by first | (simp [Value.cells]; done) | (intro v hv; simp only [List.mem_cons, List.not_mem_nil, or_false] at hv; (repeat (first | (subst hv; rfl) | (rcases hv with hv | hv; (subst hv; rfl)))))) (by decide)) (by (repeat' constructor)) ?nx226
     rintro v L' ⟨b12, rfl, rfl⟩
     refine D.qw [32] rfl (by kernel_rfl) (Quiet.to (v' := .agg (ptC (⟨1, (kidZ z.1 (nm6 (pickZ a.2.2.1 6))), a.2.2.2.1, (.slice (some ⟨b12, 0, none⟩) 1 1), [(1 + pickZ a.2.2.1 31, wldZ)], 0, z.2.2.st.cver + 1, 0, .slice none 0 0⟩ : Pt)).toArray) (Quiet.build (us := [(0, _), (1, _), (2, _), (3, _), (4, _), (5, _)]) fl_37 ze_37 rfl rfl (by simp [isCell])) rfl) ?_
     refine D.h rfl (by kernel_rfl) (OpSpec.storeA rfl rfl ?c229 sz_37 ?c232 ?c230 ?c231) (by (repeat' constructor)) ?nx233
     case c229 => exact pt_cells rfl rfl
     case c232 => rfl
     case c230 => simp [ptC]
     case c231 => exact nfz0 _ _
     rintro v L' rfl
     refine D.ph ?_
     refine Phases.go [] (by (repeat' constructor)) ?_
     refine D.qw [] rfl (by kernel_rfl) (Quiet.assign rfl) ?_
     refine D.ph (Phases.fin (G.then_n (G.ret (G.blk_r (G.then_r ?_)))))
     refine G.slMakeN 2 1 (b := b12) (xs := ([(1 + pickZ a.2.2.1 31, wldZ)] : List Ac).flatMap acC) (by (repeat' constructor)) rfl rfl ?_
     refine G.toRd (m := 1) (by (repeat' constructor)) ?_
     refine G.ptCast (b := b0) (l' := ptC (⟨1, (kidZ z.1 (nm6 (pickZ a.2.2.1 6))), a.2.2.2.1, (.slice (some ⟨b12, 0, none⟩) 1 1), [(1 + pickZ a.2.2.1 31, wldZ)], 0, z.2.2.st.cver + 1, 0, .slice none 0 0⟩ : Pt)) (by (repeat' constructor)) rfl ?_
     refine G.rfFold (x := x) (τ := τ) (l := m) hm (by (repeat' constructor)) rfl rfl rfl rfl rfl ?_
     exact G.done2 rfl (.cellA rfl ag_37 (by (repeat' constructor)) (by simp [ptC]) rfl) (.tmp rfl) ⟨(⟨1, (kidZ z.1 (nm6 (pickZ a.2.2.1 6))), a.2.2.2.1, (.slice (some ⟨b12, 0, none⟩) 1 1), [(1 + pickZ a.2.2.1 31, wldZ)], 0, z.2.2.st.cver + 1, 0, .slice none 0 0⟩ : Pt), false, rfl, (fun e => by cases e), ⟨rfl, rfl, by simp, by first | exact hpl62 | (simp; done) | (show z.1.length ≤ 62; omega)⟩, rfl⟩ (by (repeat' constructor)) (by (repeat' constructor))
   ·refine D.kDF (t := 97) rfl h12_98 ?_
    refine D.gs (t := 98) rfl rfl rfl rfl (by kernel_rfl) ?_
    refine D.gs (t := 98) rfl rfl rfl rfl (by kernel_rfl) ?_
    refine D.gs (t := 98) rfl rfl rfl rfl (by kernel_rfl) ?_
    refine D.gs (t := 98) rfl rfl rfl rfl (by kernel_rfl) ?_
    refine D.gs (t := 98) rfl rfl rfl rfl (by kernel_rfl) ?_
    refine D.gs (t := 98) rfl rfl rfl rfl (by kernel_rfl) ?_
    refine D.q rfl (by kernel_rfl) (Quiet.pickF rfl rfl) ?_
    refine D.q rfl (by kernel_rfl) (Quiet.move rfl) ?_
    refine D.gs (t := 106) rfl rfl rfl rfl (by kernel_rfl) ?_
    refine D.gs (t := 106) rfl rfl rfl rfl (by kernel_rfl) ?_
    refine D.gs (t := 106) rfl rfl rfl rfl (by kernel_rfl) ?_
    refine D.q rfl (by kernel_rfl) (Quiet.pickF rfl rfl) ?_
    refine D.h rfl (by kernel_rfl) (OpSpec.buildSlice (vs := [_]) el_34 ze_104 rfl rfl rfl rfl (by first | (simp [Value.cells]; done) | (intro v hv; simp only [List.mem_cons, List.not_mem_nil, or_false] at hv; (repeat (first | (subst hv; rfl) | (rcases hv with hv | hv; (subst hv; rfl)))))) (by decide)) (by (repeat' constructor)) ?nx236
    rintro v L' ⟨b12, rfl, rfl⟩
    refine D.qw [32] rfl (by kernel_rfl) (Quiet.to (v' := .agg (ptC (⟨1, (kidZ z.1 (nm6 (pickZ a.2.2.1 6))), a.2.2.2.1, (.slice (some ⟨b12, 0, none⟩) 1 1), [(1 + pickZ a.2.2.1 31, wldZ)], 0, z.2.2.st.cver + 1, 0, .slice none 0 0⟩ : Pt)).toArray) (Quiet.build (us := [(0, _), (1, _), (2, _), (3, _), (4, _), (5, _)]) fl_37 ze_37 rfl rfl (by simp [isCell])) rfl) ?_
    refine D.h rfl (by kernel_rfl) (OpSpec.storeA rfl rfl ?c239 sz_37 ?c242 ?c240 ?c241) (by (repeat' constructor)) ?nx243
    case c239 => exact pt_cells rfl rfl
    case c242 => rfl
    case c240 => simp [ptC]
    case c241 => exact nfz0 _ _
    rintro v L' rfl
    refine D.ph ?_
    refine Phases.go [] (by (repeat' constructor)) ?_
    refine D.qw [] rfl (by kernel_rfl) (Quiet.assign rfl) ?_
    refine D.ph (Phases.fin (G.then_n (G.ret (G.blk_r (G.then_r ?_)))))
    refine G.slMakeN 2 1 (b := b12) (xs := ([(1 + pickZ a.2.2.1 31, wldZ)] : List Ac).flatMap acC) (by (repeat' constructor)) rfl rfl ?_
    refine G.toRd (m := 1) (by (repeat' constructor)) ?_
    refine G.ptCast (b := b0) (l' := ptC (⟨1, (kidZ z.1 (nm6 (pickZ a.2.2.1 6))), a.2.2.2.1, (.slice (some ⟨b12, 0, none⟩) 1 1), [(1 + pickZ a.2.2.1 31, wldZ)], 0, z.2.2.st.cver + 1, 0, .slice none 0 0⟩ : Pt)) (by (repeat' constructor)) rfl ?_
    refine G.rfFold (x := x) (τ := τ) (l := m) hm (by (repeat' constructor)) rfl rfl rfl rfl rfl ?_
    exact G.done2 rfl (.cellA rfl ag_37 (by (repeat' constructor)) (by simp [ptC]) rfl) (.tmp rfl) ⟨(⟨1, (kidZ z.1 (nm6 (pickZ a.2.2.1 6))), a.2.2.2.1, (.slice (some ⟨b12, 0, none⟩) 1 1), [(1 + pickZ a.2.2.1 31, wldZ)], 0, z.2.2.st.cver + 1, 0, .slice none 0 0⟩ : Pt), false, rfl, (fun e => by cases e), ⟨rfl, rfl, by simp, by first | exact hpl62 | (simp; done) | (show z.1.length ≤ 62; omega)⟩, rfl⟩ (by (repeat' constructor)) (by (repeat' constructor))
 ·refine G.condF rfl (G.seq (G.region (G.q (Quiet.int rfl rfl rfl) rfl (G.q (Quiet.assign rfl) rfl (G.nil (G.then_n ?_))))))
  refine G.dec (t := 35) rfl (fun h35 => ?_) (fun h35 => ?_)
  ·refine G.condT rfl (G.skip (G.then_n (G.condT rfl (G.seq (G.region ?_)))))
   refine G.op (OpSpec.buildSlice1 (vs := [_, _, _, _, _, _]) el_40 ze_9 rfl rfl rfl rfl rfl (by decide)) (by (repeat' constructor)) rfl ?nx245
   rintro v L' ⟨bs, rfl, rfl⟩
   refine G.q (Quiet.assign rfl) rfl (G.nil ?_)
   refine G.ptCast (b := bs) (l' := names6.map vstr) (by (repeat' constructor)) rfl ?_
   refine G.then_n (G.seq ?_)
   refine G.draw [] [[0, 1, 2, 3, 4, 5, 6, 7, 8, 9]] mixed (by kernel_rfl) ?_
   refine Phases.go [ptc bs _ _, ptc ba _ _, ptc bN _ _] (by (repeat' constructor)) ?_
   refine D.qw [1, 8, 9] rfl (by kernel_rfl) (Quiet.fieldAddr rfl fo_131_0) ?_
   refine D.qw [8, 9] rfl (by kernel_rfl) (Quiet.load rfl ag_9 (by (repeat' constructor)) (rfl)) ?_
   refine D.qw [6, 7, 8, 9] rfl (by kernel_rfl) (Quiet.move rfl) ?_
   refine D.qw [4, 5, 6, 7, 8, 9] rfl (by kernel_rfl) (Quiet.fieldAddr rfl fo_94_2) ?_
   refine D.qw [5, 6, 7, 8, 9] rfl (by kernel_rfl) (Quiet.load rfl ag_3 (by (repeat' constructor)) (rfl)) ?_
   refine D.m rfl (by kernel_rfl) (OpSpec.call Tryz.func21 rfl rfl (vs := [_, _]) rfl (pick7_spec _ _ ha.h3 (by decide))) (by (repeat' constructor)) ?nx251
   refine D.qw [7, 8, 9] rfl (by kernel_rfl) (Quiet.indexAddr rfl rfl el_40 (by simp; omega)) ?_
   refine D.qw [8, 9] rfl (by kernel_rfl) (Quiet.load rfl ag_9 (by (repeat' constructor)) (nm6_at hp6.1 hp6.2)) ?_
   refine D.m rfl (by kernel_rfl) (OpSpec.call Tryz.func52 rfl rfl (vs := [_, _]) rfl (rkid_spec _ _ ?hs255 ?hn256)) (by (repeat' constructor)) ?nx257
   case hs255 => first | assumption | omega
   case hn256 => first | assumption | omega | simp
   refine D.qw [] rfl (by kernel_rfl) (Quiet.assign rfl) ?_
   refine D.ph (Phases.fin (G.then_n (G.seq (G.region (G.q (Quiet.assign rfl) rfl (G.nil (G.then_n (G.seq (G.seq (G.region (G.q (Quiet.move rfl) rfl ?_)))))))))))
   refine G.q (Quiet.as (v' := .bool true) (by rfl) (Quiet.move rfl)) rfl ?_
   refine G.grun (t := 50) rfl rfl rfl (G.q (Quiet.move rfl) rfl (G.grun (t := 50) rfl rfl rfl (G.q (Quiet.nilp rfl) rfl (G.grun (t := 50) rfl rfl rfl (G.q (Quiet.fieldAddr rfl fo_101_1) rfl (G.grun (t := 50) rfl rfl rfl ?_))))))
   refine G.q (Quiet.load rfl ag_99 (by (repeat' constructor)) (rfl)) rfl ?_
   refine G.grun (t := 50) rfl rfl rfl (G.q (Quiet.slen rfl Tryz.underlying99 rfl) rfl (G.grun (t := 50) rfl rfl rfl (G.q (Quiet.int rfl rfl rfl) rfl (G.q (Quiet.pickT rfl rfl) rfl (G.q (Quiet.move rfl) rfl ?_)))))
   refine G.dec (t := 58) rfl (fun h10_58 => ?_) (fun h10_58 => ?_)
   ·refine G.kDT (t := 56) rfl h10_58 (G.kDT (t := 57) rfl h10_58 (G.grun (t := 58) rfl rfl rfl (G.q (Quiet.fieldAddr rfl fo_94_2) rfl (G.grun (t := 58) rfl rfl rfl ?_))))
    refine G.q (Quiet.load rfl ag_3 (by (repeat' constructor)) (rfl)) rfl ?_
    refine G.grun (t := 58) rfl rfl rfl ?_
    refine G.op (OpSpec.call Tryz.func21 rfl rfl (vs := [_, _]) rfl (pick7_spec _ _ ha.h3 (by decide))) (by (repeat' constructor)) rfl ?nx269
    rintro v L' ⟨rfl, rfl⟩
    refine G.grun (t := 58) rfl rfl rfl (G.q (Quiet.int rfl rfl rfl) rfl (G.q (Quiet.pickT rfl rfl) rfl (G.nil (G.then_n ?_))))
    refine G.condD rfl (fun h63 => ?_) (fun h63 => ?_)
    ·obtain ⟨j, hjp⟩ : ∃ j : Nat, pickZ a.2.1 (τ.sess.length : Int) = j := ⟨(pickZ a.2.1 τ.sess.length).toNat, by have := pickZ_range a.2.1 (n := (τ.sess.length : Int)) (by omega); omega⟩
     have hj : j < τ.sess.length := by have := pickZ_range a.2.1 (n := (τ.sess.length : Int)) (by omega); omega
     refine G.slShape (T := 134) (sz := 3) (v := .slice as2 τ.sess.length cs2) (xs := τ.sess.flatMap rsC) (by (repeat' constructor)) (by omega) fun bs bs' e0 mbs _ => ?_
     simp only [Value.slice.injEq, true_and] at e0
     obtain ⟨rfl, rfl⟩ := e0
     refine G.draw [] [[0, 1, 2, 3, 4, 5, 6, 7, 8, 9, 10, 11, 12, 13, 14, 15]] mixed (by kernel_rfl) ?_
     refine Phases.go [rsR _ _, ptc x _ _, ptc ba _ _] (by (repeat' constructor)) ?_
     refine D.qw [1, 2, 3, 12, 13, 14, 15] rfl (by kernel_rfl) (Quiet.move rfl) ?_
     refine D.qw [2, 3, 12, 13, 14, 15] rfl (by kernel_rfl) (Quiet.nilp rfl) ?_
     refine D.qw [3, 12, 13, 14, 15] rfl (by kernel_rfl) (Quiet.fieldAddr rfl fo_101_1) ?_
     refine D.qw [12, 13, 14, 15] rfl (by kernel_rfl) (Quiet.load rfl ag_99 (by (repeat' constructor)) (rfl)) ?_
     refine D.qw [5, 11, 12, 13, 14, 15] rfl (by kernel_rfl) (Quiet.fieldAddr rfl fo_94_1) ?_
     refine D.qw [11, 12, 13, 14, 15] rfl (by kernel_rfl) (Quiet.load rfl ag_3 (by (repeat' constructor)) (rfl)) ?_
     refine D.qw [7, 8, 9, 10, 11, 12, 13, 14, 15] rfl (by kernel_rfl) (Quiet.move rfl) ?_
     refine D.qw [8, 9, 10, 11, 12, 13, 14, 15] rfl (by kernel_rfl) (Quiet.nilp rfl) ?_
     refine D.qw [9, 10, 11, 12, 13, 14, 15] rfl (by kernel_rfl) (Quiet.fieldAddr rfl fo_101_1) ?_
     refine D.qw [10, 11, 12, 13, 14, 15] rfl (by kernel_rfl) (Quiet.load rfl ag_99 (by (repeat' constructor)) (rfl)) ?_
     refine D.qw [11, 12, 13, 14, 15] rfl (by kernel_rfl) (Quiet.slen rfl Tryz.underlying99 rfl) ?_
     refine D.m rfl (by kernel_rfl) (OpSpec.call Tryz.func21 rfl rfl (vs := [_, _]) rfl (pick7_is _ _ (k := (j : Int)) hjp ha.h2 (by first | decide | omega))) (by (repeat' constructor)) ?nx283
     refine D.qw [13, 14, 15] rfl (by kernel_rfl) (Quiet.indexAddr rfl rfl el_99 (by omega)) ?_
     refine D.qw [14, 15] rfl (by kernel_rfl) (Quiet.fieldAddr rfl fo_134_0) ?_
     refine D.qw [15] rfl (by kernel_rfl) (Quiet.loadRd (sz := 3) (j := j * 3 + 0) (p := rsR _ τ.sess) rfl ag_3 (by (repeat' constructor)) (fun h hp => slR_rd hp) (by omega) ((rs_cell (l := τ.sess) (i := j) (k := 0) (by omega) (by decide)).trans rfl)) ?_
     refine D.qw [] rfl (by kernel_rfl) (Quiet.assign rfl) ?_
     refine D.ph (Phases.fin (G.then_n (G.seq ?_)))
     refine G.draw [8, 32] [[0, 1, 2, 3, 4, 5, 6, 7, 9, 10, 11, 12, 13, 15, 16, 17, 18, 19, 20, 21, 22, 23, 24, 25, 26, 27, 28, 29, 30, 31, 8, 14, 32], [33]] mixed (by kernel_rfl) ?_
     refine Phases.go [ptc ba _ _, ptc bN _ _, ptc x _ _] (by (repeat' constructor)) ?_
     refine D.q rfl (by kernel_rfl) (Quiet.move rfl) ?_
     refine D.q rfl (by kernel_rfl) (Quiet.fieldAddr rfl fo_94_3) ?_
     refine D.q rfl (by kernel_rfl) (Quiet.load rfl ag_9 (by (repeat' constructor)) (rfl)) ?_
     refine D.qw [4, 5, 6, 7, 19, 20, 21, 22, 23, 24, 25, 26, 27, 28, 29, 30, 31, 8, 14, 32] rfl (by kernel_rfl) (Quiet.fieldAddr rfl fo_94_2) ?_
     refine D.qw [5, 6, 7, 19, 20, 21, 22, 23, 24, 25, 26, 27, 28, 29, 30, 31, 8, 14, 32] rfl (by kernel_rfl) (Quiet.load rfl ag_3 (by (repeat' constructor)) (rfl)) ?_
     refine D.m rfl (by kernel_rfl) (OpSpec.call Tryz.func21 rfl rfl (vs := [_, _]) rfl (pick7_spec _ _ ha.h3 (by decide))) (by (repeat' constructor)) ?nx292
     refine D.qw [7, 8, 14, 32] rfl (by kernel_rfl) (Quiet.add rfl rfl (by omega)) ?_
     refine D.qw [8, 14, 32] rfl (by kernel_rfl) (Quiet.to (v' := .agg (acC (1 + pickZ a.2.2.1 31, wldZ)).toArray) (Quiet.build (us := [(0, _), (1, _)]) fl_104 ze_104 rfl rfl (by simp [isCell])) rfl) ?_
     refine D.q rfl (by kernel_rfl) (Quiet.move rfl) ?_
     refine D.q rfl (by kernel_rfl) (Quiet.fieldAddr rfl fo_131_3) ?_
     refine D.q rfl (by kernel_rfl) (Quiet.fieldAddr rfl fo_43_4) ?_
     refine D.q rfl (by kernel_rfl) (Quiet.load rfl ag_3 (by (repeat' constructor)) (rfl)) ?_
     refine D.q rfl (by kernel_rfl) (Quiet.add rfl rfl (by omega)) ?_
     refine D.q rfl (by kernel_rfl) (Quiet.fieldAddr rfl fo_131_3) ?_
     refine D.q rfl (by kernel_rfl) (Quiet.fieldAddr rfl fo_43_6) ?_
     refine D.q rfl (by kernel_rfl) (Quiet.load rfl ag_3 (by (repeat' constructor)) (rfl)) ?_
     refine D.q rfl (by kernel_rfl) (Quiet.int rfl rfl rfl) ?_
     refine D.q rfl (by kernel_rfl) (Quiet.move rfl) ?_
     refine D.dec (t := 98) rfl (fun h12_98 => ?_) (fun h12_98 => ?_)
     ·refine D.kDT (t := 97) rfl h12_98 ?_
      refine D.gq (t := 98) rfl rfl rfl (by kernel_rfl) (Quiet.move rfl) ?_
      refine D.gq (t := 98) rfl rfl rfl (by kernel_rfl) (Quiet.nilp rfl) ?_
      refine D.gq (t := 98) rfl rfl rfl (by kernel_rfl) (Quiet.fieldAddr rfl fo_101_0) ?_
      refine D.gq (t := 98) rfl rfl rfl (by kernel_rfl) (Quiet.load rfl ag_98 (by (repeat' constructor)) (rfl)) ?_
      refine D.gq (t := 98) rfl rfl rfl (by kernel_rfl) (Quiet.slen rfl Tryz.underlying98 rfl) ?_
      refine D.gq (t := 98) rfl rfl rfl (by kernel_rfl) (Quiet.int rfl rfl rfl) ?_
      refine D.q rfl (by kernel_rfl) (Quiet.pickT rfl rfl) ?_
      refine D.q rfl (by kernel_rfl) (Quiet.move rfl) ?_
      refine D.dec (t := 106) rfl (fun h12_106 => ?_) (fun h12_106 => ?_)
      ·refine D.kDT (t := 104) rfl h12_106 (D.kDT (t := 105) rfl h12_106 ?_)
       refine D.gq (t := 106) rfl rfl rfl (by kernel_rfl) (Quiet.move rfl) ?_
       refine D.gm (t := 106) rfl rfl rfl (by kernel_rfl) (OpSpec.call Tryz.func111 rfl rfl (vs := [_]) rfl (rcheck_spec _ ?hs310)) (by (repeat' constructor)) ?nx311
       case hs310 => first | assumption | omega
       refine D.gq (t := 106) rfl rfl rfl (by kernel_rfl) (Quiet.int rfl rfl rfl) ?_
       refine D.q rfl (by kernel_rfl) (Quiet.pickT rfl rfl) ?_
       refine D.h rfl (by kernel_rfl) (OpSpec.buildSlice (vs := [_]) el_34 ze_104 rfl rfl rfl rfl (by first | (simp [Value.cells]; done) | (intro v hv; simp only [List.mem_cons, List.not_mem_nil, or_false] at hv; (repeat (first | (subst hv; rfl) | (rcases hv with hv | hv; (subst hv; rfl)))))) (by decide)) (by (repeat' constructor)) ?nx314
       rintro v L' ⟨b12, rfl, rfl⟩
       refine D.qw [32] rfl (by kernel_rfl) (Quiet.to (v' := .agg (ptC (⟨1, (kidZ z.1 (nm6 (pickZ a.2.2.1 6))), a.2.2.2.1, (.slice (some ⟨b12, 0, none⟩) 1 1), [(1 + pickZ a.2.2.1 31, wldZ)], (τ.sess[j].1), z.2.2.st.cver + 1, 0, .slice none 0 0⟩ : Pt)).toArray) (Quiet.build (us := [(0, _), (1, _), (2, _), (3, _), (4, _), (5, _)]) fl_37 ze_37 rfl rfl (by simp [isCell])) rfl) ?_
       refine D.h rfl (by kernel_rfl) (OpSpec.storeA rfl rfl ?c317 sz_37 ?c320 ?c318 ?c319) (by (repeat' constructor)) ?nx321
       case c317 => exact pt_cells rfl rfl
       case c320 => rfl
       case c318 => simp [ptC]
       case c319 => exact nfz0 _ _
       rintro v L' rfl
       refine D.ph ?_
       refine Phases.go [] (by (repeat' constructor)) ?_
       refine D.qw [] rfl (by kernel_rfl) (Quiet.assign rfl) ?_
       refine D.ph (Phases.fin (G.then_n (G.ret (G.blk_r (G.then_r ?_)))))
       refine G.slMakeN 2 1 (b := b12) (xs := ([(1 + pickZ a.2.2.1 31, wldZ)] : List Ac).flatMap acC) (by (repeat' constructor)) rfl rfl ?_
       refine G.toRd (m := 1) (by (repeat' constructor)) ?_
       refine G.ptCast (b := b0) (l' := ptC (⟨1, (kidZ z.1 (nm6 (pickZ a.2.2.1 6))), a.2.2.2.1, (.slice (some ⟨b12, 0, none⟩) 1 1), [(1 + pickZ a.2.2.1 31, wldZ)], (τ.sess[j].1), z.2.2.st.cver + 1, 0, .slice none 0 0⟩ : Pt)) (by (repeat' constructor)) rfl ?_
       refine G.rfFold (x := x) (τ := τ) (l := m) hm (by (repeat' constructor)) rfl rfl rfl rfl rfl ?_
       exact G.done2 rfl (.cellA rfl ag_37 (by (repeat' constructor)) (by simp [ptC]) rfl) (.tmp rfl) ⟨(⟨1, (kidZ z.1 (nm6 (pickZ a.2.2.1 6))), a.2.2.2.1, (.slice (some ⟨b12, 0, none⟩) 1 1), [(1 + pickZ a.2.2.1 31, wldZ)], (τ.sess[j].1), z.2.2.st.cver + 1, 0, .slice none 0 0⟩ : Pt), _, rfl, fun _ => ⟨⟨by show (0 : Int) ≤ 1; decide, by show (1 : Int) ≤ 4; decide⟩, hpl62, hd, .inr ⟨_, by omega, by omega, rfl⟩, .inr ⟨τ.sess[j].2, al_of_mem (hinv.ok.ssorted.nodup linI) (List.getElem_mem hj)⟩, ⟨by show 0 ≤ z.2.2.st.cver + 1; omega, by show z.2.2.st.cver + 1 ≤ K + 1; omega⟩, rfl, fun _ => by omega⟩, ⟨rfl, rfl, by simp, by first | exact hpl62 | (simp; done) | (show z.1.length ≤ 62; omega)⟩, rfl⟩ (by (repeat' constructor)) (by (repeat' constructor))
      ·refine D.kDF (t := 104) rfl h12_106 (D.kDF (t := 105) rfl h12_106 ?_)
       refine D.gs (t := 106) rfl rfl rfl rfl (by kernel_rfl) ?_
       refine D.gs (t := 106) rfl rfl rfl rfl (by kernel_rfl) ?_
       refine D.gs (t := 106) rfl rfl rfl rfl (by kernel_rfl) ?_
       refine D.q rfl (by kernel_rfl) (Quiet.pickF rfl rfl) ?_
       refine D.h rfl (by kernel_rfl) (OpSpec.buildSlice (vs := [_]) el_34 ze_104 rfl rfl rfl rfl (by first | (simp [Value.cells]; done) | (intro v hv; simp only [List.mem_cons, List.not_mem_nil, or_false] at hv; (repeat (first | (subst hv; rfl) | (rcases hv with hv | hv; (subst hv; rfl)))))) (by decide)) (by (repeat' constructor)) ?nx323
       rintro v L' ⟨b12, rfl, rfl⟩
       refine D.qw [32] rfl (by kernel_rfl) (Quiet.to (v' := .agg (ptC (⟨1, (kidZ z.1 (nm6 (pickZ a.2.2.1 6))), a.2.2.2.1, (.slice (some ⟨b12, 0, none⟩) 1 1), [(1 + pickZ a.2.2.1 31, wldZ)], (τ.sess[j].1), z.2.2.st.cver + 1, 0, .slice none 0 0⟩ : Pt)).toArray) (Quiet.build (us := [(0, _), (1, _), (2, _), (3, _), (4, _), (5, _)]) fl_37 ze_37 rfl rfl (by simp [isCell])) rfl) ?_
       refine D.h rfl (by kernel_rfl) (OpSpec.storeA rfl rfl ?c326 sz_37 ?c329 ?c327 ?c328) (by (repeat' constructor)) ?nx330
       case c326 => exact pt_cells rfl rfl
       case c329 => rfl
       case c327 => simp [ptC]
       case c328 => exact nfz0 _ _
       rintro v L' rfl
       refine D.ph ?_
       refine Phases.go [] (by (repeat' constructor)) ?_
       refine D.qw [] rfl (by kernel_rfl) (Quiet.assign rfl) ?_
       refine D.ph (Phases.fin (G.then_n (G.ret (G.blk_r (G.then_r ?_)))))
       refine G.slMakeN 2 1 (b := b12) (xs := ([(1 + pickZ a.2.2.1 31, wldZ)] : List Ac).flatMap acC) (by (repeat' constructor)) rfl rfl ?_
       refine G.toRd (m := 1) (by (repeat' constructor)) ?_
       refine G.ptCast (b := b0) (l' := ptC (⟨1, (kidZ z.1 (nm6 (pickZ a.2.2.1 6))), a.2.2.2.1, (.slice (some ⟨b12, 0, none⟩) 1 1), [(1 + pickZ a.2.2.1 31, wldZ)], (τ.sess[j].1), z.2.2.st.cver + 1, 0, .slice none 0 0⟩ : Pt)) (by (repeat' constructor)) rfl ?_
       refine G.rfFold (x := x) (τ := τ) (l := m) hm (by (repeat' constructor)) rfl rfl rfl rfl rfl ?_
       exact G.done2 rfl (.cellA rfl ag_37 (by (repeat' constructor)) (by simp [ptC]) rfl) (.tmp rfl) ⟨(⟨1, (kidZ z.1 (nm6 (pickZ a.2.2.1 6))), a.2.2.2.1, (.slice (some ⟨b12, 0, none⟩) 1 1), [(1 + pickZ a.2.2.1 31, wldZ)], (τ.sess[j].1), z.2.2.st.cver + 1, 0, .slice none 0 0⟩ : Pt), false, rfl, (fun e => by cases e), ⟨rfl, rfl, by simp, by first | exact hpl62 | (simp; done) | (show z.1.length ≤ 62; omega)⟩, rfl⟩ (by (repeat' constructor)) (by (repeat' constructor))
     ·refine D.kDF (t := 97) rfl h12_98 ?_
      refine D.gs (t := 98) rfl rfl rfl rfl (by kernel_rfl) ?_
      refine D.gs (t := 98) rfl rfl rfl rfl (by kernel_rfl) ?_
      refine D.gs (t := 98) rfl rfl rfl rfl (by kernel_rfl) ?_
      refine D.gs (t := 98) rfl rfl rfl rfl (by kernel_rfl) ?_
      refine D.gs (t := 98) rfl rfl rfl rfl (by kernel_rfl) ?_
      refine D.gs (t := 98) rfl rfl rfl rfl (by kernel_rfl) ?_
      refine D.q rfl (by kernel_rfl) (Quiet.pickF rfl rfl) ?_
      refine D.q rfl (by kernel_rfl) (Quiet.move rfl) ?_
      refine D.gs (t := 106) rfl rfl rfl rfl (by kernel_rfl) ?_
      refine D.gs (t := 106) rfl rfl rfl rfl (by kernel_rfl) ?_
      refine D.gs (t := 106) rfl rfl rfl rfl (by kernel_rfl) ?_
      refine D.q rfl (by kernel_rfl) (Quiet.pickF rfl rfl) ?_
      refine D.h rfl (by kernel_rfl) (OpSpec.buildSlice (vs := [_]) el_34 ze_104 rfl rfl rfl rfl (by first | (simp [Value.cells]; done) | (intro v hv; simp only [List.mem_cons, List.not_mem_nil, or_false] at hv; (repeat (first | (subst hv; rfl) | (rcases hv with hv | hv; (subst hv; rfl)))))) (by decide)) (by (repeat' constructor)) ?nx333
      rintro v L' ⟨b12, rfl, rfl⟩
      refine D.qw [32] rfl (by kernel_rfl) (Quiet.to (v' := .agg (ptC (⟨1, (kidZ z.1 (nm6 (pickZ a.2.2.1 6))), a.2.2.2.1, (.slice (some ⟨b12, 0, none⟩) 1 1), [(1 + pickZ a.2.2.1 31, wldZ)], (τ.sess[j].1), z.2.2.st.cver + 1, 0, .slice none 0 0⟩ : Pt)).toArray) (Quiet.build (us := [(0, _), (1, _), (2, _), (3, _), (4, _), (5, _)]) fl_37 ze_37 rfl rfl (by simp [isCell])) rfl) ?_
      refine D.h rfl (by kernel_rfl) (OpSpec.storeA rfl rfl ?c336 sz_37 ?c339 ?c337 ?c338) (by (repeat' constructor)) ?nx340
      case c336 => exact pt_cells rfl rfl
      case c339 => rfl
      case c337 => simp [ptC]
      case c338 => exact nfz0 _ _
      rintro v L' rfl
      refine D.ph ?_
      refine Phases.go [] (by (repeat' constructor)) ?_
      refine D.qw [] rfl (by kernel_rfl) (Quiet.assign rfl) ?_
      refine D.ph (Phases.fin (G.then_n (G.ret (G.blk_r (G.then_r ?_)))))
      refine G.slMakeN 2 1 (b := b12) (xs := ([(1 + pickZ a.2.2.1 31, wldZ)] : List Ac).flatMap acC) (by (repeat' constructor)) rfl rfl ?_
      refine G.toRd (m := 1) (by (repeat' constructor)) ?_
      refine G.ptCast (b := b0) (l' := ptC (⟨1, (kidZ z.1 (nm6 (pickZ a.2.2.1 6))), a.2.2.2.1, (.slice (some ⟨b12, 0, none⟩) 1 1), [(1 + pickZ a.2.2.1 31, wldZ)], (τ.sess[j].1), z.2.2.st.cver + 1, 0, .slice none 0 0⟩ : Pt)) (by (repeat' constructor)) rfl ?_
      refine G.rfFold (x := x) (τ := τ) (l := m) hm (by (repeat' constructor)) rfl rfl rfl rfl rfl ?_
      exact G.done2 rfl (.cellA rfl ag_37 (by (repeat' constructor)) (by simp [ptC]) rfl) (.tmp rfl) ⟨(⟨1, (kidZ z.1 (nm6 (pickZ a.2.2.1 6))), a.2.2.2.1, (.slice (some ⟨b12, 0, none⟩) 1 1), [(1 + pickZ a.2.2.1 31, wldZ)], (τ.sess[j].1), z.2.2.st.cver + 1, 0, .slice none 0 0⟩ : Pt), false, rfl, (fun e => by cases e), ⟨rfl, rfl, by simp, by first | exact hpl62 | (simp; done) | (show z.1.length ≤ 62; omega)⟩, rfl⟩ (by (repeat' constructor)) (by (repeat' constructor))
    ·refine G.skip (G.then_n (G.seq ?_))
     refine G.draw [8, 32] [[0, 1, 2, 3, 4, 5, 6, 7, 9, 10, 11, 12, 13, 15, 16, 17, 18, 19, 20, 21, 22, 23, 24, 25, 26, 27, 28, 29, 30, 31, 8, 14, 32], [33]] mixed (by kernel_rfl) ?_
     refine Phases.go [ptc ba _ _, ptc bN _ _, ptc x _ _] (by (repeat' constructor)) ?_
     refine D.q rfl (by kernel_rfl) (Quiet.move rfl) ?_
     refine D.q rfl (by kernel_rfl) (Quiet.fieldAddr rfl fo_94_3) ?_
     refine D.q rfl (by kernel_rfl) (Quiet.load rfl ag_9 (by (repeat' constructor)) (rfl)) ?_
     refine D.qw [4, 5, 6, 7, 19, 20, 21, 22, 23, 24, 25, 26, 27, 28, 29, 30, 31, 8, 14, 32] rfl (by kernel_rfl) (Quiet.fieldAddr rfl fo_94_2) ?_
     refine D.qw [5, 6, 7, 19, 20, 21, 22, 23, 24, 25, 26, 27, 28, 29, 30, 31, 8, 14, 32] rfl (by kernel_rfl) (Quiet.load rfl ag_3 (by (repeat' constructor)) (rfl)) ?_
     refine D.m rfl (by kernel_rfl) (OpSpec.call Tryz.func21 rfl rfl (vs := [_, _]) rfl (pick7_spec _ _ ha.h3 (by decide))) (by (repeat' constructor)) ?nx345
     refine D.qw [7, 8, 14, 32] rfl (by kernel_rfl) (Quiet.add rfl rfl (by omega)) ?_
     refine D.qw [8, 14, 32] rfl (by kernel_rfl) (Quiet.to (v' := .agg (acC (1 + pickZ a.2.2.1 31, wldZ)).toArray) (Quiet.build (us := [(0, _), (1, _)]) fl_104 ze_104 rfl rfl (by simp [isCell])) rfl) ?_
     refine D.q rfl (by kernel_rfl) (Quiet.move rfl) ?_
     refine D.q rfl (by kernel_rfl) (Quiet.fieldAddr rfl fo_131_3) ?_
     refine D.q rfl (by kernel_rfl) (Quiet.fieldAddr rfl fo_43_4) ?_
     refine D.q rfl (by kernel_rfl) (Quiet.load rfl ag_3 (by (repeat' constructor)) (rfl)) ?_
     refine D.q rfl (by kernel_rfl) (Quiet.add rfl rfl (by omega)) ?_
     refine D.q rfl (by kernel_rfl) (Quiet.fieldAddr rfl fo_131_3) ?_
     refine D.q rfl (by kernel_rfl) (Quiet.fieldAddr rfl fo_43_6) ?_
     refine D.q rfl (by kernel_rfl) (Quiet.load rfl ag_3 (by (repeat' constructor)) (rfl)) ?_
     refine D.q rfl (by kernel_rfl) (Quiet.int rfl rfl rfl) ?_
     refine D.q rfl (by kernel_rfl) (Quiet.move rfl) ?_
     refine D.dec (t := 98) rfl (fun h12_98 => ?_) (fun h12_98 => ?_)
     ·refine D.kDT (t := 97) rfl h12_98 ?_
      refine D.gq (t := 98) rfl rfl rfl (by kernel_rfl) (Quiet.move rfl) ?_
      refine D.gq (t := 98) rfl rfl rfl (by kernel_rfl) (Quiet.nilp rfl) ?_
      refine D.gq (t := 98) rfl rfl rfl (by kernel_rfl) (Quiet.fieldAddr rfl fo_101_0) ?_
      refine D.gq (t := 98) rfl rfl rfl (by kernel_rfl) (Quiet.load rfl ag_98 (by (repeat' constructor)) (rfl)) ?_
      refine D.gq (t := 98) rfl rfl rfl (by kernel_rfl) (Quiet.slen rfl Tryz.underlying98 rfl) ?_
      refine D.gq (t := 98) rfl rfl rfl (by kernel_rfl) (Quiet.int rfl rfl rfl) ?_
      refine D.q rfl (by kernel_rfl) (Quiet.pickT rfl rfl) ?_
      refine D.q rfl (by kernel_rfl) (Quiet.move rfl) ?_
      refine D.dec (t := 106) rfl (fun h12_106 => ?_) (fun h12_106 => ?_)
      ·refine D.kDT (t := 104) rfl h12_106 (D.kDT (t := 105) rfl h12_106 ?_)
       refine D.gq (t := 106) rfl rfl rfl (by kernel_rfl) (Quiet.move rfl) ?_
       refine D.gm (t := 106) rfl rfl rfl (by kernel_rfl) (OpSpec.call Tryz.func111 rfl rfl (vs := [_]) rfl (rcheck_spec _ ?hs363)) (by (repeat' constructor)) ?nx364
       case hs363 => first | assumption | omega
       refine D.gq (t := 106) rfl rfl rfl (by kernel_rfl) (Quiet.int rfl rfl rfl) ?_
       refine D.q rfl (by kernel_rfl) (Quiet.pickT rfl rfl) ?_
       refine D.h rfl (by kernel_rfl) (OpSpec.buildSlice (vs := [_]) el_34 ze_104 rfl rfl rfl rfl (by first | (simp [Value.cells]; done) | (intro v hv; simp only [List.mem_cons, List.not_mem_nil, or_false] at hv; (repeat (first | (subst hv; rfl) | (rcases hv with hv | hv; (subst hv; rfl)))))) (by decide)) (by (repeat' constructor)) ?nx367
       rintro v L' ⟨b12, rfl, rfl⟩
       refine D.qw [32] rfl (by kernel_rfl) (Quiet.to (v' := .agg (ptC (⟨1, (kidZ z.1 (nm6 (pickZ a.2.2.1 6))), a.2.2.2.1, (.slice (some ⟨b12, 0, none⟩) 1 1), [(1 + pickZ a.2.2.1 31, wldZ)], 0, z.2.2.st.cver + 1, 0, .slice none 0 0⟩ : Pt)).toArray) (Quiet.build (us := [(0, _), (1, _), (2, _), (3, _), (4, _), (5, _)]) fl_37 ze_37 rfl rfl (by simp [isCell])) rfl) ?_
       refine D.h rfl (by kernel_rfl) (OpSpec.storeA rfl rfl ?c370 sz_37 ?c373 ?c371 ?c372) (by (repeat' constructor)) ?nx374
       case c370 => exact pt_cells rfl rfl
       case c373 => rfl
       case c371 => simp [ptC]
       case c372 => exact nfz0 _ _
       rintro v L' rfl
       refine D.ph ?_
       refine Phases.go [] (by (repeat' constructor)) ?_
       refine D.qw [] rfl (by kernel_rfl) (Quiet.assign rfl) ?_
       refine D.ph (Phases.fin (G.then_n (G.ret (G.blk_r (G.then_r ?_)))))
       refine G.slMakeN 2 1 (b := b12) (xs := ([(1 + pickZ a.2.2.1 31, wldZ)] : List Ac).flatMap acC) (by (repeat' constructor)) rfl rfl ?_
       refine G.toRd (m := 1) (by (repeat' constructor)) ?_
       refine G.ptCast (b := b0) (l' := ptC (⟨1, (kidZ z.1 (nm6 (pickZ a.2.2.1 6))), a.2.2.2.1, (.slice (some ⟨b12, 0, none⟩) 1 1), [(1 + pickZ a.2.2.1 31, wldZ)], 0, z.2.2.st.cver + 1, 0, .slice none 0 0⟩ : Pt)) (by (repeat' constructor)) rfl ?_
       refine G.rfFold (x := x) (τ := τ) (l := m) hm (by (repeat' constructor)) rfl rfl rfl rfl rfl ?_
       exact G.done2 rfl (.cellA rfl ag_37 (by (repeat' constructor)) (by simp [ptC]) rfl) (.tmp rfl) ⟨(⟨1, (kidZ z.1 (nm6 (pickZ a.2.2.1 6))), a.2.2.2.1, (.slice (some ⟨b12, 0, none⟩) 1 1), [(1 + pickZ a.2.2.1 31, wldZ)], 0, z.2.2.st.cver + 1, 0, .slice none 0 0⟩ : Pt), _, rfl, fun _ => ⟨⟨by show (0 : Int) ≤ 1; decide, by show (1 : Int) ≤ 4; decide⟩, hpl62, hd, .inr ⟨_, by omega, by omega, rfl⟩, .inl rfl, ⟨by show 0 ≤ z.2.2.st.cver + 1; omega, by show z.2.2.st.cver + 1 ≤ K + 1; omega⟩, rfl, fun _ => by omega⟩, ⟨rfl, rfl, by simp, by first | exact hpl62 | (simp; done) | (show z.1.length ≤ 62; omega)⟩, rfl⟩ (by (repeat' constructor)) (by (repeat' constructor))
      ·refine D.kDF (t := 104) rfl h12_106 (D.kDF (t := 105) rfl h12_106 ?_)
       refine D.gs (t := 106) rfl rfl rfl rfl (by kernel_rfl) ?_
       refine D.gs (t := 106) rfl rfl rfl rfl (by kernel_rfl) ?_
       refine D.gs (t := 106) rfl rfl rfl rfl (by kernel_rfl) ?_
       refine D.q rfl (by kernel_rfl) (Quiet.pickF rfl rfl) ?_
       refine D.h rfl (by kernel_rfl) (OpSpec.buildSlice (vs := [_]) el_34 ze_104 rfl rfl rfl rfl (by first | (simp [Value.cells]; done) | (intro v hv; simp only [List.mem_cons, List.not_mem_nil, or_false] at hv; (repeat (first | (subst hv; rfl) | (rcases hv with hv | hv; (subst hv; rfl)))))) (by decide)) (by (repeat' constructor)) ?nx376
       rintro v L' ⟨b12, rfl, rfl⟩
       refine D.qw [32] rfl (by kernel_rfl) (Quiet.to (v' := .agg (ptC (⟨1, (kidZ z.1 (nm6 (pickZ a.2.2.1 6))), a.2.2.2.1, (.slice (some ⟨b12, 0, none⟩) 1 1), [(1 + pickZ a.2.2.1 31, wldZ)], 0, z.2.2.st.cver + 1, 0, .slice none 0 0⟩ : Pt)).toArray) (Quiet.build (us := [(0, _), (1, _), (2, _), (3, _), (4, _), (5, _)]) fl_37 ze_37 rfl rfl (by simp [isCell])) rfl) ?_
       refine D.h rfl (by kernel_rfl) (OpSpec.storeA rfl rfl ?c379 sz_37 ?c382 ?c380 ?c381) (by (repeat' constructor)) ?nx383
       case c379 => exact pt_cells rfl rfl
       case c382 => rfl
       case c380 => simp [ptC]
       case c381 => exact nfz0 _ _
       rintro v L' rfl
       refine D.ph ?_
       refine Phases.go [] (by (repeat' constructor)) ?_
       refine D.qw [] rfl (by kernel_rfl) (Quiet.assign rfl) ?_
       refine D.ph (Phases.fin (G.then_n (G.ret (G.blk_r (G.then_r ?_)))))
       refine G.slMakeN 2 1 (b := b12) (xs := ([(1 + pickZ a.2.2.1 31, wldZ)] : List Ac).flatMap acC) (by (repeat' constructor)) rfl rfl ?_
       refine G.toRd (m := 1) (by (repeat' constructor)) ?_
       refine G.ptCast (b := b0) (l' := ptC (⟨1, (kidZ z.1 (nm6 (pickZ a.2.2.1 6))), a.2.2.2.1, (.slice (some ⟨b12, 0, none⟩) 1 1), [(1 + pickZ a.2.2.1 31, wldZ)], 0, z.2.2.st.cver + 1, 0, .slice none 0 0⟩ : Pt)) (by (repeat' constructor)) rfl ?_
       refine G.rfFold (x := x) (τ := τ) (l := m) hm (by (repeat' constructor)) rfl rfl rfl rfl rfl ?_
       exact G.done2 rfl (.cellA rfl ag_37 (by (repeat' constructor)) (by simp [ptC]) rfl) (.tmp rfl) ⟨(⟨1, (kidZ z.1 (nm6 (pickZ a.2.2.1 6))), a.2.2.2.1, (.slice (some ⟨b12, 0, none⟩) 1 1), [(1 + pickZ a.2.2.1 31, wldZ)], 0, z.2.2.st.cver + 1, 0, .slice none 0 0⟩ : Pt), false, rfl, (fun e => by cases e), ⟨rfl, rfl, by simp, by first | exact hpl62 | (simp; done) | (show z.1.length ≤ 62; omega)⟩, rfl⟩ (by (repeat' constructor)) (by (repeat' constructor))
     ·refine D.kDF (t := 97) rfl h12_98 ?_
      refine D.gs (t := 98) rfl rfl rfl rfl (by kernel_rfl) ?_
      refine D.gs (t := 98) rfl rfl rfl rfl (by kernel_rfl) ?_
      refine D.gs (t := 98) rfl rfl rfl rfl (by kernel_rfl) ?_
      refine D.gs (t := 98) rfl rfl rfl rfl (by kernel_rfl) ?_
      refine D.gs (t := 98) rfl rfl rfl rfl (by kernel_rfl) ?_
      refine D.gs (t := 98) rfl rfl rfl rfl (by kernel_rfl) ?_
      refine D.q rfl (by kernel_rfl) (Quiet.pickF rfl rfl) ?_
      refine D.q rfl (by kernel_rfl) (Quiet.move rfl) ?_
      refine D.gs (t := 106) rfl rfl rfl rfl (by kernel_rfl) ?_
      refine D.gs (t := 106) rfl rfl rfl rfl (by kernel_rfl) ?_
      refine D.gs (t := 106) rfl rfl rfl rfl (by kernel_rfl) ?_
      refine D.q rfl (by kernel_rfl) (Quiet.pickF rfl rfl) ?_
      refine D.h rfl (by kernel_rfl) (OpSpec.buildSlice (vs := [_]) el_34 ze_104 rfl rfl rfl rfl (by first | (simp [Value.cells]; done) | (intro v hv; simp only [List.mem_cons, List.not_mem_nil, or_false] at hv; (repeat (first | (subst hv; rfl) | (rcases hv with hv | hv; (subst hv; rfl)))))) (by decide)) (by (repeat' constructor)) ?nx386
      rintro v L' ⟨b12, rfl, rfl⟩
      refine D.qw [32] rfl (by kernel_rfl) (Quiet.to (v' := .agg (ptC (⟨1, (kidZ z.1 (nm6 (pickZ a.2.2.1 6))), a.2.2.2.1, (.slice (some ⟨b12, 0, none⟩) 1 1), [(1 + pickZ a.2.2.1 31, wldZ)], 0, z.2.2.st.cver + 1, 0, .slice none 0 0⟩ : Pt)).toArray) (Quiet.build (us := [(0, _), (1, _), (2, _), (3, _), (4, _), (5, _)]) fl_37 ze_37 rfl rfl (by simp [isCell])) rfl) ?_
      refine D.h rfl (by kernel_rfl) (OpSpec.storeA rfl rfl ?c389 sz_37 ?c392 ?c390 ?c391) (by (repeat' constructor)) ?nx393
      case c389 => exact pt_cells rfl rfl
      case c392 => rfl
      case c390 => simp [ptC]
      case c391 => exact nfz0 _ _
      rintro v L' rfl
      refine D.ph ?_
      refine Phases.go [] (by (repeat' constructor)) ?_
      refine D.qw [] rfl (by kernel_rfl) (Quiet.assign rfl) ?_
      refine D.ph (Phases.fin (G.then_n (G.ret (G.blk_r (G.then_r ?_)))))
      refine G.slMakeN 2 1 (b := b12) (xs := ([(1 + pickZ a.2.2.1 31, wldZ)] : List Ac).flatMap acC) (by (repeat' constructor)) rfl rfl ?_
      refine G.toRd (m := 1) (by (repeat' constructor)) ?_
      refine G.ptCast (b := b0) (l' := ptC (⟨1, (kidZ z.1 (nm6 (pickZ a.2.2.1 6))), a.2.2.2.1, (.slice (some ⟨b12, 0, none⟩) 1 1), [(1 + pickZ a.2.2.1 31, wldZ)], 0, z.2.2.st.cver + 1, 0, .slice none 0 0⟩ : Pt)) (by (repeat' constructor)) rfl ?_
      refine G.rfFold (x := x) (τ := τ) (l := m) hm (by (repeat' constructor)) rfl rfl rfl rfl rfl ?_
      exact G.done2 rfl (.cellA rfl ag_37 (by (repeat' constructor)) (by simp [ptC]) rfl) (.tmp rfl) ⟨(⟨1, (kidZ z.1 (nm6 (pickZ a.2.2.1 6))), a.2.2.2.1, (.slice (some ⟨b12, 0, none⟩) 1 1), [(1 + pickZ a.2.2.1 31, wldZ)], 0, z.2.2.st.cver + 1, 0, .slice none 0 0⟩ : Pt), false, rfl, (fun e => by cases e), ⟨rfl, rfl, by simp, by first | exact hpl62 | (simp; done) | (show z.1.length ≤ 62; omega)⟩, rfl⟩ (by (repeat' constructor)) (by (repeat' constructor))
   ·refine G.kDF (t := 56) rfl h10_58 (G.kDF (t := 57) rfl h10_58 (G.gskip (t := 58) rfl rfl rfl rfl (G.gskip (t := 58) rfl rfl rfl rfl (G.gskip (t := 58) rfl rfl rfl rfl (G.gskip (t := 58) rfl rfl rfl rfl (G.q (Quiet.pickF rfl rfl) rfl (G.nil (G.then_n (G.condF rfl (G.skip (G.then_n (G.seq ?_))))))))))))
    refine G.draw [8, 32] [[0, 1, 2, 3, 4, 5, 6, 7, 9, 10, 11, 12, 13, 15, 16, 17, 18, 19, 20, 21, 22, 23, 24, 25, 26, 27, 28, 29, 30, 31, 8, 14, 32], [33]] mixed (by kernel_rfl) ?_
    refine Phases.go [ptc ba _ _, ptc bN _ _, ptc x _ _] (by (repeat' constructor)) ?_
    refine D.q rfl (by kernel_rfl) (Quiet.move rfl) ?_
    refine D.q rfl (by kernel_rfl) (Quiet.fieldAddr rfl fo_94_3) ?_
    refine D.q rfl (by kernel_rfl) (Quiet.load rfl ag_9 (by (repeat' constructor)) (rfl)) ?_
    refine D.qw [4, 5, 6, 7, 19, 20, 21, 22, 23, 24, 25, 26, 27, 28, 29, 30, 31, 8, 14, 32] rfl (by kernel_rfl) (Quiet.fieldAddr rfl fo_94_2) ?_
    refine D.qw [5, 6, 7, 19, 20, 21, 22, 23, 24, 25, 26, 27, 28, 29, 30, 31, 8, 14, 32] rfl (by kernel_rfl) (Quiet.load rfl ag_3 (by (repeat' constructor)) (rfl)) ?_
    refine D.m rfl (by kernel_rfl) (OpSpec.call Tryz.func21 rfl rfl (vs := [_, _]) rfl (pick7_spec _ _ ha.h3 (by decide))) (by (repeat' constructor)) ?nx399
    refine D.qw [7, 8, 14, 32] rfl (by kernel_rfl) (Quiet.add rfl rfl (by omega)) ?_
    refine D.qw [8, 14, 32] rfl (by kernel_rfl) (Quiet.to (v' := .agg (acC (1 + pickZ a.2.2.1 31, wldZ)).toArray) (Quiet.build (us := [(0, _), (1, _)]) fl_104 ze_104 rfl rfl (by simp [isCell])) rfl) ?_
    refine D.q rfl (by kernel_rfl) (Quiet.move rfl) ?_
    refine D.q rfl (by kernel_rfl) (Quiet.fieldAddr rfl fo_131_3) ?_
    refine D.q rfl (by kernel_rfl) (Quiet.fieldAddr rfl fo_43_4) ?_
    refine D.q rfl (by kernel_rfl) (Quiet.load rfl ag_3 (by (repeat' constructor)) (rfl)) ?_
    refine D.q rfl (by kernel_rfl) (Quiet.add rfl rfl (by omega)) ?_
    refine D.q rfl (by kernel_rfl) (Quiet.fieldAddr rfl fo_131_3) ?_
    refine D.q rfl (by kernel_rfl) (Quiet.fieldAddr rfl fo_43_6) ?_
    refine D.q rfl (by kernel_rfl) (Quiet.load rfl ag_3 (by (repeat' constructor)) (rfl)) ?_
    refine D.q rfl (by kernel_rfl) (Quiet.int rfl rfl rfl) ?_
    refine D.q rfl (by kernel_rfl) (Quiet.move rfl) ?_
    refine D.dec (t := 98) rfl (fun h12_98 => ?_) (fun h12_98 => ?_)
    ·refine D.kDT (t := 97) rfl h12_98 ?_
     refine D.gq (t := 98) rfl rfl rfl (by kernel_rfl) (Quiet.move rfl) ?_
     refine D.gq (t := 98) rfl rfl rfl (by kernel_rfl) (Quiet.nilp rfl) ?_
     refine D.gq (t := 98) rfl rfl rfl (by kernel_rfl) (Quiet.fieldAddr rfl fo_101_0) ?_
     refine D.gq (t := 98) rfl rfl rfl (by kernel_rfl) (Quiet.load rfl ag_98 (by (repeat' constructor)) (rfl)) ?_
     refine D.gq (t := 98) rfl rfl rfl (by kernel_rfl) (Quiet.slen rfl Tryz.underlying98 rfl) ?_
     refine D.gq (t := 98) rfl rfl rfl (by kernel_rfl) (Quiet.int rfl rfl rfl) ?_
     refine D.q rfl (by kernel_rfl) (Quiet.pickT rfl rfl) ?_
     refine D.q rfl (by kernel_rfl) (Quiet.move rfl) ?_
     refine D.dec (t := 106) rfl (fun h12_106 => ?_) (fun h12_106 => ?_)
     ·refine D.kDT (t := 104) rfl h12_106 (D.kDT (t := 105) rfl h12_106 ?_)
      refine D.gq (t := 106) rfl rfl rfl (by kernel_rfl) (Quiet.move rfl) ?_
      refine D.gm (t := 106) rfl rfl rfl (by kernel_rfl) (OpSpec.call Tryz.func111 rfl rfl (vs := [_]) rfl (rcheck_spec _ ?hs417)) (by (repeat' constructor)) ?nx418
      case hs417 => first | assumption | omega
      refine D.gq (t := 106) rfl rfl rfl (by kernel_rfl) (Quiet.int rfl rfl rfl) ?_
      refine D.q rfl (by kernel_rfl) (Quiet.pickT rfl rfl) ?_
      refine D.h rfl (by kernel_rfl) (OpSpec.buildSlice (vs := [_]) el_34 ze_104 rfl rfl rfl rfl (by first | (simp [Value.cells]; done) | (intro v hv; simp only [List.mem_cons, List.not_mem_nil, or_false] at hv; (repeat (first | (subst hv; rfl) | (rcases hv with hv | hv; (subst hv; rfl)))))) (by decide)) (by (repeat' constructor)) ?nx421
      rintro v L' ⟨b12, rfl, rfl⟩
      refine D.qw [32] rfl (by kernel_rfl) (Quiet.to (v' := .agg (ptC (⟨1, (kidZ z.1 (nm6 (pickZ a.2.2.1 6))), a.2.2.2.1, (.slice (some ⟨b12, 0, none⟩) 1 1), [(1 + pickZ a.2.2.1 31, wldZ)], 0, z.2.2.st.cver + 1, 0, .slice none 0 0⟩ : Pt)).toArray) (Quiet.build (us := [(0, _), (1, _), (2, _), (3, _), (4, _), (5, _)]) fl_37 ze_37 rfl rfl (by simp [isCell])) rfl) ?_
      refine D.h rfl (by kernel_rfl) (OpSpec.storeA rfl rfl ?c424 sz_37 ?c427 ?c425 ?c426) (by (repeat' constructor)) ?nx428
      case c424 => exact pt_cells rfl rfl
      case c427 => rfl
      case c425 => simp [ptC]
      case c426 => exact nfz0 _ _
      rintro v L' rfl
      refine D.ph ?_
      refine Phases.go [] (by (repeat' constructor)) ?_
      refine D.qw [] rfl (by kernel_rfl) (Quiet.assign rfl) ?_
      refine D.ph (Phases.fin (G.then_n (G.ret (G.blk_r (G.then_r ?_)))))
      refine G.slMakeN 2 1 (b := b12) (xs := ([(1 + pickZ a.2.2.1 31, wldZ)] : List Ac).flatMap acC) (by (repeat' constructor)) rfl rfl ?_
      refine G.toRd (m := 1) (by (repeat' constructor)) ?_
      refine G.ptCast (b := b0) (l' := ptC (⟨1, (kidZ z.1 (nm6 (pickZ a.2.2.1 6))), a.2.2.2.1, (.slice (some ⟨b12, 0, none⟩) 1 1), [(1 + pickZ a.2.2.1 31, wldZ)], 0, z.2.2.st.cver + 1, 0, .slice none 0 0⟩ : Pt)) (by (repeat' constructor)) rfl ?_
      refine G.rfFold (x := x) (τ := τ) (l := m) hm (by (repeat' constructor)) rfl rfl rfl rfl rfl ?_
      exact G.done2 rfl (.cellA rfl ag_37 (by (repeat' constructor)) (by simp [ptC]) rfl) (.tmp rfl) ⟨(⟨1, (kidZ z.1 (nm6 (pickZ a.2.2.1 6))), a.2.2.2.1, (.slice (some ⟨b12, 0, none⟩) 1 1), [(1 + pickZ a.2.2.1 31, wldZ)], 0, z.2.2.st.cver + 1, 0, .slice none 0 0⟩ : Pt), _, rfl, fun _ => ⟨⟨by show (0 : Int) ≤ 1; decide, by show (1 : Int) ≤ 4; decide⟩, hpl62, hd, .inr ⟨_, by omega, by omega, rfl⟩, .inl rfl, ⟨by show 0 ≤ z.2.2.st.cver + 1; omega, by show z.2.2.st.cver + 1 ≤ K + 1; omega⟩, rfl, fun _ => by omega⟩, ⟨rfl, rfl, by simp, by first | exact hpl62 | (simp; done) | (show z.1.length ≤ 62; omega)⟩, rfl⟩ (by (repeat' constructor)) (by (repeat' constructor))
     ·refine D.kDF (t := 104) rfl h12_106 (D.kDF (t := 105) rfl h12_106 ?_)
      refine D.gs (t := 106) rfl rfl rfl rfl (by kernel_rfl) ?_
      refine D.gs (t := 106) rfl rfl rfl rfl (by kernel_rfl) ?_
      refine D.gs (t := 106) rfl rfl rfl rfl (by kernel_rfl) ?_
      refine D.q rfl (by kernel_rfl) (Quiet.pickF rfl rfl) ?_
      refine D.h rfl (by kernel_rfl) (OpSpec.buildSlice (vs := [_]) el_34 ze_104 rfl rfl rfl rfl (by first | (simp [Value.cells]; done) | (intro v hv; simp only [List.mem_cons, List.not_mem_nil, or_false] at hv; (repeat (first | (subst hv; rfl) | (rcases hv with hv | hv; (subst hv; rfl)))))) (by decide)) (by (repeat' constructor)) ?nx430
      rintro v L' ⟨b12, rfl, rfl⟩
      refine D.qw [32] rfl (by kernel_rfl) (Quiet.to (v' := .agg (ptC (⟨1, (kidZ z.1 (nm6 (pickZ a.2.2.1 6))), a.2.2.2.1, (.slice (some ⟨b12, 0, none⟩) 1 1), [(1 + pickZ a.2.2.1 31, wldZ)], 0, z.2.2.st.cver + 1, 0, .slice none 0 0⟩ : Pt)).toArray) (Quiet.build (us := [(0, _), (1, _), (2, _), (3, _), (4, _), (5, _)]) fl_37 ze_37 rfl rfl (by simp [isCell])) rfl) ?_
      refine D.h rfl (by kernel_rfl) (OpSpec.storeA rfl rfl ?c433 sz_37 ?c436 ?c434 ?c435) (by (repeat' constructor)) ?nx437
      case c433 => exact pt_cells rfl rfl
      case c436 => rfl
      case c434 => simp [ptC]
      case c435 => exact nfz0 _ _
      rintro v L' rfl
      refine D.ph ?_
      refine Phases.go [] (by (repeat' constructor)) ?_
      refine D.qw [] rfl (by kernel_rfl) (Quiet.assign rfl) ?_
      refine D.ph (Phases.fin (G.then_n (G.ret (G.blk_r (G.then_r ?_)))))
      refine G.slMakeN 2 1 (b := b12) (xs := ([(1 + pickZ a.2.2.1 31, wldZ)] : List Ac).flatMap acC) (by (repeat' constructor)) rfl rfl ?_
      refine G.toRd (m := 1) (by (repeat' constructor)) ?_
      refine G.ptCast (b := b0) (l' := ptC (⟨1, (kidZ z.1 (nm6 (pickZ a.2.2.1 6))), a.2.2.2.1, (.slice (some ⟨b12, 0, none⟩) 1 1), [(1 + pickZ a.2.2.1 31, wldZ)], 0, z.2.2.st.cver + 1, 0, .slice none 0 0⟩ : Pt)) (by (repeat' constructor)) rfl ?_
      refine G.rfFold (x := x) (τ := τ) (l := m) hm (by (repeat' constructor)) rfl rfl rfl rfl rfl ?_
      exact G.done2 rfl (.cellA rfl ag_37 (by (repeat' constructor)) (by simp [ptC]) rfl) (.tmp rfl) ⟨(⟨1, (kidZ z.1 (nm6 (pickZ a.2.2.1 6))), a.2.2.2.1, (.slice (some ⟨b12, 0, none⟩) 1 1), [(1 + pickZ a.2.2.1 31, wldZ)], 0, z.2.2.st.cver + 1, 0, .slice none 0 0⟩ : Pt), false, rfl, (fun e => by cases e), ⟨rfl, rfl, by simp, by first | exact hpl62 | (simp; done) | (show z.1.length ≤ 62; omega)⟩, rfl⟩ (by (repeat' constructor)) (by (repeat' constructor))
    ·refine D.kDF (t := 97) rfl h12_98 ?_
     refine D.gs (t := 98) rfl rfl rfl rfl (by kernel_rfl) ?_
     refine D.gs (t := 98) rfl rfl rfl rfl (by kernel_rfl) ?_
     refine D.gs (t := 98) rfl rfl rfl rfl (by kernel_rfl) ?_
     refine D.gs (t := 98) rfl rfl rfl rfl (by kernel_rfl) ?_
     refine D.gs (t := 98) rfl rfl rfl rfl (by kernel_rfl) ?_
     refine D.gs (t := 98) rfl rfl rfl rfl (by kernel_rfl) ?_
     refine D.q rfl (by kernel_rfl) (Quiet.pickF rfl rfl) ?_
     refine D.q rfl (by kernel_rfl) (Quiet.move rfl) ?_
     refine D.gs (t := 106) rfl rfl rfl rfl (by kernel_rfl) ?_
     refine D.gs (t := 106) rfl rfl rfl rfl (by kernel_rfl) ?_
     refine D.gs (t := 106) rfl rfl rfl rfl (by kernel_rfl) ?_
     refine D.q rfl (by kernel_rfl) (Quiet.pickF rfl rfl) ?_
     refine D.h rfl (by kernel_rfl) (OpSpec.buildSlice (vs := [_]) el_34 ze_104 rfl rfl rfl rfl (by first | (simp [Value.cells]; done) | (intro v hv; simp only [List.mem_cons, List.not_mem_nil, or_false] at hv; (repeat (first | (subst hv; rfl) | (rcases hv with hv | hv; (subst hv; rfl)))))) (by decide)) (by (repeat' constructor)) ?nx440
     rintro v L' ⟨b12, rfl, rfl⟩
     refine D.qw [32] rfl (by kernel_rfl) (Quiet.to (v' := .agg (ptC (⟨1, (kidZ z.1 (nm6 (pickZ a.2.2.1 6))), a.2.2.2.1, (.slice (some ⟨b12, 0, none⟩) 1 1), [(1 + pickZ a.2.2.1 31, wldZ)], 0, z.2.2.st.cver + 1, 0, .slice none 0 0⟩ : Pt)).toArray) (Quiet.build (us := [(0, _), (1, _), (2, _), (3, _), (4, _), (5, _)]) fl_37 ze_37 rfl rfl (by simp [isCell])) rfl) ?_
     refine D.h rfl (by kernel_rfl) (OpSpec.storeA rfl rfl ?c443 sz_37 ?c446 ?c444 ?c445) (by (repeat' constructor)) ?nx447
     case c443 => exact pt_cells rfl rfl
     case c446 => rfl
     case c444 => simp [ptC]
     case c445 => exact nfz0 _ _
     rintro v L' rfl
     refine D.ph ?_
     refine Phases.go [] (by (repeat' constructor)) ?_
     refine D.qw [] rfl (by kernel_rfl) (Quiet.assign rfl) ?_
     refine D.ph (Phases.fin (G.then_n (G.ret (G.blk_r (G.then_r ?_)))))
     refine G.slMakeN 2 1 (b := b12) (xs := ([(1 + pickZ a.2.2.1 31, wldZ)] : List Ac).flatMap acC) (by (repeat' constructor)) rfl rfl ?_
     refine G.toRd (m := 1) (by (repeat' constructor)) ?_
     refine G.ptCast (b := b0) (l' := ptC (⟨1, (kidZ z.1 (nm6 (pickZ a.2.2.1 6))), a.2.2.2.1, (.slice (some ⟨b12, 0, none⟩) 1 1), [(1 + pickZ a.2.2.1 31, wldZ)], 0, z.2.2.st.cver + 1, 0, .slice none 0 0⟩ : Pt)) (by (repeat' constructor)) rfl ?_
     refine G.rfFold (x := x) (τ := τ) (l := m) hm (by (repeat' constructor)) rfl rfl rfl rfl rfl ?_
     exact G.done2 rfl (.cellA rfl ag_37 (by (repeat' constructor)) (by simp [ptC]) rfl) (.tmp rfl) ⟨(⟨1, (kidZ z.1 (nm6 (pickZ a.2.2.1 6))), a.2.2.2.1, (.slice (some ⟨b12, 0, none⟩) 1 1), [(1 + pickZ a.2.2.1 31, wldZ)], 0, z.2.2.st.cver + 1, 0, .slice none 0 0⟩ : Pt), false, rfl, (fun e => by cases e), ⟨rfl, rfl, by simp, by first | exact hpl62 | (simp; done) | (show z.1.length ≤ 62; omega)⟩, rfl⟩ (by (repeat' constructor)) (by (repeat' constructor))
  ·refine G.condF rfl (G.region (G.q (Quiet.int rfl rfl rfl) rfl (G.q (Quiet.assign rfl) rfl (G.nil (G.then_n ?_)))))
   refine G.dec (t := 35) rfl (fun h35 => ?_) (fun h35 => ?_)
   ·refine G.condT rfl (G.seq (G.region ?_))
    refine G.op (OpSpec.buildSlice1 (vs := [_, _, _, _, _, _]) el_40 ze_9 rfl rfl rfl rfl rfl (by decide)) (by (repeat' constructor)) rfl ?nx449
    rintro v L' ⟨bs, rfl, rfl⟩
    refine G.q (Quiet.assign rfl) rfl (G.nil ?_)
    refine G.ptCast (b := bs) (l' := names6.map vstr) (by (repeat' constructor)) rfl ?_
    refine G.then_n (G.seq ?_)
    refine G.draw [] [[0, 1, 2, 3, 4, 5, 6, 7, 8, 9]] mixed (by kernel_rfl) ?_
    refine Phases.go [ptc bs _ _, ptc ba _ _, ptc bN _ _] (by (repeat' constructor)) ?_
    refine D.qw [1, 8, 9] rfl (by kernel_rfl) (Quiet.fieldAddr rfl fo_131_0) ?_
    refine D.qw [8, 9] rfl (by kernel_rfl) (Quiet.load rfl ag_9 (by (repeat' constructor)) (rfl)) ?_
    refine D.qw [6, 7, 8, 9] rfl (by kernel_rfl) (Quiet.move rfl) ?_
    refine D.qw [4, 5, 6, 7, 8, 9] rfl (by kernel_rfl) (Quiet.fieldAddr rfl fo_94_2) ?_
    refine D.qw [5, 6, 7, 8, 9] rfl (by kernel_rfl) (Quiet.load rfl ag_3 (by (repeat' constructor)) (rfl)) ?_
    refine D.m rfl (by kernel_rfl) (OpSpec.call Tryz.func21 rfl rfl (vs := [_, _]) rfl (pick7_spec _ _ ha.h3 (by decide))) (by (repeat' constructor)) ?nx455
    refine D.qw [7, 8, 9] rfl (by kernel_rfl) (Quiet.indexAddr rfl rfl el_40 (by simp; omega)) ?_
    refine D.qw [8, 9] rfl (by kernel_rfl) (Quiet.load rfl ag_9 (by (repeat' constructor)) (nm6_at hp6.1 hp6.2)) ?_
    refine D.m rfl (by kernel_rfl) (OpSpec.call Tryz.func52 rfl rfl (vs := [_, _]) rfl (rkid_spec _ _ ?hs459 ?hn460)) (by (repeat' constructor)) ?nx461
    case hs459 => first | assumption | omega
    case hn460 => first | assumption | omega | simp
    refine D.qw [] rfl (by kernel_rfl) (Quiet.assign rfl) ?_
    refine D.ph (Phases.fin (G.then_n (G.seq (G.region (G.q (Quiet.assign rfl) rfl (G.nil (G.then_n (G.seq (G.seq (G.region (G.q (Quiet.move rfl) rfl ?_)))))))))))
    refine G.q (Quiet.as (v' := .bool true) (by rfl) (Quiet.move rfl)) rfl ?_
    refine G.grun (t := 50) rfl rfl rfl (G.q (Quiet.move rfl) rfl (G.grun (t := 50) rfl rfl rfl (G.q (Quiet.nilp rfl) rfl (G.grun (t := 50) rfl rfl rfl (G.q (Quiet.fieldAddr rfl fo_101_1) rfl (G.grun (t := 50) rfl rfl rfl ?_))))))
    refine G.q (Quiet.load rfl ag_99 (by (repeat' constructor)) (rfl)) rfl ?_
    refine G.grun (t := 50) rfl rfl rfl (G.q (Quiet.slen rfl Tryz.underlying99 rfl) rfl (G.grun (t := 50) rfl rfl rfl (G.q (Quiet.int rfl rfl rfl) rfl (G.q (Quiet.pickT rfl rfl) rfl (G.q (Quiet.move rfl) rfl ?_)))))
    refine G.dec (t := 58) rfl (fun h10_58 => ?_) (fun h10_58 => ?_)
    ·refine G.kDT (t := 56) rfl h10_58 (G.kDT (t := 57) rfl h10_58 (G.grun (t := 58) rfl rfl rfl (G.q (Quiet.fieldAddr rfl fo_94_2) rfl (G.grun (t := 58) rfl rfl rfl ?_))))
     refine G.q (Quiet.load rfl ag_3 (by (repeat' constructor)) (rfl)) rfl ?_
     refine G.grun (t := 58) rfl rfl rfl ?_
     refine G.op (OpSpec.call Tryz.func21 rfl rfl (vs := [_, _]) rfl (pick7_spec _ _ ha.h3 (by decide))) (by (repeat' constructor)) rfl ?nx473
     rintro v L' ⟨rfl, rfl⟩
     refine G.grun (t := 58) rfl rfl rfl (G.q (Quiet.int rfl rfl rfl) rfl (G.q (Quiet.pickT rfl rfl) rfl (G.nil (G.then_n ?_))))
     refine G.condD rfl (fun h63 => ?_) (fun h63 => ?_)
     ·obtain ⟨j, hjp⟩ : ∃ j : Nat, pickZ a.2.1 (τ.sess.length : Int) = j := ⟨(pickZ a.2.1 τ.sess.length).toNat, by have := pickZ_range a.2.1 (n := (τ.sess.length : Int)) (by omega); omega⟩
      have hj : j < τ.sess.length := by have := pickZ_range a.2.1 (n := (τ.sess.length : Int)) (by omega); omega
      refine G.slShape (T := 134) (sz := 3) (v := .slice as2 τ.sess.length cs2) (xs := τ.sess.flatMap rsC) (by (repeat' constructor)) (by omega) fun bs bs' e0 mbs _ => ?_
      simp only [Value.slice.injEq, true_and] at e0
      obtain ⟨rfl, rfl⟩ := e0
      refine G.draw [] [[0, 1, 2, 3, 4, 5, 6, 7, 8, 9, 10, 11, 12, 13, 14, 15]] mixed (by kernel_rfl) ?_
      refine Phases.go [rsR _ _, ptc x _ _, ptc ba _ _] (by (repeat' constructor)) ?_
      refine D.qw [1, 2, 3, 12, 13, 14, 15] rfl (by kernel_rfl) (Quiet.move rfl) ?_
      refine D.qw [2, 3, 12, 13, 14, 15] rfl (by kernel_rfl) (Quiet.nilp rfl) ?_
      refine D.qw [3, 12, 13, 14, 15] rfl (by kernel_rfl) (Quiet.fieldAddr rfl fo_101_1) ?_
      refine D.qw [12, 13, 14, 15] rfl (by kernel_rfl) (Quiet.load rfl ag_99 (by (repeat' constructor)) (rfl)) ?_
      refine D.qw [5, 11, 12, 13, 14, 15] rfl (by kernel_rfl) (Quiet.fieldAddr rfl fo_94_1) ?_
      refine D.qw [11, 12, 13, 14, 15] rfl (by kernel_rfl) (Quiet.load rfl ag_3 (by (repeat' constructor)) (rfl)) ?_
      refine D.qw [7, 8, 9, 10, 11, 12, 13, 14, 15] rfl (by kernel_rfl) (Quiet.move rfl) ?_
      refine D.qw [8, 9, 10, 11, 12, 13, 14, 15] rfl (by kernel_rfl) (Quiet.nilp rfl) ?_
      refine D.qw [9, 10, 11, 12, 13, 14, 15] rfl (by kernel_rfl) (Quiet.fieldAddr rfl fo_101_1) ?_
      refine D.qw [10, 11, 12, 13, 14, 15] rfl (by kernel_rfl) (Quiet.load rfl ag_99 (by (repeat' constructor)) (rfl)) ?_
      refine D.qw [11, 12, 13, 14, 15] rfl (by kernel_rfl) (Quiet.slen rfl Tryz.underlying99 rfl) ?_
      refine D.m rfl (by kernel_rfl) (OpSpec.call Tryz.func21 rfl rfl (vs := [_, _]) rfl (pick7_is _ _ (k := (j : Int)) hjp ha.h2 (by first | decide | omega))) (by (repeat' constructor)) ?nx487
      refine D.qw [13, 14, 15] rfl (by kernel_rfl) (Quiet.indexAddr rfl rfl el_99 (by omega)) ?_
      refine D.qw [14, 15] rfl (by kernel_rfl) (Quiet.fieldAddr rfl fo_134_0) ?_
      refine D.qw [15] rfl (by kernel_rfl) (Quiet.loadRd (sz := 3) (j := j * 3 + 0) (p := rsR _ τ.sess) rfl ag_3 (by (repeat' constructor)) (fun h hp => slR_rd hp) (by omega) ((rs_cell (l := τ.sess) (i := j) (k := 0) (by omega) (by decide)).trans rfl)) ?_
      refine D.qw [] rfl (by kernel_rfl) (Quiet.assign rfl) ?_
      refine D.ph (Phases.fin (G.then_n (G.seq ?_)))
      refine G.draw [8, 32] [[0, 1, 2, 3, 4, 5, 6, 7, 9, 10, 11, 12, 13, 15, 16, 17, 18, 19, 20, 21, 22, 23, 24, 25, 26, 27, 28, 29, 30, 31, 8, 14, 32], [33]] mixed (by kernel_rfl) ?_
      refine Phases.go [ptc ba _ _, ptc bN _ _, ptc x _ _] (by (repeat' constructor)) ?_
      refine D.q rfl (by kernel_rfl) (Quiet.move rfl) ?_
      refine D.q rfl (by kernel_rfl) (Quiet.fieldAddr rfl fo_94_3) ?_
      refine D.q rfl (by kernel_rfl) (Quiet.load rfl ag_9 (by (repeat' constructor)) (rfl)) ?_
      refine D.qw [4, 5, 6, 7, 19, 20, 21, 22, 23, 24, 25, 26, 27, 28, 29, 30, 31, 8, 14, 32] rfl (by kernel_rfl) (Quiet.fieldAddr rfl fo_94_2) ?_
      refine D.qw [5, 6, 7, 19, 20, 21, 22, 23, 24, 25, 26, 27, 28, 29, 30, 31, 8, 14, 32] rfl (by kernel_rfl) (Quiet.load rfl ag_3 (by (repeat' constructor)) (rfl)) ?_
      refine D.m rfl (by kernel_rfl) (OpSpec.call Tryz.func21 rfl rfl (vs := [_, _]) rfl (pick7_spec _ _ ha.h3 (by decide))) (by (repeat' constructor)) ?nx496
      refine D.qw [7, 8, 14, 32] rfl (by kernel_rfl) (Quiet.add rfl rfl (by omega)) ?_
      refine D.qw [8, 14, 32] rfl (by kernel_rfl) (Quiet.to (v' := .agg (acC (1 + pickZ a.2.2.1 31, wldZ)).toArray) (Quiet.build (us := [(0, _), (1, _)]) fl_104 ze_104 rfl rfl (by simp [isCell])) rfl) ?_
      refine D.q rfl (by kernel_rfl) (Quiet.move rfl) ?_
      refine D.q rfl (by kernel_rfl) (Quiet.fieldAddr rfl fo_131_3) ?_
      refine D.q rfl (by kernel_rfl) (Quiet.fieldAddr rfl fo_43_4) ?_
      refine D.q rfl (by kernel_rfl) (Quiet.load rfl ag_3 (by (repeat' constructor)) (rfl)) ?_
      refine D.q rfl (by kernel_rfl) (Quiet.add rfl rfl (by omega)) ?_
      refine D.q rfl (by kernel_rfl) (Quiet.fieldAddr rfl fo_131_3) ?_
      refine D.q rfl (by kernel_rfl) (Quiet.fieldAddr rfl fo_43_6) ?_
      refine D.q rfl (by kernel_rfl) (Quiet.load rfl ag_3 (by (repeat' constructor)) (rfl)) ?_
      refine D.q rfl (by kernel_rfl) (Quiet.int rfl rfl rfl) ?_
      refine D.q rfl (by kernel_rfl) (Quiet.move rfl) ?_
      refine D.dec (t := 98) rfl (fun h12_98 => ?_) (fun h12_98 => ?_)
      ·refine D.kDT (t := 97) rfl h12_98 ?_
       refine D.gq (t := 98) rfl rfl rfl (by kernel_rfl) (Quiet.move rfl) ?_
       refine D.gq (t := 98) rfl rfl rfl (by kernel_rfl) (Quiet.nilp rfl) ?_
       refine D.gq (t := 98) rfl rfl rfl (by kernel_rfl) (Quiet.fieldAddr rfl fo_101_0) ?_
       refine D.gq (t := 98) rfl rfl rfl (by kernel_rfl) (Quiet.load rfl ag_98 (by (repeat' constructor)) (rfl)) ?_
       refine D.gq (t := 98) rfl rfl rfl (by kernel_rfl) (Quiet.slen rfl Tryz.underlying98 rfl) ?_
       refine D.gq (t := 98) rfl rfl rfl (by kernel_rfl) (Quiet.int rfl rfl rfl) ?_
       refine D.q rfl (by kernel_rfl) (Quiet.pickT rfl rfl) ?_
       refine D.q rfl (by kernel_rfl) (Quiet.move rfl) ?_
       refine D.dec (t := 106) rfl (fun h12_106 => ?_) (fun h12_106 => ?_)
       ·refine D.kDT (t := 104) rfl h12_106 (D.kDT (t := 105) rfl h12_106 ?_)
        refine D.gq (t := 106) rfl rfl rfl (by kernel_rfl) (Quiet.move rfl) ?_
        refine D.gm (t := 106) rfl rfl rfl (by kernel_rfl) (OpSpec.call Tryz.func111 rfl rfl (vs := [_]) rfl (rcheck_spec _ ?hs514)) (by (repeat' constructor)) ?nx515
        case hs514 => first | assumption | omega
        refine D.gq (t := 106) rfl rfl rfl (by kernel_rfl) (Quiet.int rfl rfl rfl) ?_
        refine D.q rfl (by kernel_rfl) (Quiet.pickT rfl rfl) ?_
        refine D.h rfl (by kernel_rfl) (OpSpec.buildSlice (vs := [_]) el_34 ze_104 rfl rfl rfl rfl (by first | (simp [Value.cells]; done) | (intro v hv; simp only [List.mem_cons, List.not_mem_nil, or_false] at hv; (repeat (first | (subst hv; rfl) | (rcases hv with hv | hv; (subst hv; rfl)))))) (by decide)) (by (repeat' constructor)) ?nx518
        rintro v L' ⟨b12, rfl, rfl⟩
        refine D.qw [32] rfl (by kernel_rfl) (Quiet.to (v' := .agg (ptC (⟨1, (kidZ z.1 (nm6 (pickZ a.2.2.1 6))), a.2.2.2.1, (.slice (some ⟨b12, 0, none⟩) 1 1), [(1 + pickZ a.2.2.1 31, wldZ)], (τ.sess[j].1), z.2.2.st.cver + 1, 0, .slice none 0 0⟩ : Pt)).toArray) (Quiet.build (us := [(0, _), (1, _), (2, _), (3, _), (4, _), (5, _)]) fl_37 ze_37 rfl rfl (by simp [isCell])) rfl) ?_
        refine D.h rfl (by kernel_rfl) (OpSpec.storeA rfl rfl ?c521 sz_37 ?c524 ?c522 ?c523) (by (repeat' constructor)) ?nx525
        case c521 => exact pt_cells rfl rfl
        case c524 => rfl
        case c522 => simp [ptC]
        case c523 => exact nfz0 _ _
        rintro v L' rfl
        refine D.ph ?_
        refine Phases.go [] (by (repeat' constructor)) ?_
        refine D.qw [] rfl (by kernel_rfl) (Quiet.assign rfl) ?_
        refine D.ph (Phases.fin (G.then_n (G.ret (G.blk_r (G.then_r ?_)))))
        refine G.slMakeN 2 1 (b := b12) (xs := ([(1 + pickZ a.2.2.1 31, wldZ)] : List Ac).flatMap acC) (by (repeat' constructor)) rfl rfl ?_
        refine G.toRd (m := 1) (by (repeat' constructor)) ?_
        refine G.ptCast (b := b0) (l' := ptC (⟨1, (kidZ z.1 (nm6 (pickZ a.2.2.1 6))), a.2.2.2.1, (.slice (some ⟨b12, 0, none⟩) 1 1), [(1 + pickZ a.2.2.1 31, wldZ)], (τ.sess[j].1), z.2.2.st.cver + 1, 0, .slice none 0 0⟩ : Pt)) (by (repeat' constructor)) rfl ?_
        refine G.rfFold (x := x) (τ := τ) (l := m) hm (by (repeat' constructor)) rfl rfl rfl rfl rfl ?_
        exact G.done2 rfl (.cellA rfl ag_37 (by (repeat' constructor)) (by simp [ptC]) rfl) (.tmp rfl) ⟨(⟨1, (kidZ z.1 (nm6 (pickZ a.2.2.1 6))), a.2.2.2.1, (.slice (some ⟨b12, 0, none⟩) 1 1), [(1 + pickZ a.2.2.1 31, wldZ)], (τ.sess[j].1), z.2.2.st.cver + 1, 0, .slice none 0 0⟩ : Pt), _, rfl, fun _ => ⟨⟨by show (0 : Int) ≤ 1; decide, by show (1 : Int) ≤ 4; decide⟩, hpl62, hd, .inr ⟨_, by omega, by omega, rfl⟩, .inr ⟨τ.sess[j].2, al_of_mem (hinv.ok.ssorted.nodup linI) (List.getElem_mem hj)⟩, ⟨by show 0 ≤ z.2.2.st.cver + 1; omega, by show z.2.2.st.cver + 1 ≤ K + 1; omega⟩, rfl, fun _ => by omega⟩, ⟨rfl, rfl, by simp, by first | exact hpl62 | (simp; done) | (show z.1.length ≤ 62; omega)⟩, rfl⟩ (by (repeat' constructor)) (by (repeat' constructor))
       ·refine D.kDF (t := 104) rfl h12_106 (D.kDF (t := 105) rfl h12_106 ?_)
        refine D.gs (t := 106) rfl rfl rfl rfl (by kernel_rfl) ?_
        refine D.gs (t := 106) rfl rfl rfl rfl (by kernel_rfl) ?_
        refine D.gs (t := 106) rfl rfl rfl rfl (by kernel_rfl) ?_
        refine D.q rfl (by kernel_rfl) (Quiet.pickF rfl rfl) ?_
        refine D.h rfl (by kernel_rfl) (OpSpec.buildSlice (vs := [_]) el_34 ze_104 rfl rfl rfl rfl (by first | (simp [Value.cells]; done) | (intro v hv; simp only [List.mem_cons, List.not_mem_nil, or_false] at hv; (repeat (first | (subst hv; rfl) | (rcases hv with hv | hv; (subst hv; rfl)))))) (by decide)) (by (repeat' constructor)) ?nx527
        rintro v L' ⟨b12, rfl, rfl⟩
        refine D.qw [32] rfl (by kernel_rfl) (Quiet.to (v' := .agg (ptC (⟨1, (kidZ z.1 (nm6 (pickZ a.2.2.1 6))), a.2.2.2.1, (.slice (some ⟨b12, 0, none⟩) 1 1), [(1 + pickZ a.2.2.1 31, wldZ)], (τ.sess[j].1), z.2.2.st.cver + 1, 0, .slice none 0 0⟩ : Pt)).toArray) (Quiet.build (us := [(0, _), (1, _), (2, _), (3, _), (4, _), (5, _)]) fl_37 ze_37 rfl rfl (by simp [isCell])) rfl) ?_
        refine D.h rfl (by kernel_rfl) (OpSpec.storeA rfl rfl ?c530 sz_37 ?c533 ?c531 ?c532) (by (repeat' constructor)) ?nx534
        case c530 => exact pt_cells rfl rfl
        case c533 => rfl
        case c531 => simp [ptC]
        case c532 => exact nfz0 _ _
        rintro v L' rfl
        refine D.ph ?_
        refine Phases.go [] (by (repeat' constructor)) ?_
        refine D.qw [] rfl (by kernel_rfl) (Quiet.assign rfl) ?_
        refine D.ph (Phases.fin (G.then_n (G.ret (G.blk_r (G.then_r ?_)))))
        refine G.slMakeN 2 1 (b := b12) (xs := ([(1 + pickZ a.2.2.1 31, wldZ)] : List Ac).flatMap acC) (by (repeat' constructor)) rfl rfl ?_
        refine G.toRd (m := 1) (by (repeat' constructor)) ?_
        refine G.ptCast (b := b0) (l' := ptC (⟨1, (kidZ z.1 (nm6 (pickZ a.2.2.1 6))), a.2.2.2.1, (.slice (some ⟨b12, 0, none⟩) 1 1), [(1 + pickZ a.2.2.1 31, wldZ)], (τ.sess[j].1), z.2.2.st.cver + 1, 0, .slice none 0 0⟩ : Pt)) (by (repeat' constructor)) rfl ?_
        refine G.rfFold (x := x) (τ := τ) (l := m) hm (by (repeat' constructor)) rfl rfl rfl rfl rfl ?_
        exact G.done2 rfl (.cellA rfl ag_37 (by (repeat' constructor)) (by simp [ptC]) rfl) (.tmp rfl) ⟨(⟨1, (kidZ z.1 (nm6 (pickZ a.2.2.1 6))), a.2.2.2.1, (.slice (some ⟨b12, 0, none⟩) 1 1), [(1 + pickZ a.2.2.1 31, wldZ)], (τ.sess[j].1), z.2.2.st.cver + 1, 0, .slice none 0 0⟩ : Pt), false, rfl, (fun e => by cases e), ⟨rfl, rfl, by simp, by first | exact hpl62 | (simp; done) | (show z.1.length ≤ 62; omega)⟩, rfl⟩ (by (repeat' constructor)) (by (repeat' constructor))
      ·refine D.kDF (t := 97) rfl h12_98 ?_
       refine D.gs (t := 98) rfl rfl rfl rfl (by kernel_rfl) ?_
       refine D.gs (t := 98) rfl rfl rfl rfl (by kernel_rfl) ?_
       refine D.gs (t := 98) rfl rfl rfl rfl (by kernel_rfl) ?_
       refine D.gs (t := 98) rfl rfl rfl rfl (by kernel_rfl) ?_
       refine D.gs (t := 98) rfl rfl rfl rfl (by kernel_rfl) ?_
       refine D.gs (t := 98) rfl rfl rfl rfl (by kernel_rfl) ?_
       refine D.q rfl (by kernel_rfl) (Quiet.pickF rfl rfl) ?_
       refine D.q rfl (by kernel_rfl) (Quiet.move rfl) ?_
       refine D.gs (t := 106) rfl rfl rfl rfl (by kernel_rfl) ?_
       refine D.gs (t := 106) rfl rfl rfl rfl (by kernel_rfl) ?_
       refine D.gs (t := 106) rfl rfl rfl rfl (by kernel_rfl) ?_
       refine D.q rfl (by kernel_rfl) (Quiet.pickF rfl rfl) ?_
       refine D.h rfl (by kernel_rfl) (OpSpec.buildSlice (vs := [_]) el_34 ze_104 rfl rfl rfl rfl (by first | (simp [Value.cells]; done) | (intro v hv; simp only [List.mem_cons, List.not_mem_nil, or_false] at hv; (repeat (first | (subst hv; rfl) | (rcases hv with hv | hv; (subst hv; rfl)))))) (by decide)) (by (repeat' constructor)) ?nx537
       rintro v L' ⟨b12, rfl, rfl⟩
       refine D.qw [32] rfl (by kernel_rfl) (Quiet.to (v' := .agg (ptC (⟨1, (kidZ z.1 (nm6 (pickZ a.2.2.1 6))), a.2.2.2.1, (.slice (some ⟨b12, 0, none⟩) 1 1), [(1 + pickZ a.2.2.1 31, wldZ)], (τ.sess[j].1), z.2.2.st.cver + 1, 0, .slice none 0 0⟩ : Pt)).toArray) (Quiet.build (us := [(0, _), (1, _), (2, _), (3, _), (4, _), (5, _)]) fl_37 ze_37 rfl rfl (by simp [isCell])) rfl) ?_
       refine D.h rfl (by kernel_rfl) (OpSpec.storeA rfl rfl ?c540 sz_37 ?c543 ?c541 ?c542) (by (repeat' constructor)) ?nx544
       case c540 => exact pt_cells rfl rfl
       case c543 => rfl
       case c541 => simp [ptC]
       case c542 => exact nfz0 _ _
       rintro v L' rfl
       refine D.ph ?_
       refine Phases.go [] (by (repeat' constructor)) ?_
       refine D.qw [] rfl (by kernel_rfl) (Quiet.assign rfl) ?_
       refine D.ph (Phases.fin (G.then_n (G.ret (G.blk_r (G.then_r ?_)))))
       refine G.slMakeN 2 1 (b := b12) (xs := ([(1 + pickZ a.2.2.1 31, wldZ)] : List Ac).flatMap acC) (by (repeat' constructor)) rfl rfl ?_
       refine G.toRd (m := 1) (by (repeat' constructor)) ?_
       refine G.ptCast (b := b0) (l' := ptC (⟨1, (kidZ z.1 (nm6 (pickZ a.2.2.1 6))), a.2.2.2.1, (.slice (some ⟨b12, 0, none⟩) 1 1), [(1 + pickZ a.2.2.1 31, wldZ)], (τ.sess[j].1), z.2.2.st.cver + 1, 0, .slice none 0 0⟩ : Pt)) (by (repeat' constructor)) rfl ?_
       refine G.rfFold (x := x) (τ := τ) (l := m) hm (by (repeat' constructor)) rfl rfl rfl rfl rfl ?_
       exact G.done2 rfl (.cellA rfl ag_37 (by (repeat' constructor)) (by simp [ptC]) rfl) (.tmp rfl) ⟨(⟨1, (kidZ z.1 (nm6 (pickZ a.2.2.1 6))), a.2.2.2.1, (.slice (some ⟨b12, 0, none⟩) 1 1), [(1 + pickZ a.2.2.1 31, wldZ)], (τ.sess[j].1), z.2.2.st.cver + 1, 0, .slice none 0 0⟩ : Pt), false, rfl, (fun e => by cases e), ⟨rfl, rfl, by simp, by first | exact hpl62 | (simp; done) | (show z.1.length ≤ 62; omega)⟩, rfl⟩ (by (repeat' constructor)) (by (repeat' constructor))
     ·refine G.skip (G.then_n (G.seq ?_))
      refine G.draw [8, 32] [[0, 1, 2, 3, 4, 5, 6, 7, 9, 10, 11, 12, 13, 15, 16, 17, 18, 19, 20, 21, 22, 23, 24, 25, 26, 27, 28, 29, 30, 31, 8, 14, 32], [33]] mixed (by kernel_rfl) ?_
      refine Phases.go [ptc ba _ _, ptc bN _ _, ptc x _ _] (by (repeat' constructor)) ?_
      refine D.q rfl (by kernel_rfl) (Quiet.move rfl) ?_
      refine D.q rfl (by kernel_rfl) (Quiet.fieldAddr rfl fo_94_3) ?_
      refine D.q rfl (by kernel_rfl) (Quiet.load rfl ag_9 (by (repeat' constructor)) (rfl)) ?_
      refine D.qw [4, 5, 6, 7, 19, 20, 21, 22, 23, 24, 25, 26, 27, 28, 29, 30, 31, 8, 14, 32] rfl (by kernel_rfl) (Quiet.fieldAddr rfl fo_94_2) ?_
      refine D.qw [5, 6, 7, 19, 20, 21, 22, 23, 24, 25, 26, 27, 28, 29, 30, 31, 8, 14, 32] rfl (by kernel_rfl) (Quiet.load rfl ag_3 (by (repeat' constructor)) (rfl)) ?_
      refine D.m rfl (by kernel_rfl) (OpSpec.call Tryz.func21 rfl rfl (vs := [_, _]) rfl (pick7_spec _ _ ha.h3 (by decide))) (by (repeat' constructor)) ?nx549
      refine D.qw [7, 8, 14, 32] rfl (by kernel_rfl) (Quiet.add rfl rfl (by omega)) ?_
      refine D.qw [8, 14, 32] rfl (by kernel_rfl) (Quiet.to (v' := .agg (acC (1 + pickZ a.2.2.1 31, wldZ)).toArray) (Quiet.build (us := [(0, _), (1, _)]) fl_104 ze_104 rfl rfl (by simp [isCell])) rfl) ?_
      refine D.q rfl (by kernel_rfl) (Quiet.move rfl) ?_
      refine D.q rfl (by kernel_rfl) (Quiet.fieldAddr rfl fo_131_3) ?_
      refine D.q rfl (by kernel_rfl) (Quiet.fieldAddr rfl fo_43_4) ?_
      refine D.q rfl (by kernel_rfl) (Quiet.load rfl ag_3 (by (repeat' constructor)) (rfl)) ?_
      refine D.q rfl (by kernel_rfl) (Quiet.add rfl rfl (by omega)) ?_
      refine D.q rfl (by kernel_rfl) (Quiet.fieldAddr rfl fo_131_3) ?_
      refine D.q rfl (by kernel_rfl) (Quiet.fieldAddr rfl fo_43_6) ?_
      refine D.q rfl (by kernel_rfl) (Quiet.load rfl ag_3 (by (repeat' constructor)) (rfl)) ?_
      refine D.q rfl (by kernel_rfl) (Quiet.int rfl rfl rfl) ?_
      refine D.q rfl (by kernel_rfl) (Quiet.move rfl) ?_
      refine D.dec (t := 98) rfl (fun h12_98 => ?_) (fun h12_98 => ?_)
      ·refine D.kDT (t := 97) rfl h12_98 ?_
       refine D.gq (t := 98) rfl rfl rfl (by kernel_rfl) (Quiet.move rfl) ?_
       refine D.gq (t := 98) rfl rfl rfl (by kernel_rfl) (Quiet.nilp rfl) ?_
       refine D.gq (t := 98) rfl rfl rfl (by kernel_rfl) (Quiet.fieldAddr rfl fo_101_0) ?_
       refine D.gq (t := 98) rfl rfl rfl (by kernel_rfl) (Quiet.load rfl ag_98 (by (repeat' constructor)) (rfl)) ?_
       refine D.gq (t := 98) rfl rfl rfl (by kernel_rfl) (Quiet.slen rfl Tryz.underlying98 rfl) ?_
       refine D.gq (t := 98) rfl rfl rfl (by kernel_rfl) (Quiet.int rfl rfl rfl) ?_
       refine D.q rfl (by kernel_rfl) (Quiet.pickT rfl rfl) ?_
       refine D.q rfl (by kernel_rfl) (Quiet.move rfl) ?_
       refine D.dec (t := 106) rfl (fun h12_106 => ?_) (fun h12_106 => ?_)
       ·refine D.kDT (t := 104) rfl h12_106 (D.kDT (t := 105) rfl h12_106 ?_)
        refine D.gq (t := 106) rfl rfl rfl (by kernel_rfl) (Quiet.move rfl) ?_
        refine D.gm (t := 106) rfl rfl rfl (by kernel_rfl) (OpSpec.call Tryz.func111 rfl rfl (vs := [_]) rfl (rcheck_spec _ ?hs567)) (by (repeat' constructor)) ?nx568
        case hs567 => first | assumption | omega
        refine D.gq (t := 106) rfl rfl rfl (by kernel_rfl) (Quiet.int rfl rfl rfl) ?_
        refine D.q rfl (by kernel_rfl) (Quiet.pickT rfl rfl) ?_
        refine D.h rfl (by kernel_rfl) (OpSpec.buildSlice (vs := [_]) el_34 ze_104 rfl rfl rfl rfl (by first | (simp [Value.cells]; done) | (intro v hv; simp only [List.mem_cons, List.not_mem_nil, or_false] at hv; (repeat (first | (subst hv; rfl) | (rcases hv with hv | hv; (subst hv; rfl)))))) (by decide)) (by (repeat' constructor)) ?nx571
        rintro v L' ⟨b12, rfl, rfl⟩
        refine D.qw [32] rfl (by kernel_rfl) (Quiet.to (v' := .agg (ptC (⟨1, (kidZ z.1 (nm6 (pickZ a.2.2.1 6))), a.2.2.2.1, (.slice (some ⟨b12, 0, none⟩) 1 1), [(1 + pickZ a.2.2.1 31, wldZ)], 0, z.2.2.st.cver + 1, 0, .slice none 0 0⟩ : Pt)).toArray) (Quiet.build (us := [(0, _), (1, _), (2, _), (3, _), (4, _), (5, _)]) fl_37 ze_37 rfl rfl (by simp [isCell])) rfl) ?_
        refine D.h rfl (by kernel_rfl) (OpSpec.storeA rfl rfl ?c574 sz_37 ?c577 ?c575 ?c576) (by (repeat' constructor)) ?nx578
        case c574 => exact pt_cells rfl rfl
        case c577 => rfl
        case c575 => simp [ptC]
        case c576 => exact nfz0 _ _
        rintro v L' rfl
        refine D.ph ?_
        refine Phases.go [] (by (repeat' constructor)) ?_
        refine D.qw [] rfl (by kernel_rfl) (Quiet.assign rfl) ?_
        refine D.ph (Phases.fin (G.then_n (G.ret (G.blk_r (G.then_r ?_)))))
        refine G.slMakeN 2 1 (b := b12) (xs := ([(1 + pickZ a.2.2.1 31, wldZ)] : List Ac).flatMap acC) (by (repeat' constructor)) rfl rfl ?_
        refine G.toRd (m := 1) (by (repeat' constructor)) ?_
        refine G.ptCast (b := b0) (l' := ptC (⟨1, (kidZ z.1 (nm6 (pickZ a.2.2.1 6))), a.2.2.2.1, (.slice (some ⟨b12, 0, none⟩) 1 1), [(1 + pickZ a.2.2.1 31, wldZ)], 0, z.2.2.st.cver + 1, 0, .slice none 0 0⟩ : Pt)) (by (repeat' constructor)) rfl ?_
        refine G.rfFold (x := x) (τ := τ) (l := m) hm (by (repeat' constructor)) rfl rfl rfl rfl rfl ?_
        exact G.done2 rfl (.cellA rfl ag_37 (by (repeat' constructor)) (by simp [ptC]) rfl) (.tmp rfl) ⟨(⟨1, (kidZ z.1 (nm6 (pickZ a.2.2.1 6))), a.2.2.2.1, (.slice (some ⟨b12, 0, none⟩) 1 1), [(1 + pickZ a.2.2.1 31, wldZ)], 0, z.2.2.st.cver + 1, 0, .slice none 0 0⟩ : Pt), _, rfl, fun _ => ⟨⟨by show (0 : Int) ≤ 1; decide, by show (1 : Int) ≤ 4; decide⟩, hpl62, hd, .inr ⟨_, by omega, by omega, rfl⟩, .inl rfl, ⟨by show 0 ≤ z.2.2.st.cver + 1; omega, by show z.2.2.st.cver + 1 ≤ K + 1; omega⟩, rfl, fun _ => by omega⟩, ⟨rfl, rfl, by simp, by first | exact hpl62 | (simp; done) | (show z.1.length ≤ 62; omega)⟩, rfl⟩ (by (repeat' constructor)) (by (repeat' constructor))
       ·refine D.kDF (t := 104) rfl h12_106 (D.kDF (t := 105) rfl h12_106 ?_)
        refine D.gs (t := 106) rfl rfl rfl rfl (by kernel_rfl) ?_
        refine D.gs (t := 106) rfl rfl rfl rfl (by kernel_rfl) ?_
        refine D.gs (t := 106) rfl rfl rfl rfl (by kernel_rfl) ?_
        refine D.q rfl (by kernel_rfl) (Quiet.pickF rfl rfl) ?_
        refine D.h rfl (by kernel_rfl) (OpSpec.buildSlice (vs := [_]) el_34 ze_104 rfl rfl rfl rfl (by first | (simp [Value.cells]; done) | (intro v hv; simp only [List.mem_cons, List.not_mem_nil, or_false] at hv; (repeat (first | (subst hv; rfl) | (rcases hv with hv | hv; (subst hv; rfl)))))) (by decide)) (by (repeat' constructor)) ?nx580
        rintro v L' ⟨b12, rfl, rfl⟩
        refine D.qw [32] rfl (by kernel_rfl) (Quiet.to (v' := .agg (ptC (⟨1, (kidZ z.1 (nm6 (pickZ a.2.2.1 6))), a.2.2.2.1, (.slice (some ⟨b12, 0, none⟩) 1 1), [(1 + pickZ a.2.2.1 31, wldZ)], 0, z.2.2.st.cver + 1, 0, .slice none 0 0⟩ : Pt)).toArray) (Quiet.build (us := [(0, _), (1, _), (2, _), (3, _), (4, _), (5, _)]) fl_37 ze_37 rfl rfl (by simp [isCell])) rfl) ?_
        refine D.h rfl (by kernel_rfl) (OpSpec.storeA rfl rfl ?c583 sz_37 ?c586 ?c584 ?c585) (by (repeat' constructor)) ?nx587
        case c583 => exact pt_cells rfl rfl
        case c586 => rfl
        case c584 => simp [ptC]
        case c585 => exact nfz0 _ _
        rintro v L' rfl
        refine D.ph ?_
        refine Phases.go [] (by (repeat' constructor)) ?_
        refine D.qw [] rfl (by kernel_rfl) (Quiet.assign rfl) ?_
        refine D.ph (Phases.fin (G.then_n (G.ret (G.blk_r (G.then_r ?_)))))
        refine G.slMakeN 2 1 (b := b12) (xs := ([(1 + pickZ a.2.2.1 31, wldZ)] : List Ac).flatMap acC) (by (repeat' constructor)) rfl rfl ?_
        refine G.toRd (m := 1) (by (repeat' constructor)) ?_
        refine G.ptCast (b := b0) (l' := ptC (⟨1, (kidZ z.1 (nm6 (pickZ a.2.2.1 6))), a.2.2.2.1, (.slice (some ⟨b12, 0, none⟩) 1 1), [(1 + pickZ a.2.2.1 31, wldZ)], 0, z.2.2.st.cver + 1, 0, .slice none 0 0⟩ : Pt)) (by (repeat' constructor)) rfl ?_
        refine G.rfFold (x := x) (τ := τ) (l := m) hm (by (repeat' constructor)) rfl rfl rfl rfl rfl ?_
        exact G.done2 rfl (.cellA rfl ag_37 (by (repeat' constructor)) (by simp [ptC]) rfl) (.tmp rfl) ⟨(⟨1, (kidZ z.1 (nm6 (pickZ a.2.2.1 6))), a.2.2.2.1, (.slice (some ⟨b12, 0, none⟩) 1 1), [(1 + pickZ a.2.2.1 31, wldZ)], 0, z.2.2.st.cver + 1, 0, .slice none 0 0⟩ : Pt), false, rfl, (fun e => by cases e), ⟨rfl, rfl, by simp, by first | exact hpl62 | (simp; done) | (show z.1.length ≤ 62; omega)⟩, rfl⟩ (by (repeat' constructor)) (by (repeat' constructor))
      ·refine D.kDF (t := 97) rfl h12_98 ?_
       refine D.gs (t := 98) rfl rfl rfl rfl (by kernel_rfl) ?_
       refine D.gs (t := 98) rfl rfl rfl rfl (by kernel_rfl) ?_
       refine D.gs (t := 98) rfl rfl rfl rfl (by kernel_rfl) ?_
       refine D.gs (t := 98) rfl rfl rfl rfl (by kernel_rfl) ?_
       refine D.gs (t := 98) rfl rfl rfl rfl (by kernel_rfl) ?_
       refine D.gs (t := 98) rfl rfl rfl rfl (by kernel_rfl) ?_
       refine D.q rfl (by kernel_rfl) (Quiet.pickF rfl rfl) ?_
       refine D.q rfl (by kernel_rfl) (Quiet.move rfl) ?_
       refine D.gs (t := 106) rfl rfl rfl rfl (by kernel_rfl) ?_
       refine D.gs (t := 106) rfl rfl rfl rfl (by kernel_rfl) ?_
       refine D.gs (t := 106) rfl rfl rfl rfl (by kernel_rfl) ?_
       refine D.q rfl (by kernel_rfl) (Quiet.pickF rfl rfl) ?_
       refine D.h rfl (by kernel_rfl) (OpSpec.buildSlice (vs := [_]) el_34 ze_104 rfl rfl rfl rfl (by first | (simp [Value.cells]; done) | (intro v hv; simp only [List.mem_cons, List.not_mem_nil, or_false] at hv; (repeat (first | (subst hv; rfl) | (rcases hv with hv | hv; (subst hv; rfl)))))) (by decide)) (by (repeat' constructor)) ?nx590
       rintro v L' ⟨b12, rfl, rfl⟩
       refine D.qw [32] rfl (by kernel_rfl) (Quiet.to (v' := .agg (ptC (⟨1, (kidZ z.1 (nm6 (pickZ a.2.2.1 6))), a.2.2.2.1, (.slice (some ⟨b12, 0, none⟩) 1 1), [(1 + pickZ a.2.2.1 31, wldZ)], 0, z.2.2.st.cver + 1, 0, .slice none 0 0⟩ : Pt)).toArray) (Quiet.build (us := [(0, _), (1, _), (2, _), (3, _), (4, _), (5, _)]) fl_37 ze_37 rfl rfl (by simp [isCell])) rfl) ?_
       refine D.h rfl (by kernel_rfl) (OpSpec.storeA rfl rfl ?c593 sz_37 ?c596 ?c594 ?c595) (by (repeat' constructor)) ?nx597
       case c593 => exact pt_cells rfl rfl
       case c596 => rfl
       case c594 => simp [ptC]
       case c595 => exact nfz0 _ _
       rintro v L' rfl
       refine D.ph ?_
       refine Phases.go [] (by (repeat' constructor)) ?_
       refine D.qw [] rfl (by kernel_rfl) (Quiet.assign rfl) ?_
       refine D.ph (Phases.fin (G.then_n (G.ret (G.blk_r (G.then_r ?_)))))
       refine G.slMakeN 2 1 (b := b12) (xs := ([(1 + pickZ a.2.2.1 31, wldZ)] : List Ac).flatMap acC) (by (repeat' constructor)) rfl rfl ?_
       refine G.toRd (m := 1) (by (repeat' constructor)) ?_
       refine G.ptCast (b := b0) (l' := ptC (⟨1, (kidZ z.1 (nm6 (pickZ a.2.2.1 6))), a.2.2.2.1, (.slice (some ⟨b12, 0, none⟩) 1 1), [(1 + pickZ a.2.2.1 31, wldZ)], 0, z.2.2.st.cver + 1, 0, .slice none 0 0⟩ : Pt)) (by (repeat' constructor)) rfl ?_
       refine G.rfFold (x := x) (τ := τ) (l := m) hm (by (repeat' constructor)) rfl rfl rfl rfl rfl ?_
       exact G.done2 rfl (.cellA rfl ag_37 (by (repeat' constructor)) (by simp [ptC]) rfl) (.tmp rfl) ⟨(⟨1, (kidZ z.1 (nm6 (pickZ a.2.2.1 6))), a.2.2.2.1, (.slice (some ⟨b12, 0, none⟩) 1 1), [(1 + pickZ a.2.2.1 31, wldZ)], 0, z.2.2.st.cver + 1, 0, .slice none 0 0⟩ : Pt), false, rfl, (fun e => by cases e), ⟨rfl, rfl, by simp, by first | exact hpl62 | (simp; done) | (show z.1.length ≤ 62; omega)⟩, rfl⟩ (by (repeat' constructor)) (by (repeat' constructor))
    ·refine G.kDF (t := 56) rfl h10_58 (G.kDF (t := 57) rfl h10_58 (G.gskip (t := 58) rfl rfl rfl rfl (G.gskip (t := 58) rfl rfl rfl rfl (G.gskip (t := 58) rfl rfl rfl rfl (G.gskip (t := 58) rfl rfl rfl rfl (G.q (Quiet.pickF rfl rfl) rfl (G.nil (G.then_n (G.condF rfl (G.skip (G.then_n (G.seq ?_))))))))))))
     refine G.draw [8, 32] [[0, 1, 2, 3, 4, 5, 6, 7, 9, 10, 11, 12, 13, 15, 16, 17, 18, 19, 20, 21, 22, 23, 24, 25, 26, 27, 28, 29, 30, 31, 8, 14, 32], [33]] mixed (by kernel_rfl) ?_
     refine Phases.go [ptc ba _ _, ptc bN _ _, ptc x _ _] (by (repeat' constructor)) ?_
     refine D.q rfl (by kernel_rfl) (Quiet.move rfl) ?_
     refine D.q rfl (by kernel_rfl) (Quiet.fieldAddr rfl fo_94_3) ?_
     refine D.q rfl (by kernel_rfl) (Quiet.load rfl ag_9 (by (repeat' constructor)) (rfl)) ?_
     refine D.qw [4, 5, 6, 7, 19, 20, 21, 22, 23, 24, 25, 26, 27, 28, 29, 30, 31, 8, 14, 32] rfl (by kernel_rfl) (Quiet.fieldAddr rfl fo_94_2) ?_
     refine D.qw [5, 6, 7, 19, 20, 21, 22, 23, 24, 25, 26, 27, 28, 29, 30, 31, 8, 14, 32] rfl (by kernel_rfl) (Quiet.load rfl ag_3 (by (repeat' constructor)) (rfl)) ?_
     refine D.m rfl (by kernel_rfl) (OpSpec.call Tryz.func21 rfl rfl (vs := [_, _]) rfl (pick7_spec _ _ ha.h3 (by decide))) (by (repeat' constructor)) ?nx603
     refine D.qw [7, 8, 14, 32] rfl (by kernel_rfl) (Quiet.add rfl rfl (by omega)) ?_
     refine D.qw [8, 14, 32] rfl (by kernel_rfl) (Quiet.to (v' := .agg (acC (1 + pickZ a.2.2.1 31, wldZ)).toArray) (Quiet.build (us := [(0, _), (1, _)]) fl_104 ze_104 rfl rfl (by simp [isCell])) rfl) ?_
     refine D.q rfl (by kernel_rfl) (Quiet.move rfl) ?_
     refine D.q rfl (by kernel_rfl) (Quiet.fieldAddr rfl fo_131_3) ?_
     refine D.q rfl (by kernel_rfl) (Quiet.fieldAddr rfl fo_43_4) ?_
     refine D.q rfl (by kernel_rfl) (Quiet.load rfl ag_3 (by (repeat' constructor)) (rfl)) ?_
     refine D.q rfl (by kernel_rfl) (Quiet.add rfl rfl (by omega)) ?_
     refine D.q rfl (by kernel_rfl) (Quiet.fieldAddr rfl fo_131_3) ?_
     refine D.q rfl (by kernel_rfl) (Quiet.fieldAddr rfl fo_43_6) ?_
     refine D.q rfl (by kernel_rfl) (Quiet.load rfl ag_3 (by (repeat' constructor)) (rfl)) ?_
     refine D.q rfl (by kernel_rfl) (Quiet.int rfl rfl rfl) ?_
     refine D.q rfl (by kernel_rfl) (Quiet.move rfl) ?_
     refine D.dec (t := 98) rfl (fun h12_98 => ?_) (fun h12_98 => ?_)
     ·refine D.kDT (t := 97) rfl h12_98 ?_
      refine D.gq (t := 98) rfl rfl rfl (by kernel_rfl) (Quiet.move rfl) ?_
      refine D.gq (t := 98) rfl rfl rfl (by kernel_rfl) (Quiet.nilp rfl) ?_
      refine D.gq (t := 98) rfl rfl rfl (by kernel_rfl) (Quiet.fieldAddr rfl fo_101_0) ?_
      refine D.gq (t := 98) rfl rfl rfl (by kernel_rfl) (Quiet.load rfl ag_98 (by (repeat' constructor)) (rfl)) ?_
      refine D.gq (t := 98) rfl rfl rfl (by kernel_rfl) (Quiet.slen rfl Tryz.underlying98 rfl) ?_
      refine D.gq (t := 98) rfl rfl rfl (by kernel_rfl) (Quiet.int rfl rfl rfl) ?_
      refine D.q rfl (by kernel_rfl) (Quiet.pickT rfl rfl) ?_
      refine D.q rfl (by kernel_rfl) (Quiet.move rfl) ?_
      refine D.dec (t := 106) rfl (fun h12_106 => ?_) (fun h12_106 => ?_)
      ·refine D.kDT (t := 104) rfl h12_106 (D.kDT (t := 105) rfl h12_106 ?_)
       refine D.gq (t := 106) rfl rfl rfl (by kernel_rfl) (Quiet.move rfl) ?_
       refine D.gm (t := 106) rfl rfl rfl (by kernel_rfl) (OpSpec.call Tryz.func111 rfl rfl (vs := [_]) rfl (rcheck_spec _ ?hs621)) (by (repeat' constructor)) ?nx622
       case hs621 => first | assumption | omega
       refine D.gq (t := 106) rfl rfl rfl (by kernel_rfl) (Quiet.int rfl rfl rfl) ?_
       refine D.q rfl (by kernel_rfl) (Quiet.pickT rfl rfl) ?_
       refine D.h rfl (by kernel_rfl) (OpSpec.buildSlice (vs := [_]) el_34 ze_104 rfl rfl rfl rfl (by first | (simp [Value.cells]; done) | (intro v hv; simp only [List.mem_cons, List.not_mem_nil, or_false] at hv; (repeat (first | (subst hv; rfl) | (rcases hv with hv | hv; (subst hv; rfl)))))) (by decide)) (by (repeat' constructor)) ?nx625
       rintro v L' ⟨b12, rfl, rfl⟩
       refine D.qw [32] rfl (by kernel_rfl) (Quiet.to (v' := .agg (ptC (⟨1, (kidZ z.1 (nm6 (pickZ a.2.2.1 6))), a.2.2.2.1, (.slice (some ⟨b12, 0, none⟩) 1 1), [(1 + pickZ a.2.2.1 31, wldZ)], 0, z.2.2.st.cver + 1, 0, .slice none 0 0⟩ : Pt)).toArray) (Quiet.build (us := [(0, _), (1, _), (2, _), (3, _), (4, _), (5, _)]) fl_37 ze_37 rfl rfl (by simp [isCell])) rfl) ?_
       refine D.h rfl (by kernel_rfl) (OpSpec.storeA rfl rfl ?c628 sz_37 ?c631 ?c629 ?c630) (by (repeat' constructor)) ?nx632
       case c628 => exact pt_cells rfl rfl
       case c631 => rfl
       case c629 => simp [ptC]
       case c630 => exact nfz0 _ _
       rintro v L' rfl
       refine D.ph ?_
       refine Phases.go [] (by (repeat' constructor)) ?_
       refine D.qw [] rfl (by kernel_rfl) (Quiet.assign rfl) ?_
       refine D.ph (Phases.fin (G.then_n (G.ret (G.blk_r (G.then_r ?_)))))
       refine G.slMakeN 2 1 (b := b12) (xs := ([(1 + pickZ a.2.2.1 31, wldZ)] : List Ac).flatMap acC) (by (repeat' constructor)) rfl rfl ?_
       refine G.toRd (m := 1) (by (repeat' constructor)) ?_
       refine G.ptCast (b := b0) (l' := ptC (⟨1, (kidZ z.1 (nm6 (pickZ a.2.2.1 6))), a.2.2.2.1, (.slice (some ⟨b12, 0, none⟩) 1 1), [(1 + pickZ a.2.2.1 31, wldZ)], 0, z.2.2.st.cver + 1, 0, .slice none 0 0⟩ : Pt)) (by (repeat' constructor)) rfl ?_
       refine G.rfFold (x := x) (τ := τ) (l := m) hm (by (repeat' constructor)) rfl rfl rfl rfl rfl ?_
       exact G.done2 rfl (.cellA rfl ag_37 (by (repeat' constructor)) (by simp [ptC]) rfl) (.tmp rfl) ⟨(⟨1, (kidZ z.1 (nm6 (pickZ a.2.2.1 6))), a.2.2.2.1, (.slice (some ⟨b12, 0, none⟩) 1 1), [(1 + pickZ a.2.2.1 31, wldZ)], 0, z.2.2.st.cver + 1, 0, .slice none 0 0⟩ : Pt), _, rfl, fun _ => ⟨⟨by show (0 : Int) ≤ 1; decide, by show (1 : Int) ≤ 4; decide⟩, hpl62, hd, .inr ⟨_, by omega, by omega, rfl⟩, .inl rfl, ⟨by show 0 ≤ z.2.2.st.cver + 1; omega, by show z.2.2.st.cver + 1 ≤ K + 1; omega⟩, rfl, fun _ => by omega⟩, ⟨rfl, rfl, by simp, by first | exact hpl62 | (simp; done) | (show z.1.length ≤ 62; omega)⟩, rfl⟩ (by (repeat' constructor)) (by (repeat' constructor))
      ·refine D.kDF (t := 104) rfl h12_106 (D.kDF (t := 105) rfl h12_106 ?_)
       refine D.gs (t := 106) rfl rfl rfl rfl (by kernel_rfl) ?_
       refine D.gs (t := 106) rfl rfl rfl rfl (by kernel_rfl) ?_
       refine D.gs (t := 106) rfl rfl rfl rfl (by kernel_rfl) ?_
       refine D.q rfl (by kernel_rfl) (Quiet.pickF rfl rfl) ?_
       refine D.h rfl (by kernel_rfl) (OpSpec.buildSlice (vs := [_]) el_34 ze_104 rfl rfl rfl rfl (by first | (simp [Value.cells]; done) | (intro v hv; simp only [List.mem_cons, List.not_mem_nil, or_false] at hv; (repeat (first | (subst hv; rfl) | (rcases hv with hv | hv; (subst hv; rfl)))))) (by decide)) (by (repeat' constructor)) ?nx634
       rintro v L' ⟨b12, rfl, rfl⟩
       refine D.qw [32] rfl (by kernel_rfl) (Quiet.to (v' := .agg (ptC (⟨1, (kidZ z.1 (nm6 (pickZ a.2.2.1 6))), a.2.2.2.1, (.slice (some ⟨b12, 0, none⟩) 1 1), [(1 + pickZ a.2.2.1 31, wldZ)], 0, z.2.2.st.cver + 1, 0, .slice none 0 0⟩ : Pt)).toArray) (Quiet.build (us := [(0, _), (1, _), (2, _), (3, _), (4, _), (5, _)]) fl_37 ze_37 rfl rfl (by simp [isCell])) rfl) ?_
       refine D.h rfl (by kernel_rfl) (OpSpec.storeA rfl rfl ?c637 sz_37 ?c640 ?c638 ?c639) (by (repeat' constructor)) ?nx641
       case c637 => exact pt_cells rfl rfl
       case c640 => rfl
       case c638 => simp [ptC]
       case c639 => exact nfz0 _ _
       rintro v L' rfl
       refine D.ph ?_
       refine Phases.go [] (by (repeat' constructor)) ?_
       refine D.qw [] rfl (by kernel_rfl) (Quiet.assign rfl) ?_
       refine D.ph (Phases.fin (G.then_n (G.ret (G.blk_r (G.then_r ?_)))))
       refine G.slMakeN 2 1 (b := b12) (xs := ([(1 + pickZ a.2.2.1 31, wldZ)] : List Ac).flatMap acC) (by (repeat' constructor)) rfl rfl ?_
       refine G.toRd (m := 1) (by (repeat' constructor)) ?_
       refine G.ptCast (b := b0) (l' := ptC (⟨1, (kidZ z.1 (nm6 (pickZ a.2.2.1 6))), a.2.2.2.1, (.slice (some ⟨b12, 0, none⟩) 1 1), [(1 + pickZ a.2.2.1 31, wldZ)], 0, z.2.2.st.cver + 1, 0, .slice none 0 0⟩ : Pt)) (by (repeat' constructor)) rfl ?_
       refine G.rfFold (x := x) (τ := τ) (l := m) hm (by (repeat' constructor)) rfl rfl rfl rfl rfl ?_
       exact G.done2 rfl (.cellA rfl ag_37 (by (repeat' constructor)) (by simp [ptC]) rfl) (.tmp rfl) ⟨(⟨1, (kidZ z.1 (nm6 (pickZ a.2.2.1 6))), a.2.2.2.1, (.slice (some ⟨b12, 0, none⟩) 1 1), [(1 + pickZ a.2.2.1 31, wldZ)], 0, z.2.2.st.cver + 1, 0, .slice none 0 0⟩ : Pt), false, rfl, (fun e => by cases e), ⟨rfl, rfl, by simp, by first | exact hpl62 | (simp; done) | (show z.1.length ≤ 62; omega)⟩, rfl⟩ (by (repeat' constructor)) (by (repeat' constructor))
     ·refine D.kDF (t := 97) rfl h12_98 ?_
      refine D.gs (t := 98) rfl rfl rfl rfl (by kernel_rfl) ?_
      refine D.gs (t := 98) rfl rfl rfl rfl (by kernel_rfl) ?_
      refine D.gs (t := 98) rfl rfl rfl rfl (by kernel_rfl) ?_
      refine D.gs (t := 98) rfl rfl rfl rfl (by kernel_rfl) ?_
      refine D.gs (t := 98) rfl rfl rfl rfl (by kernel_rfl) ?_
      refine D.gs (t := 98) rfl rfl rfl rfl (by kernel_rfl) ?_
      refine D.q rfl (by kernel_rfl) (Quiet.pickF rfl rfl) ?_
      refine D.q rfl (by kernel_rfl) (Quiet.move rfl) ?_
      refine D.gs (t := 106) rfl rfl rfl rfl (by kernel_rfl) ?_
      refine D.gs (t := 106) rfl rfl rfl rfl (by kernel_rfl) ?_
      refine D.gs (t := 106) rfl rfl rfl rfl (by kernel_rfl) ?_
      refine D.q rfl (by kernel_rfl) (Quiet.pickF rfl rfl) ?_
      refine D.h rfl (by kernel_rfl) (OpSpec.buildSlice (vs := [_]) el_34 ze_104 rfl rfl rfl rfl (by first | (simp [Value.cells]; done) | (intro v hv; simp only [List.mem_cons, List.not_mem_nil, or_false] at hv; (repeat (first | (subst hv; rfl) | (rcases hv with hv | hv; (subst hv; rfl)))))) (by decide)) (by (repeat' constructor)) ?nx644
      rintro v L' ⟨b12, rfl, rfl⟩
      refine D.qw [32] rfl (by kernel_rfl) (Quiet.to (v' := .agg (ptC (⟨1, (kidZ z.1 (nm6 (pickZ a.2.2.1 6))), a.2.2.2.1, (.slice (some ⟨b12, 0, none⟩) 1 1), [(1 + pickZ a.2.2.1 31, wldZ)], 0, z.2.2.st.cver + 1, 0, .slice none 0 0⟩ : Pt)).toArray) (Quiet.build (us := [(0, _), (1, _), (2, _), (3, _), (4, _), (5, _)]) fl_37 ze_37 rfl rfl (by simp [isCell])) rfl) ?_
      refine D.h rfl (by kernel_rfl) (OpSpec.storeA rfl rfl ?c647 sz_37 ?c650 ?c648 ?c649) (by (repeat' constructor)) ?nx651
      case c647 => exact pt_cells rfl rfl
      case c650 => rfl
      case c648 => simp [ptC]
      case c649 => exact nfz0 _ _
      rintro v L' rfl
      refine D.ph ?_
      refine Phases.go [] (by (repeat' constructor)) ?_
      refine D.qw [] rfl (by kernel_rfl) (Quiet.assign rfl) ?_
      refine D.ph (Phases.fin (G.then_n (G.ret (G.blk_r (G.then_r ?_)))))
      refine G.slMakeN 2 1 (b := b12) (xs := ([(1 + pickZ a.2.2.1 31, wldZ)] : List Ac).flatMap acC) (by (repeat' constructor)) rfl rfl ?_
      refine G.toRd (m := 1) (by (repeat' constructor)) ?_
      refine G.ptCast (b := b0) (l' := ptC (⟨1, (kidZ z.1 (nm6 (pickZ a.2.2.1 6))), a.2.2.2.1, (.slice (some ⟨b12, 0, none⟩) 1 1), [(1 + pickZ a.2.2.1 31, wldZ)], 0, z.2.2.st.cver + 1, 0, .slice none 0 0⟩ : Pt)) (by (repeat' constructor)) rfl ?_
      refine G.rfFold (x := x) (τ := τ) (l := m) hm (by (repeat' constructor)) rfl rfl rfl rfl rfl ?_
      exact G.done2 rfl (.cellA rfl ag_37 (by (repeat' constructor)) (by simp [ptC]) rfl) (.tmp rfl) ⟨(⟨1, (kidZ z.1 (nm6 (pickZ a.2.2.1 6))), a.2.2.2.1, (.slice (some ⟨b12, 0, none⟩) 1 1), [(1 + pickZ a.2.2.1 31, wldZ)], 0, z.2.2.st.cver + 1, 0, .slice none 0 0⟩ : Pt), false, rfl, (fun e => by cases e), ⟨rfl, rfl, by simp, by first | exact hpl62 | (simp; done) | (show z.1.length ≤ 62; omega)⟩, rfl⟩ (by (repeat' constructor)) (by (repeat' constructor))
   ·refine G.condF rfl (G.seq (G.region (G.q (Quiet.int rfl rfl rfl) rfl (G.q (Quiet.assign rfl) rfl (G.nil (G.then_n ?_))))))
    refine G.condD rfl (fun h111 => ?_) (fun h111 => ?_)
    ·refine G.seq (G.seq (G.region (G.q (Quiet.move rfl) rfl (G.q (Quiet.int rfl rfl rfl) rfl (G.nil (G.then_n ?_))))))
     refine G.condD rfl (fun h114 => ?_) (fun h114 => ?_)
     ·refine G.seq (G.region ?_)
      refine G.q (Quiet.to (v' := .agg (ptC (⟨0, [], [], .slice none 0 0, [], 0, 0, 0, .slice none 0 0⟩ : Pt)).toArray) (Quiet.build (us := []) fl_37 ze_37 rfl rfl (by simp [isCell])) rfl) rfl ?_
      refine G.op (OpSpec.storeA rfl rfl ?c655 sz_37 ?c658 ?c656 ?c657) (by (repeat' constructor)) rfl ?nx659
      case c655 => exact pt_cells rfl rfl
      case c658 => rfl
      case c656 => simp [ptC]
      case c657 => exact nfz0 _ _
      rintro v L' rfl
      refine G.q (Quiet.assign rfl) rfl (G.nil (G.then_n (G.ret (G.then_r (G.blk_r (G.then_r ?_))))))
      refine G.add (p := rdO 2 (.slice none 0 0) 0 []) (fun h => rd_none 2 h) ?_
      refine G.ptCast (b := b0) (l' := ptC (⟨0, [], [], .slice none 0 0, [], 0, 0, 0, .slice none 0 0⟩ : Pt)) (by (repeat' constructor)) rfl ?_
      refine G.rfFold (x := x) (τ := τ) (l := m) hm (by (repeat' constructor)) rfl rfl rfl rfl rfl ?_
      exact G.done2 rfl (.cellA rfl ag_37 (by (repeat' constructor)) (by simp [ptC]) rfl) (.tmp rfl) ⟨(⟨0, [], [], .slice none 0 0, [], 0, 0, 0, .slice none 0 0⟩ : Pt), false, rfl, (fun e => by cases e), ⟨rfl, rfl, by simp, by first | exact hpl62 | (simp; done) | (show z.1.length ≤ 62; omega)⟩, rfl⟩ (by (repeat' constructor)) (by (repeat' constructor))
     ·refine G.skip (G.then_n (G.seq ?_))
      have h114b : 0 ≤ placeTo τ.nodes (parentZ z.1) := by have h0 : ¬ placeTo τ.nodes (parentZ z.1) < 0 := h114; omega
      obtain ⟨k, hk, hpk, hkp⟩ := place_get (l := τ.nodes) h114b
      have hpz : placeZ τ (parentZ z.1) = k := hpk
      rw [hpz]
      have hkl2 : k < m.length := by omega
      have hlk : alook τ.nodes m[k].1 = some m[k].2.2 := by have g := nds_get hm (i := k) (by omega); have g2 := al_get hnd (i := k) (by omega); rw [g] at g2; exact g2
      have hvk := hinv.ver _ _ hlk
      refine G.slShape (T := 131) (sz := 12) (v := .slice am m.length cm) (xs := m.flatMap rnC) (by (repeat' constructor)) (by omega) fun bm bm' e0 mbm _ => ?_
      simp only [Value.slice.injEq, true_and] at e0
      obtain ⟨rfl, rfl⟩ := e0
      refine G.draw [13] [[0, 1, 2, 3, 4, 5, 6, 7, 8, 9, 10, 11, 12, 13], [14]] mixed (by kernel_rfl) ?_
      refine Phases.go [] (by (repeat' constructor)) ?_
      refine D.qw [1, 12, 13] rfl (by kernel_rfl) (Quiet.fieldAddr rfl fo_131_0) ?_
      refine D.qw [12, 13] rfl (by kernel_rfl) (Quiet.load rfl ag_9 (by (repeat' constructor)) (rfl)) ?_
      refine D.qw [3, 4, 5, 7, 8, 9, 10, 11, 12, 13] rfl (by kernel_rfl) (Quiet.move rfl) ?_
      refine D.qw [4, 5, 7, 8, 9, 10, 11, 12, 13] rfl (by kernel_rfl) (Quiet.nilp rfl) ?_
      refine D.qw [5, 7, 8, 9, 10, 11, 12, 13] rfl (by kernel_rfl) (Quiet.fieldAddr rfl fo_101_0) ?_
      refine D.qw [7, 8, 9, 10, 11, 12, 13] rfl (by kernel_rfl) (Quiet.load rfl ag_98 (by (repeat' constructor)) (rfl)) ?_
      refine D.qw [7, 8, 9, 10, 11, 12, 13] rfl (by kernel_rfl) (Quiet.move rfl) ?_
      refine D.qw [8, 9, 10, 11, 12, 13] rfl (by kernel_rfl) (Quiet.indexAddr rfl rfl el_98 (by omega)) ?_
      refine D.qw [9, 10, 11, 12, 13] rfl (by kernel_rfl) (Quiet.fieldAddr rfl fo_131_3) ?_
      refine D.qw [10, 11, 12, 13] rfl (by kernel_rfl) (Quiet.fieldAddr rfl fo_43_4) ?_
      refine D.qw [11, 12, 13] rfl (by kernel_rfl) (Quiet.loadRd (sz := 12) (j := k * 12 + 7) (p := rnR _ m) rfl ag_3 (by (repeat' constructor)) (fun h hp => slR_rd hp) (by omega) ((rn_cell (l := m) (i := k) (k := 7) (by omega) (by decide)).trans rfl)) ?_
      refine D.qw [12, 13] rfl (by kernel_rfl) (Quiet.add rfl rfl (by omega)) ?_
      refine D.qw [13] rfl (by kernel_rfl) (Quiet.to (v' := .agg (ptC (⟨2, z.1, [], .slice none 0 0, [], 0, m[k].2.2.st.cver + 1, 0, .slice none 0 0⟩ : Pt)).toArray) (Quiet.build (us := [(0, _), (1, _), (5, _)]) fl_37 ze_37 rfl rfl (by simp [isCell])) rfl) ?_
      refine D.h rfl (by kernel_rfl) (OpSpec.storeA rfl rfl ?c673 sz_37 ?c676 ?c674 ?c675) (by (repeat' constructor)) ?nx677
      case c673 => exact pt_cells rfl rfl
      case c676 => rfl
      case c674 => simp [ptC]
      case c675 => exact nfz0 _ _
      rintro v L' rfl
      refine D.ph ?_
      refine Phases.go [] (by (repeat' constructor)) ?_
      refine D.qw [] rfl (by kernel_rfl) (Quiet.assign rfl) ?_
      refine D.ph (Phases.fin (G.then_n (G.ret (G.blk_r (G.then_r ?_)))))
      refine G.add (p := rdO 2 (.slice none 0 0) 0 []) (fun h => rd_none 2 h) ?_
      refine G.ptCast (b := b0) (l' := ptC (⟨2, z.1, [], .slice none 0 0, [], 0, m[k].2.2.st.cver + 1, 0, .slice none 0 0⟩ : Pt)) (by (repeat' constructor)) rfl ?_
      refine G.rfFold (x := x) (τ := τ) (l := m) hm (by (repeat' constructor)) rfl rfl rfl rfl rfl ?_
      exact G.done2 rfl (.cellA rfl ag_37 (by (repeat' constructor)) (by simp [ptC]) rfl) (.tmp rfl) ⟨(⟨2, z.1, [], .slice none 0 0, [], 0, m[k].2.2.st.cver + 1, 0, .slice none 0 0⟩ : Pt), _, rfl, fun _ => ⟨⟨by show (0 : Int) ≤ 2; decide, by show (2 : Int) ≤ 4; decide⟩, by show z.1.length ≤ 62; omega, by simp, .inl rfl, .inl rfl, ⟨by show 0 ≤ m[k].2.2.st.cver + 1; omega, by show m[k].2.2.st.cver + 1 ≤ K + 1; omega⟩, rfl, (fun e => by cases e)⟩, ⟨rfl, rfl, by simp, by first | exact hpl62 | (simp; done) | (show z.1.length ≤ 62; omega)⟩, rfl⟩ (by (repeat' constructor)) (by (repeat' constructor))
    ·refine G.seq (G.region (G.q (Quiet.int rfl rfl rfl) rfl (G.q (Quiet.assign rfl) rfl (G.nil (G.then_n ?_)))))
     refine G.condD rfl (fun h129 => ?_) (fun h129 => ?_)
     ·refine G.seq (G.region (G.q (Quiet.fieldAddr rfl fo_131_0) rfl ?_))
      refine G.q (Quiet.load rfl ag_9 (by (repeat' constructor)) (rfl)) rfl ?_
      refine G.q (Quiet.fieldAddr rfl fo_94_3) rfl ?_
      refine G.q (Quiet.load rfl ag_9 (by (repeat' constructor)) (rfl)) rfl ?_
      refine G.q (Quiet.fieldAddr rfl fo_131_3) rfl (G.q (Quiet.fieldAddr rfl fo_43_3) rfl ?_)
      refine G.q (Quiet.load rfl ag_3 (by (repeat' constructor)) (rfl)) rfl ?_
      refine G.q (Quiet.add rfl rfl (by omega)) rfl ?_
      refine G.q (Quiet.to (v' := .agg (ptC (⟨3, z.1, a.2.2.2.1, .slice none 0 0, [], 0, z.2.2.st.ver + 1, 0, .slice none 0 0⟩ : Pt)).toArray) (Quiet.build (us := [(0, _), (1, _), (2, _), (5, _)]) fl_37 ze_37 rfl rfl (by simp [isCell])) rfl) rfl ?_
      refine G.op (OpSpec.storeA rfl rfl ?c689 sz_37 ?c692 ?c690 ?c691) (by (repeat' constructor)) rfl ?nx693
      case c689 => exact pt_cells rfl rfl
      case c692 => rfl
      case c690 => simp [ptC]
      case c691 => exact nfz0 _ _
      rintro v L' rfl
      refine G.q (Quiet.assign rfl) rfl (G.nil (G.then_n (G.ret (G.blk_r (G.then_r ?_)))))
      refine G.add (p := rdO 2 (.slice none 0 0) 0 []) (fun h => rd_none 2 h) ?_
      refine G.ptCast (b := b0) (l' := ptC (⟨3, z.1, a.2.2.2.1, .slice none 0 0, [], 0, z.2.2.st.ver + 1, 0, .slice none 0 0⟩ : Pt)) (by (repeat' constructor)) rfl ?_
      refine G.rfFold (x := x) (τ := τ) (l := m) hm (by (repeat' constructor)) rfl rfl rfl rfl rfl ?_
      exact G.done2 rfl (.cellA rfl ag_37 (by (repeat' constructor)) (by simp [ptC]) rfl) (.tmp rfl) ⟨(⟨3, z.1, a.2.2.2.1, .slice none 0 0, [], 0, z.2.2.st.ver + 1, 0, .slice none 0 0⟩ : Pt), _, rfl, fun _ => ⟨⟨by show (0 : Int) ≤ 3; decide, by show (3 : Int) ≤ 4; decide⟩, by show z.1.length ≤ 62; omega, hd, .inl rfl, .inl rfl, ⟨by show 0 ≤ z.2.2.st.ver + 1; omega, by show z.2.2.st.ver + 1 ≤ K + 1; omega⟩, rfl, (fun e => by cases e)⟩, ⟨rfl, rfl, by simp, by first | exact hpl62 | (simp; done) | (show z.1.length ≤ 62; omega)⟩, rfl⟩ (by (repeat' constructor)) (by (repeat' constructor))
     ·refine G.skip (G.blk_n (G.then_n (G.seq ?_)))
      refine G.draw [7, 13] [[0, 1, 2, 3, 4, 5, 6, 8, 9, 10, 11, 7], [12, 13], [14]] mixed (by kernel_rfl) ?_
      refine Phases.go [ptc ba _ _, ptc bN _ _] (by (repeat' constructor)) ?_
      refine D.q rfl (by kernel_rfl) (Quiet.fieldAddr rfl fo_131_0) ?_
      refine D.q rfl (by kernel_rfl) (Quiet.load rfl ag_9 (by (repeat' constructor)) (rfl)) ?_
      refine D.qw [3, 4, 5, 6, 7] rfl (by kernel_rfl) (Quiet.fieldAddr rfl fo_94_2) ?_
      refine D.qw [4, 5, 6, 7] rfl (by kernel_rfl) (Quiet.load rfl ag_3 (by (repeat' constructor)) (rfl)) ?_
      refine D.m rfl (by kernel_rfl) (OpSpec.call Tryz.func21 rfl rfl (vs := [_, _]) rfl (pick7_spec _ _ ha.h3 (by decide))) (by (repeat' constructor)) ?nx699
      refine D.qw [6, 7] rfl (by kernel_rfl) (Quiet.add rfl rfl (by omega)) ?_
      refine D.qw [7] rfl (by kernel_rfl) (Quiet.to (v' := .agg (acC (1 + pickZ a.2.2.1 31, wldZ)).toArray) (Quiet.build (us := [(0, _), (1, _)]) fl_104 ze_104 rfl rfl (by simp [isCell])) rfl) ?_
      refine D.q rfl (by kernel_rfl) (Quiet.fieldAddr rfl fo_131_3) ?_
      refine D.q rfl (by kernel_rfl) (Quiet.fieldAddr rfl fo_43_5) ?_
      refine D.q rfl (by kernel_rfl) (Quiet.load rfl ag_3 (by (repeat' constructor)) (rfl)) ?_
      refine D.q rfl (by kernel_rfl) (Quiet.add rfl rfl (by omega)) ?_
      refine D.h rfl (by kernel_rfl) (OpSpec.buildSlice (vs := [_]) el_34 ze_104 rfl rfl rfl rfl (by first | (simp [Value.cells]; done) | (intro v hv; simp only [List.mem_cons, List.not_mem_nil, or_false] at hv; (repeat (first | (subst hv; rfl) | (rcases hv with hv | hv; (subst hv; rfl)))))) (by decide)) (by (repeat' constructor)) ?nx707
      rintro v L' ⟨b19, rfl, rfl⟩
      refine D.ph ?_
      refine Phases.go [] (by (repeat' constructor)) ?_
      refine D.qw [13] rfl (by kernel_rfl) (Quiet.to (v' := .agg (ptC (⟨4, z.1, [], (.slice (some ⟨b19, 0, none⟩) 1 1), [(1 + pickZ a.2.2.1 31, wldZ)], 0, z.2.2.st.av + 1, 0, .slice none 0 0⟩ : Pt)).toArray) (Quiet.build (us := [(0, _), (1, _), (3, _), (5, _)]) fl_37 ze_37 rfl rfl (by simp [isCell])) rfl) ?_
      refine D.h rfl (by kernel_rfl) (OpSpec.storeA rfl rfl ?c710 sz_37 ?c713 ?c711 ?c712) (by (repeat' constructor)) ?nx714
      case c710 => exact pt_cells rfl rfl
      case c713 => rfl
      case c711 => simp [ptC]
      case c712 => exact nfz0 _ _
      rintro v L' rfl
      refine D.ph ?_
      refine Phases.go [] (by (repeat' constructor)) ?_
      refine D.qw [] rfl (by kernel_rfl) (Quiet.assign rfl) ?_
      refine D.ph (Phases.fin (G.then_n (G.ret ?_)))
      refine G.slMakeN 2 1 (b := b19) (xs := ([(1 + pickZ a.2.2.1 31, wldZ)] : List Ac).flatMap acC) (by (repeat' constructor)) rfl rfl ?_
      refine G.toRd (m := 1) (by (repeat' constructor)) ?_
      refine G.ptCast (b := b0) (l' := ptC (⟨4, z.1, [], (.slice (some ⟨b19, 0, none⟩) 1 1), [(1 + pickZ a.2.2.1 31, wldZ)], 0, z.2.2.st.av + 1, 0, .slice none 0 0⟩ : Pt)) (by (repeat' constructor)) rfl ?_
      refine G.rfFold (x := x) (τ := τ) (l := m) hm (by (repeat' constructor)) rfl rfl rfl rfl rfl ?_
      exact G.done2 rfl (.cellA rfl ag_37 (by (repeat' constructor)) (by simp [ptC]) rfl) (.tmp rfl) ⟨(⟨4, z.1, [], (.slice (some ⟨b19, 0, none⟩) 1 1), [(1 + pickZ a.2.2.1 31, wldZ)], 0, z.2.2.st.av + 1, 0, .slice none 0 0⟩ : Pt), _, rfl, fun _ => ⟨⟨by show (0 : Int) ≤ 4; decide, by show (4 : Int) ≤ 4; decide⟩, by show z.1.length ≤ 62; omega, by simp, .inr ⟨_, by omega, by omega, rfl⟩, .inl rfl, ⟨by show 0 ≤ z.2.2.st.av + 1; omega, by show z.2.2.st.av + 1 ≤ K + 1; omega⟩, rfl, (fun e => by cases e)⟩, ⟨rfl, rfl, by simp, by first | exact hpl62 | (simp; done) | (show z.1.length ≤ 62; omega)⟩, rfl⟩ (by (repeat' constructor)) (by (repeat' constructor))

end Go.Proofs.YtnnbelmpbmfdnaaGreatDoor

/- Own work, by program: law 07: acts made small: walked. -/

namespace Go.Proofs.YtnnbelmpbmfdnaaGreatDoor
open Go
theorem take_min (l : Bs) : l.take (min (l.length : Int) 100).toNat = l.take 100 := by
  by_cases h : l.length ≤ 100
  · rw [show (min (l.length : Int) 100).toNat = l.length by omega, List.take_length, List.take_of_length_le h]
  · rw [show (min (l.length : Int) 100).toNat = 100 by omega]
def smA (s : Ac0) : Ac0 := (s.1, (s.2.1, (s.2.2.1, (s.2.2.2.1.take 100, .slice none 0 0))))
theorem ac0_cells {a : Ac0} (h : isCell a.2.2.2.2 = true) : ∀ v ∈ ac0C a, isCell v = true := by
  intro v hv
  simp only [ac0C, List.mem_cons, List.not_mem_nil, or_false] at hv
  rcases hv with rfl | rfl | rfl | rfl | rfl
  case inr.inr.inr.inr => exact h
  all_goals rfl
structure Smalls (ss : List Ac0) : Prop where
  few : ss.length ≤ 6
  ok : ∀ s ∈ ss, IntsOk s ∧ s.2.2.2.1.length ≤ 100
theorem smalls_of {p : HP} {v : Value} {ss : List Ac0} (h : Acts0 p v ss) {i : Nat} (hi : i ≤ 6) : Smalls ((ss.take i).map smA) := by
  refine ⟨by rw [List.length_map, List.length_take]; omega, fun s hs => ?_⟩
  obtain ⟨y, hy, rfl⟩ := List.mem_map.1 hs
  obtain ⟨g1, g2, g3, -⟩ := h.ok y (List.mem_of_mem_take hy)
  exact ⟨⟨g1, g2, g3⟩, by show (y.2.2.2.1.take 100).length ≤ 100; rw [List.length_take]; omega⟩
theorem acts0_own {v : Value} {ss : List Ac0} (h : Smalls ss) : Acts0 (rdO 5 v ss.length (ss.flatMap ac0C)) v ss :=
  ⟨fun _ hp => hp, by have := h.few; omega, fun s hs => by obtain ⟨⟨g1, g2, g3⟩, g4⟩ := h.ok s hs; exact ⟨g1, g2, g3, by omega⟩⟩
set_option maxRecDepth 100000 in
theorem small7_spec (a : Ac0) (q : HP) (ss : List Ac0) (hs : Acts0 q a.2.2.2.2 ss) (hc : ∀ s ∈ ss, isCell s.2.2.2.2 = true) (hd : a.2.2.2.1.length ≤ 1048576) : Fn Tryz.prog 44 #[.agg (ac0C a).toArray] [q] fun v L => ∃ u us, v = .agg (ac0C (a.1, (a.2.1, (a.2.2.1, (a.2.2.2.1.take 100, u))))).toArray ∧ Smalls us ∧ L = [q, rdO 5 u us.length (us.flatMap ac0C)] := by
 refine Fn.intro (vs := [.agg (ac0C a).toArray]) Tryz.func44 rfl rfl ?_
 intro F W
 refine G.rdAny (p := q) hs.cells (by (repeat' constructor)) fun ab cb eab _ => ?_
 have hrd := hs.cells
 rw [eab] at hrd
 have hlen := hs.len
 have hca : isCell a.2.2.2.2 = true := by rw [eab]; rfl
 refine G.seq (G.region ?_)
 refine G.op (OpSpec.box rfl) (by (repeat' constructor)) rfl ?nx1
 rintro v L' ⟨ba, rfl, rfl⟩
 refine G.op (OpSpec.allocA ze_94) (by (repeat' constructor)) rfl ?nx3
 rintro v L' ⟨b0, rfl, rfl⟩
 refine G.nil ?_
 refine G.ptCast (b := ba) (l' := ac0C a) (by (repeat' constructor)) rfl ?_
 refine G.then_n (G.seq (G.region (G.q (Quiet.fieldAddr rfl fo_94_3) rfl ?_)))
 refine G.q (Quiet.load rfl ag_9 (by (repeat' constructor)) (rfl)) rfl ?_
 refine G.q (Quiet.fieldAddr rfl fo_94_3) rfl ?_
 refine G.q (Quiet.load rfl ag_9 (by (repeat' constructor)) (rfl)) rfl ?_
 refine G.q (Quiet.strlen rfl Tryz.underlying9 rfl) rfl (G.q (Quiet.min2 rfl rfl) rfl ?_)
 refine G.q (Quiet.to (v' := vstr (a.2.2.2.1.take 100)) (Quiet.strTo rfl rfl Tryz.underlying9 (by omega)) (by rw [take_min])) rfl ?_
 refine G.q (Quiet.fieldAddr rfl fo_94_3) rfl ?_
 refine G.op (OpSpec.store rfl rfl rfl sz_9 ?c13 ?c14) (by (repeat' constructor)) rfl ?nx15
 case c13 => simp [ac0C]
 case c14 => exact nfz0 _ _
 rintro v L' rfl
 refine G.nil ?_
 refine G.ptCast (b := ba) (l' := ac0C (a.1, (a.2.1, (a.2.2.1, (a.2.2.2.1.take 100, a.2.2.2.2))))) (by (repeat' constructor)) rfl ?_
 refine G.then_n (G.seq (G.region (G.q (Quiet.assign rfl) rfl (G.nil (G.then_n (G.seq (G.seq (G.add (slR_nil 94 5) (G.region (G.q (Quiet.assign rfl) rfl (G.nil (G.then_n (G.block ?_)))))))))))))
 refine G.loopK (ι := Nat × Value) (fun q E => (4, vint q.1) :: (3, q.2) :: E) (fun q => [slR 94 5 q.2 ((ss.take q.1).map smA).length (((ss.take q.1).map smA).flatMap ac0C)]) (fun q => q.1 ≤ ss.length ∧ q.1 ≤ 6 ∧ ∃ a c, q.2 = .slice a ((ss.take q.1).map smA).length c) (fun q => ss.length - q.1) (0, .slice none 0 0) (ts := [1, 2]) (.cons rfl (.cons rfl (.nil))) (⟨Nat.zero_le _, Nat.zero_le _, none, 0, rfl⟩) ⟨rfl, rfl, rfl, rfl, trivial⟩ (by (repeat' constructor)) ?_
 rintro ⟨i, u⟩ ⟨hi, hi6, au, cu, hu⟩
 dsimp only
 dsimp only at hi hi6 hu
 subst hu
 have hal : ((ss.take i).map smA).length = i := by rw [List.length_map, List.length_take]; omega
 refine G.seq (G.seq (G.region (G.q (Quiet.move rfl) rfl (G.q (Quiet.fieldAddr rfl fo_94_4) rfl ?_))))
 refine G.q (Quiet.as (v' := .slice ab ss.length cb) (by exact eab) (Quiet.load rfl ag_22 (by (repeat' constructor)) (rfl))) rfl ?_
 refine G.q (Quiet.slen rfl Tryz.underlying22 rfl) rfl (G.q (Quiet.int rfl rfl rfl) rfl (G.q (Quiet.move rfl) rfl ?_))
 refine G.dec (t := 19) rfl (fun h4_19 => ?_) (fun h4_19 => ?_)
 ·refine G.kDT (t := 18) rfl h4_19 (G.grun (t := 19) rfl rfl rfl (G.q (Quiet.move rfl) rfl (G.grun (t := 19) rfl rfl rfl (G.q (Quiet.int rfl rfl rfl) rfl (G.q (Quiet.pickT rfl rfl) rfl (G.nil (G.then_n ?_)))))))
  refine G.condD rfl (fun h22 => ?_) (fun h22 => ?_)
  ·have hi2 : i < ss.length := by omega
   refine G.rdShape (p := q) hrd (by (repeat' constructor)) (by omega) fun bb ob e1 => ?_
   subst e1
   obtain ⟨hk1, hk2, hk3, hk4⟩ := hs.ok _ (List.getElem_mem hi2)
   have hcs := hc _ (List.getElem_mem hi2)
   refine G.skip (G.then_n (G.seq (G.block (G.seq (G.region (G.q (Quiet.fieldAddr rfl fo_94_4) rfl ?_))))))
   refine G.q (Quiet.as (v' := .slice (some ⟨bb, ob, none⟩) ss.length cb) (by exact eab) (Quiet.load rfl ag_22 (by (repeat' constructor)) (rfl))) rfl ?_
   refine G.q (Quiet.move rfl) rfl ?_
   refine G.q (Quiet.indexAddr rfl rfl el_22 (by omega)) rfl ?_
   refine G.q (Quiet.loadRdA (sz := 5) (j := i * 5) (k := 5) (p := q) (vs := ac0C ss[i]) rfl ag_94 (by (repeat' constructor)) hrd (by simp) (by omega) (by omega) (flatMap_at (f := ac0C) (sz := 5) (fun _ _ => rfl) (by omega))) rfl ?_
   refine G.op (OpSpec.allocA ze_94) (by (repeat' constructor)) rfl ?nx30
   rintro v L' ⟨bk, rfl, rfl⟩
   refine G.op (OpSpec.storeA rfl rfl ?c32 sz_94 ?c35 ?c33 ?c34) (by (repeat' constructor)) rfl ?nx36
   case c32 => exact ac0_cells hcs
   case c35 => rfl
   case c33 => simp [ac0C]
   case c34 => exact nfz0 _ _
   rintro v L' rfl
   refine G.nil ?_
   refine G.ptCast (b := bk) (l' := ac0C ss[i]) (by (repeat' constructor)) rfl ?_
   refine G.then_n (G.seq (G.region (G.q (Quiet.fieldAddr rfl fo_94_3) rfl ?_)))
   refine G.q (Quiet.load rfl ag_9 (by (repeat' constructor)) (rfl)) rfl ?_
   refine G.q (Quiet.fieldAddr rfl fo_94_3) rfl ?_
   refine G.q (Quiet.load rfl ag_9 (by (repeat' constructor)) (rfl)) rfl ?_
   refine G.q (Quiet.strlen rfl Tryz.underlying9 rfl) rfl (G.q (Quiet.min2 rfl rfl) rfl ?_)
   refine G.q (Quiet.to (v' := vstr (ss[i].2.2.2.1.take 100)) (Quiet.strTo rfl rfl Tryz.underlying9 (by omega)) (by rw [take_min])) rfl ?_
   refine G.q (Quiet.fieldAddr rfl fo_94_3) rfl ?_
   refine G.op (OpSpec.store rfl rfl rfl sz_9 ?c45 ?c46) (by (repeat' constructor)) rfl ?nx47
   case c45 => simp [ac0C]
   case c46 => exact nfz0 _ _
   rintro v L' rfl
   refine G.nil ?_
   refine G.ptCast (b := bk) (l' := ac0C (ss[i].1, (ss[i].2.1, (ss[i].2.2.1, (ss[i].2.2.2.1.take 100, ss[i].2.2.2.2))))) (by (repeat' constructor)) rfl ?_
   refine G.then_n (G.seq (G.region (G.q (Quiet.fieldAddr rfl fo_94_4) rfl ?_)))
   refine G.op (OpSpec.store rfl rfl rfl sz_22 ?c49 ?c50) (by (repeat' constructor)) rfl ?nx51
   case c49 => simp [ac0C]
   case c50 => exact nfz0 _ _
   rintro v L' rfl
   refine G.nil ?_
   refine G.ptCast (b := bk) (l' := ac0C (smA ss[i])) (by (repeat' constructor)) rfl ?_
   refine G.then_n (G.region (G.q (Quiet.move rfl) rfl ?_))
   refine G.q (Quiet.loadAs (vs := ac0C (smA ss[i])) rfl ag_94 (by (repeat' constructor)) (by simp [ac0C]) rfl) rfl ?_
   refine G.op (OpSpec.buildSlice (vs := [_]) el_22 ze_94 rfl rfl rfl rfl (by first | (simp [Value.cells]; done) | (intro v hv; simp only [List.mem_cons, List.not_mem_nil, or_false] at hv; (repeat (first | (subst hv; rfl) | (rcases hv with hv | hv; (subst hv; rfl)))))) (by decide)) (by (repeat' constructor)) rfl ?nx54
   rintro v L' ⟨bo, rfl, rfl⟩
   refine G.op (OpSpec.append1 rfl rfl rfl el_22 ze_94 rfl rfl ?c56 ?c57 (Nat.le_refl _) ?c58 (by decide)) (by (repeat' constructor)) rfl ?nx59
   case c56 => first | exact ac0_cells rfl | (simp only [List.map_cons, List.map_nil, List.flatten_cons, List.flatten_nil, List.append_nil]; exact ac0_cells rfl)
   case c57 => rfl
   case c58 => first | omega | (simp; omega)
   rintro v L' ⟨⟨a9_3, c9_3, rfl⟩, rfl⟩
   refine G.q (Quiet.assign rfl) rfl (G.nil (G.blk_n (G.then_n (G.region (G.q (Quiet.move rfl) rfl ?_)))))
   refine G.q (Quiet.add rfl rfl (by omega)) rfl ?_
   refine G.q (Quiet.assign rfl) rfl (G.nil (G.then_n ?_))
   have hst : ((ss.take (i + 1)).map smA) = ((ss.take i).map smA) ++ [smA ss[i]] := by rw [List.take_succ_eq_append_getElem hi2, List.map_append]; rfl
   rw [show ((ss.take i).map smA).length + 1 = ((ss.take (i + 1)).map smA).length by rw [hst, List.length_append]; rfl]
   refine G.slCast (T := 94) (sz := 5) (m' := ((ss.take (i + 1)).map smA).length) (xs' := ((ss.take (i + 1)).map smA).flatMap ac0C) (by (repeat' constructor)) rfl (by rw [hst, List.flatMap_append]; simp; rfl) ?_
   exact G.roundK ((i + 1, .slice a9_3 ((ss.take (i + 1)).map smA).length c9_3)) (⟨by dsimp only; omega, by dsimp only; omega, _, _, rfl⟩) (by dsimp only; omega) ⟨rfl, rfl, rfl, rfl, trivial⟩ (by (repeat' constructor)) (by ((repeat (apply Have.cons; (repeat (first | exact Pick.here | apply Pick.there)))); apply Have.base; repeat' constructor))
  ·refine G.exit (G.then_e (G.then_e (G.blk_e (G.then_n (G.seq (G.region (G.q (Quiet.move rfl) rfl (G.q (Quiet.fieldAddr rfl fo_94_4) rfl ?_))))))))
   refine G.op (OpSpec.store rfl rfl rfl sz_22 ?c65 ?c66) (by (repeat' constructor)) rfl ?nx67
   case c65 => simp [ac0C]
   case c66 => exact nfz0 _ _
   rintro v L' rfl
   refine G.nil ?_
   refine G.ptCast (b := ba) (l' := ac0C (a.1, (a.2.1, (a.2.2.1, (a.2.2.2.1.take 100, (.slice au ((ss.take i).map smA).length cu)))))) (by (repeat' constructor)) rfl ?_
   refine G.then_n (G.seq (G.region ?_))
   refine G.q (Quiet.loadAs (vs := ac0C (a.1, (a.2.1, (a.2.2.1, (a.2.2.2.1.take 100, (.slice au ((ss.take i).map smA).length cu)))))) rfl ag_94 (by (repeat' constructor)) (by simp [ac0C]) rfl) rfl ?_
   refine G.op (OpSpec.storeA rfl rfl ?c69 sz_94 ?c72 ?c70 ?c71) (by (repeat' constructor)) rfl ?nx73
   case c69 => exact ac0_cells rfl
   case c72 => rfl
   case c70 => simp [ac0C]
   case c71 => exact nfz0 _ _
   rintro v L' rfl
   refine G.nil (G.then_n (G.ret ?_))
   refine G.toRd (T := 94) (sz := 5) (m := ((ss.take i).map smA).length) (by (repeat' constructor)) ?_
   refine G.ptCast (b := b0) (l' := ac0C (a.1, (a.2.1, (a.2.2.1, (a.2.2.2.1.take 100, (.slice au ((ss.take i).map smA).length cu)))))) (by (repeat' constructor)) rfl ?_
   exact G.done1 rfl (.cellA rfl ag_94 (by (repeat' constructor)) (by simp [ac0C]) rfl) ⟨_, _, rfl, smalls_of hs (i := i) hi6, rfl⟩ (by (repeat' constructor)) (by (repeat' constructor))
 ·refine G.kDF (t := 18) rfl h4_19 (G.gskip (t := 19) rfl rfl rfl rfl (G.gskip (t := 19) rfl rfl rfl rfl (G.q (Quiet.pickF rfl rfl) rfl (G.nil (G.then_n (G.condF rfl (G.exit (G.then_e (G.then_e (G.blk_e (G.then_n (G.seq (G.region (G.q (Quiet.move rfl) rfl (G.q (Quiet.fieldAddr rfl fo_94_4) rfl ?_)))))))))))))))
  refine G.op (OpSpec.store rfl rfl rfl sz_22 ?c77 ?c78) (by (repeat' constructor)) rfl ?nx79
  case c77 => simp [ac0C]
  case c78 => exact nfz0 _ _
  rintro v L' rfl
  refine G.nil ?_
  refine G.ptCast (b := ba) (l' := ac0C (a.1, (a.2.1, (a.2.2.1, (a.2.2.2.1.take 100, (.slice au ((ss.take i).map smA).length cu)))))) (by (repeat' constructor)) rfl ?_
  refine G.then_n (G.seq (G.region ?_))
  refine G.q (Quiet.loadAs (vs := ac0C (a.1, (a.2.1, (a.2.2.1, (a.2.2.2.1.take 100, (.slice au ((ss.take i).map smA).length cu)))))) rfl ag_94 (by (repeat' constructor)) (by simp [ac0C]) rfl) rfl ?_
  refine G.op (OpSpec.storeA rfl rfl ?c81 sz_94 ?c84 ?c82 ?c83) (by (repeat' constructor)) rfl ?nx85
  case c81 => exact ac0_cells rfl
  case c84 => rfl
  case c82 => simp [ac0C]
  case c83 => exact nfz0 _ _
  rintro v L' rfl
  refine G.nil (G.then_n (G.ret ?_))
  refine G.toRd (T := 94) (sz := 5) (m := ((ss.take i).map smA).length) (by (repeat' constructor)) ?_
  refine G.ptCast (b := b0) (l' := ac0C (a.1, (a.2.1, (a.2.2.1, (a.2.2.2.1.take 100, (.slice au ((ss.take i).map smA).length cu)))))) (by (repeat' constructor)) rfl ?_
  exact G.done1 rfl (.cellA rfl ag_94 (by (repeat' constructor)) (by simp [ac0C]) rfl) ⟨_, _, rfl, smalls_of hs (i := i) hi6, rfl⟩ (by (repeat' constructor)) (by (repeat' constructor))

theorem small7_ro (a : Ac0) (q : HP) (ss : List Ac0) (hs : Acts0 q a.2.2.2.2 ss) (hc : ∀ s ∈ ss, isCell s.2.2.2.2 = true) (hd : a.2.2.2.1.length ≤ 1048576) : Fn Tryz.prog 44 #[.agg (ac0C a).toArray] ([q] ++ []) fun v L => ∃ L', L = [q] ++ L' ∧ (∃ u us, v = .agg (ac0C (a.1, (a.2.1, (a.2.2.1, (a.2.2.2.1.take 100, u))))).toArray ∧ Smalls us ∧ L' = [rdO 5 u us.length (us.flatMap ac0C)]) :=
  (small7_spec a q ss hs hc hd).mono fun v L ⟨u, us, e1, e2, e3⟩ => ⟨_, e3, u, us, e1, e2, rfl⟩
end Go.Proofs.YtnnbelmpbmfdnaaGreatDoor

/- Own work, by program: the document's tree: entries, and what is told: walked. -/
namespace Go.Proofs.YtnnbelmpbmfdnaaGreatDoor
open Go
def applyZ0 (τ : Tr) (zx : Int) (x : Pt) (subs : List Pt) : Tr × (List Ev × Int) :=
  if x.kind = 5 then (if 0 < x.own then openS τ x.own x.num x.data else τ, ([], 0))
  else if x.kind = 6 then (dropS (partsZ τ zx (subs.filter isDel)).1 x.own, ((partsZ τ zx (subs.filter isDel)).2, 0))
  else if x.kind = 7 then ((partsZ τ zx subs).1, ((partsZ τ zx subs).2, 0))
  else if x.kind = 8 then (τ, ([], x.err))
  else ((partZ τ x zx).1, ((partZ τ x zx).2, 0))
theorem part_zx (τ : Tr) (x : Pt) (zx z : Int) : partZ (zxT τ z) x zx = (zxT (partZ τ x zx).1 z, (partZ τ x zx).2) := by
  unfold partZ createZ eraseZ
  have h : ∀ p, thereT (zxT τ z) p ↔ thereT τ p := fun p => Iff.rfl
  simp only [h]
  repeat' split
  all_goals first | rfl | contradiction
theorem parts_zx (τ : Tr) (zx z : Int) (l : List Pt) : partsZ (zxT τ z) zx l = (zxT (partsZ τ zx l).1 z, (partsZ τ zx l).2) := by
  have key : ∀ (l : List Pt) (r : Tr × List Ev), l.foldl (fun r x => ((partZ r.1 x zx).1, r.2 ++ (partZ r.1 x zx).2)) (zxT r.1 z, r.2) = (zxT (l.foldl (fun r x => ((partZ r.1 x zx).1, r.2 ++ (partZ r.1 x zx).2)) r).1 z, (l.foldl (fun r x => ((partZ r.1 x zx).1, r.2 ++ (partZ r.1 x zx).2)) r).2) := by
    intro l
    induction l with
    | nil => intro r; rfl
    | cons x l ih =>
      intro r
      rw [List.foldl_cons, List.foldl_cons]
      dsimp only
      rw [part_zx]
      exact ih ((partZ r.1 x zx).1, r.2 ++ (partZ r.1 x zx).2)
  exact key l (τ, [])
theorem apply_zx (τ : Tr) (zx : Int) (x : Pt) (subs : List Pt) : applyZ τ zx x subs = (zxT (applyZ0 τ zx x subs).1 zx, (applyZ0 τ zx x subs).2) := by
  unfold applyZ applyZ0
  dsimp only
  rw [part_zx, parts_zx, parts_zx]
  repeat' split
  all_goals rfl
set_option maxRecDepth 100000 in
theorem rapply_spec (x : Nat) (τ : Tr) (zx ses xid : Int) (y : Pt) (subs : List Pt) (p : HP) (hx : TxA p y subs) (N : Nat) (ho : τ.Ok N) (hN : N + subs.length + 1 ≤ 1073741824) : Fn Tryz.prog 26 #[vptr x, .agg ([vint zx, vint ses, vint xid] ++ ptC y).toArray] [refR x τ, p] fun v L => ∃ u e, v = .tuple #[u, vint e] ∧ e = (applyZ τ zx y subs).2.2 ∧ (∃ a c, u = .slice a (applyZ τ zx y subs).2.1.length c) ∧ L = [refR x (applyZ τ zx y subs).1, p, slR 75 3 u (applyZ τ zx y subs).2.1.length ((applyZ τ zx y subs).2.1.flatMap evC)] := by
 refine Fn.intro (vs := [vptr x, .agg ([vint zx, vint ses, vint xid] ++ ptC y).toArray]) Tryz.func26 rfl rfl ?_
 intro F W
 refine G.rdAny (p := p) hx.rd (by (repeat' constructor)) fun asb csb esub _ => ?_
 have hrd := hx.rd
 rw [esub] at hrd
 have hfs := hx.few
 have hosf := ho.sfew
 refine G.seq (G.region ?_)
 refine G.op (OpSpec.box rfl) (by (repeat' constructor)) rfl ?nx1
 rintro v L' ⟨be, rfl, rfl⟩
 refine G.q (Quiet.assign rfl) rfl (G.q (Quiet.assign rfl) rfl (G.nil ?_))
 refine G.ptCast (b := be) (l' := ([vint zx, vint ses, vint xid] ++ ptC y)) (by (repeat' constructor)) rfl ?_
 refine G.then_n (G.seq (G.region (G.q (Quiet.fieldAddr rfl fo_39_3) rfl ?_)))
 refine G.q (Quiet.loadAs (vs := ptC y) rfl ag_37 (by (repeat' constructor)) (by simp [ptC]) rfl) rfl ?_
 refine G.op (OpSpec.allocA ze_37) (by (repeat' constructor)) rfl ?nx7
 rintro v L' ⟨bx, rfl, rfl⟩
 refine G.op (OpSpec.storeA rfl rfl ?c9 sz_37 ?c12 ?c10 ?c11) (by (repeat' constructor)) rfl ?nx13
 case c9 => exact hx.own.all
 case c12 => rfl
 case c10 => simp [ptC]
 case c11 => exact nfz0 _ _
 rintro v L' rfl
 refine G.nil ?_
 refine G.ptCast (b := bx) (l' := ptC y) (by (repeat' constructor)) rfl ?_
 refine G.then_n (G.seq (G.region (G.q (Quiet.assign rfl) rfl (G.nil (G.then_n (G.seq (G.region (G.q (Quiet.assign rfl) rfl (G.nil (G.then_n (G.seq (G.seq (G.region (G.q (Quiet.fieldAddr rfl fo_37_0) rfl ?_))))))))))))))
 refine G.q (Quiet.load rfl ag_3 (by (repeat' constructor)) (rfl)) rfl ?_
 refine G.nil (G.then_n (G.block (G.seq (G.region (G.q (Quiet.int rfl rfl rfl) rfl (G.q (Quiet.assign rfl) rfl (G.nil (G.then_n ?_))))))))
 refine G.condD rfl (fun h20 => ?_) (fun h20 => ?_)
 ·refine G.seq (G.region (G.q (Quiet.fieldAddr rfl fo_37_4) rfl ?_))
  refine G.q (Quiet.load rfl ag_3 (by (repeat' constructor)) (rfl)) rfl ?_
  refine G.q (Quiet.int rfl rfl rfl) rfl (G.nil (G.then_n ?_))
  refine G.condD rfl (fun h24 => ?_) (fun h24 => ?_)
  ·refine G.region (G.q (Quiet.move rfl) rfl (G.q (Quiet.fieldAddr rfl fo_37_4) rfl ?_))
   refine G.q (Quiet.load rfl ag_3 (by (repeat' constructor)) (rfl)) rfl ?_
   refine G.q (Quiet.fieldAddr rfl fo_37_5) rfl ?_
   refine G.q (Quiet.load rfl ag_3 (by (repeat' constructor)) (rfl)) rfl ?_
   refine G.q (Quiet.fieldAddr rfl fo_37_2) rfl ?_
   refine G.q (Quiet.load rfl ag_9 (by (repeat' constructor)) (rfl)) rfl ?_
   refine G.q (Quiet.to (v' := .agg (rsC (y.own, (y.num, y.data))).toArray) (Quiet.build (us := [(0, _), (1, _), (2, _)]) fl_134 ze_134 rfl rfl (by simp [isCell])) rfl) rfl ?_
   refine G.op (OpSpec.call Tryz.func59 rfl rfl (vs := [_, _]) rfl (ropen_spec x τ y.own y.num y.data N ho (by omega))) (by (repeat' constructor)) rfl ?nx30
   rintro v L' ⟨rfl, rfl⟩
   refine G.nil (G.blk_n (G.then_n (G.seq (G.add (slR_nil 75 3) ?_))))
   have hz : (applyZ τ zx y subs) = (zxT (openS τ y.own y.num y.data) zx, ([], 0)) := by rw [apply_zx]; unfold applyZ0; rw [if_pos h20, if_pos (show 0 < y.own by omega)]
   refine G.rfOpen (x := x) (τ := (openS τ y.own y.num y.data)) (by (repeat' constructor)) fun an cn as1 cs l hl => ?_
   refine G.region (G.q (Quiet.move rfl) rfl (G.q (Quiet.fieldAddr rfl fo_39_0) rfl ?_))
   refine G.q (Quiet.load rfl ag_3 (by (repeat' constructor)) (rfl)) rfl ?_
   refine G.q (Quiet.nilp rfl) rfl (G.q (Quiet.fieldAddr rfl fo_101_2) rfl ?_)
   refine G.op (OpSpec.store rfl rfl rfl sz_3 ?c37 ?c38) (by (repeat' constructor)) rfl ?nx39
   case c37 => first | decide | (simp; omega) | simp
   case c38 => exact nfz0 _ _
   rintro v L' rfl
   refine G.nil ?_
   refine G.rfFold (x := x) (τ := (zxT (openS τ y.own y.num y.data) zx)) (l := l) hl (by (repeat' constructor)) rfl rfl rfl rfl rfl ?_
   refine G.then_n (G.seq (G.region (G.q (Quiet.move rfl) rfl (G.q (Quiet.move rfl) rfl (G.q (Quiet.assign rfl) rfl (G.q (Quiet.assign rfl) rfl (G.nil (G.then_n (G.ret ?_)))))))))
   refine G.rfCast (x := x) (τ' := (applyZ τ zx y subs).1) (by (repeat' constructor)) (by rw [hz]) ?_
   refine G.slCast (T := 75) (sz := 3) (m' := (applyZ τ zx y subs).2.1.length) (xs' := (applyZ τ zx y subs).2.1.flatMap evC) (by (repeat' constructor)) (by (rw [hz]; try rfl)) (by (rw [hz]; try rfl)) ?_
   exact G.done (l := [.tmp 4, .tmp 5]) rfl rfl ⟨_, _, rfl, by rw [hz], ⟨_, _, by (rw [hz]; try rfl)⟩, rfl⟩ (by (repeat' constructor)) (by (repeat' constructor))
  ·refine G.skip (G.blk_n (G.then_n (G.seq (G.add (slR_nil 75 3) ?_))))
   have hz : (applyZ τ zx y subs) = (zxT (τ) zx, ([], 0)) := by rw [apply_zx]; unfold applyZ0; rw [if_pos h20, if_neg (show ¬ 0 < y.own by omega)]
   refine G.rfOpen (x := x) (τ := (τ)) (by (repeat' constructor)) fun an cn as1 cs l hl => ?_
   refine G.region (G.q (Quiet.move rfl) rfl (G.q (Quiet.fieldAddr rfl fo_39_0) rfl ?_))
   refine G.q (Quiet.load rfl ag_3 (by (repeat' constructor)) (rfl)) rfl ?_
   refine G.q (Quiet.nilp rfl) rfl (G.q (Quiet.fieldAddr rfl fo_101_2) rfl ?_)
   refine G.op (OpSpec.store rfl rfl rfl sz_3 ?c45 ?c46) (by (repeat' constructor)) rfl ?nx47
   case c45 => first | decide | (simp; omega) | simp
   case c46 => exact nfz0 _ _
   rintro v L' rfl
   refine G.nil ?_
   refine G.rfFold (x := x) (τ := (zxT (τ) zx)) (l := l) hl (by (repeat' constructor)) rfl rfl rfl rfl rfl ?_
   refine G.then_n (G.seq (G.region (G.q (Quiet.move rfl) rfl (G.q (Quiet.move rfl) rfl (G.q (Quiet.assign rfl) rfl (G.q (Quiet.assign rfl) rfl (G.nil (G.then_n (G.ret ?_)))))))))
   refine G.rfCast (x := x) (τ' := (applyZ τ zx y subs).1) (by (repeat' constructor)) (by rw [hz]) ?_
   refine G.slCast (T := 75) (sz := 3) (m' := (applyZ τ zx y subs).2.1.length) (xs' := (applyZ τ zx y subs).2.1.flatMap evC) (by (repeat' constructor)) (by (rw [hz]; try rfl)) (by (rw [hz]; try rfl)) ?_
   exact G.done (l := [.tmp 4, .tmp 5]) rfl rfl ⟨_, _, rfl, by rw [hz], ⟨_, _, by (rw [hz]; try rfl)⟩, rfl⟩ (by (repeat' constructor)) (by (repeat' constructor))
 ·refine G.seq (G.seq (G.region ?_))
  rcases Decidable.em (y.kind = 6) with hk6 | hk6
  ·refine G.q (Quiet.as (v' := .bool true) (by exact congrArg Value.bool (decide_eq_true hk6)) (Quiet.int rfl rfl rfl)) rfl ?_
   refine G.q (Quiet.assign rfl) rfl (G.nil (G.then_n (G.condT rfl (G.skip (G.then_n (G.condT rfl (G.seq (G.seq (G.region (G.q (Quiet.assign rfl) rfl (G.nil (G.then_n (G.block (G.add (slR_nil 75 3) ?_))))))))))))))
   refine G.rfCast (x := x) (τ' := (partsZ τ zx ((subs.take 0).filter isDel)).1) (by (repeat' constructor)) (by rw [List.take_zero]; rfl) ?_
   refine G.slCast (T := 75) (sz := 3) (m' := (partsZ τ zx ((subs.take 0).filter isDel)).2.length) (xs' := (partsZ τ zx ((subs.take 0).filter isDel)).2.flatMap evC) (by (repeat' constructor)) (by rw [List.take_zero]; rfl) (by rw [List.take_zero]; rfl) ?_
   refine G.loopK (ι := Nat × Value) (fun q E => (9, vint q.1) :: (7, q.2) :: E) (fun q => [refR x (partsZ τ zx ((subs.take q.1).filter isDel)).1, slR 75 3 q.2 (partsZ τ zx ((subs.take q.1).filter isDel)).2.length ((partsZ τ zx ((subs.take q.1).filter isDel)).2.flatMap evC)]) (fun q => q.1 ≤ subs.length ∧ ∃ a c, q.2 = .slice a (partsZ τ zx ((subs.take q.1).filter isDel)).2.length c) (fun q => subs.length - q.1) (0, .slice none 0 0) (ts := [0, 3, 4, 5, 6, 8]) (.cons rfl (.cons rfl (.cons rfl (.cons rfl (.cons rfl (.cons rfl (.nil))))))) (⟨Nat.zero_le _, none, 0, by rw [List.take_zero]; rfl⟩) ⟨rfl, rfl, rfl, rfl, rfl, rfl, rfl, rfl, trivial⟩ (by (repeat' constructor)) ?_
   rintro ⟨i, u⟩ ⟨hi, au, cu, hu⟩
   dsimp only
   dsimp only at hi hu
   subst hu
   have hev := parts_ev τ zx ((subs.take i).filter isDel)
   have hfl := List.length_filter_le isDel (subs.take i)
   rw [List.length_take] at hfl
   have hok : (partsZ τ zx ((subs.take i).filter isDel)).1.Ok (N + subs.length) := (ho.parts zx _ (fun w hw => (hx.each w (List.mem_of_mem_take (List.mem_filter.1 hw).1)).few)).more (by omega)
   refine G.seq (G.seq (G.region (G.q (Quiet.move rfl) rfl (G.q (Quiet.fieldAddr rfl fo_37_7) rfl ?_))))
   refine G.q (Quiet.as (v' := .slice asb subs.length csb) (by exact esub) (Quiet.load rfl ag_35 (by (repeat' constructor)) (rfl))) rfl ?_
   refine G.q (Quiet.slen rfl Tryz.underlying35 rfl) rfl (G.q (Quiet.int rfl rfl rfl) rfl (G.nil (G.then_n ?_)))
   refine G.condD rfl (fun h41 => ?_) (fun h41 => ?_)
   ·have hi2 : i < subs.length := by omega
    refine G.rdShape (p := p) hrd (by (repeat' constructor)) (by omega) fun bs os e1 => ?_
    subst e1
    have hys := hx.each _ (List.getElem_mem hi2)
    refine G.skip (G.then_n (G.seq (G.block (G.seq (G.region (G.q (Quiet.fieldAddr rfl fo_37_0) rfl ?_))))))
    refine G.q (Quiet.load rfl ag_3 (by (repeat' constructor)) (rfl)) rfl ?_
    refine G.q (Quiet.as (v' := .bool false) (by exact congrArg Value.bool (decide_eq_false (by omega))) (Quiet.int rfl rfl rfl)) rfl ?_
    refine G.q (Quiet.move rfl) rfl (G.grun (t := 47) rfl rfl rfl (G.q (Quiet.fieldAddr rfl fo_37_7) rfl (G.grun (t := 47) rfl rfl rfl ?_)))
    refine G.q (Quiet.as (v' := .slice (some ⟨bs, os, none⟩) subs.length csb) (by exact esub) (Quiet.load rfl ag_35 (by (repeat' constructor)) (rfl))) rfl ?_
    refine G.grun (t := 47) rfl rfl rfl (G.q (Quiet.move rfl) rfl (G.grun (t := 47) rfl rfl rfl ?_))
    refine G.q (Quiet.indexAddr rfl rfl el_35 (by omega)) rfl ?_
    refine G.grun (t := 47) rfl rfl rfl (G.q (Quiet.fieldAddr rfl fo_37_0) rfl (G.grun (t := 47) rfl rfl rfl ?_))
    refine G.q (Quiet.loadRd (sz := 8) (j := i * 8 + 0) (p := p) rfl ag_3 (by (repeat' constructor)) hrd (by omega) ((flatMap_cell (f := ptC) (sz := 8) (l := subs) (i := i) (k := 0) (fun _ _ => rfl) (by omega) (by decide)).trans rfl)) rfl ?_
    refine G.grun (t := 47) rfl rfl rfl (G.q (Quiet.int rfl rfl rfl) rfl (G.q (Quiet.pickF rfl rfl) rfl (G.nil (G.then_n ?_))))
    refine G.condD rfl (fun h55 => ?_) (fun h55 => ?_)
    ·refine G.seq ?_
     refine G.draw [8] [[0, 1, 2, 3, 4, 5, 6, 7, 8], [9]] mixed (by kernel_rfl) ?_
     refine Phases.go [] (by (repeat' constructor)) ?_
     refine D.qw [8] rfl (by kernel_rfl) (Quiet.move rfl) ?_
     refine D.qw [2, 4, 5, 8] rfl (by kernel_rfl) (Quiet.fieldAddr rfl fo_37_7) ?_
     refine D.qw [4, 5, 8] rfl (by kernel_rfl) (Quiet.as (v' := .slice (some ⟨bs, os, none⟩) subs.length csb) (by exact esub) (Quiet.load rfl ag_35 (by (repeat' constructor)) (rfl))) ?_
     refine D.qw [4, 5, 8] rfl (by kernel_rfl) (Quiet.move rfl) ?_
     refine D.qw [5, 8] rfl (by kernel_rfl) (Quiet.indexAddr rfl rfl el_35 (by omega)) ?_
     refine D.qw [8] rfl (by kernel_rfl) (Quiet.loadRdA (sz := 8) (j := i * 8) (k := 8) (p := p) (vs := ptC subs[i]) rfl ag_37 (by (repeat' constructor)) hrd (by simp) (by omega) (by omega) (flatMap_at (f := ptC) (sz := 8) (fun _ _ => rfl) (by omega))) ?_
     refine D.qw [7, 8] rfl (by kernel_rfl) (Quiet.fieldAddr rfl fo_39_0) ?_
     refine D.qw [8] rfl (by kernel_rfl) (Quiet.load rfl ag_3 (by (repeat' constructor)) (rfl)) ?_
     refine D.h rfl (by kernel_rfl) (OpSpec.call Tryz.func60 rfl rfl (vs := [_, _, _]) rfl (rpart_spec x (partsZ τ zx ((subs.take i).filter isDel)).1 subs[i] zx p hys (N + subs.length) hok (by omega))) (by (repeat' constructor)) ?nx73
     rintro v L' ⟨a15, c15, rfl, rfl⟩
     refine D.ph ?_
     refine Phases.go [] (by (repeat' constructor)) ?_
     refine D.qw [] rfl (by kernel_rfl) (Quiet.assign rfl) ?_
     refine D.ph (Phases.fin (G.then_n (G.region (G.q (Quiet.move rfl) rfl (G.q (Quiet.move rfl) rfl ?_)))))
     refine G.op (OpSpec.append (n := (partsZ τ zx ((subs.take i).filter isDel)).2.length) (m := (partZ (partsZ τ zx ((subs.take i).filter isDel)).1 subs[i] zx).2.length) (ys := (partZ (partsZ τ zx ((subs.take i).filter isDel)).1 subs[i] zx).2.flatMap evC) (p := slR 75 3 (.slice a15 (partZ (partsZ τ zx ((subs.take i).filter isDel)).1 subs[i] zx).2.length c15) (partZ (partsZ τ zx ((subs.take i).filter isDel)).1 subs[i] zx).2.length ((partZ (partsZ τ zx ((subs.take i).filter isDel)).1 subs[i] zx).2.flatMap evC)) rfl rfl rfl el_30 (.inl ⟨_, Tryz.underlying30⟩) ze_75 rfl rfl ?hc76 ?hr77 ?hb78 (by decide)) (by (repeat' constructor)) rfl ?nx79
     case hc76 => exact evC_cells _
     case hr77 => exact fun h hp => slR_rd hp
     case hb78 => have := part_ev (partsZ τ zx ((subs.take i).filter isDel)).1 subs[i] zx; omega
     rintro v L' ⟨⟨a16_2, c16_2, rfl⟩, rfl⟩
     refine G.q (Quiet.assign rfl) rfl (G.nil (G.blk_n (G.then_n (G.region (G.q (Quiet.move rfl) rfl ?_)))))
     refine G.q (Quiet.add rfl rfl (by omega)) rfl ?_
     refine G.q (Quiet.assign rfl) rfl (G.nil (G.then_n ?_))
     have hst := filter_take_yes (f := isDel) hi2 (by unfold isDel; rw [decide_eq_true h55])
     refine G.rfCast (x := x) (τ' := (partsZ τ zx ((subs.take (i + 1)).filter isDel)).1) (by (repeat' constructor)) (by rw [hst, parts_snoc]) ?_
     refine G.slCast (T := 75) (sz := 3) (m' := (partsZ τ zx ((subs.take (i + 1)).filter isDel)).2.length) (xs' := (partsZ τ zx ((subs.take (i + 1)).filter isDel)).2.flatMap evC) (by (repeat' constructor)) (by rw [hst, parts_snoc]; simp) (by rw [hst, parts_snoc]; simp) ?_
     exact G.roundK ((i + 1, .slice a16_2 ((partsZ τ zx ((subs.take i).filter isDel)).2.length + (partZ (partsZ τ zx ((subs.take i).filter isDel)).1 subs[i] zx).2.length) c16_2)) (⟨by dsimp only; omega, _, _, by rw [hst, parts_snoc, List.length_append]⟩) (by dsimp only; omega) ⟨rfl, rfl, rfl, rfl, rfl, rfl, rfl, rfl, trivial⟩ (by (repeat' constructor)) (by ((repeat (apply Have.cons; (repeat (first | exact Pick.here | apply Pick.there)))); apply Have.base; repeat' constructor))
    ·refine G.skip (G.blk_n (G.then_n (G.region (G.q (Quiet.move rfl) rfl ?_))))
     refine G.q (Quiet.add rfl rfl (by omega)) rfl ?_
     refine G.q (Quiet.assign rfl) rfl (G.nil (G.then_n ?_))
     have hst := filter_take_no (f := isDel) hi2 (by unfold isDel; rw [decide_eq_false h55])
     refine G.rfCast (x := x) (τ' := (partsZ τ zx ((subs.take (i + 1)).filter isDel)).1) (by (repeat' constructor)) (by rw [hst]) ?_
     refine G.slCast (T := 75) (sz := 3) (m' := (partsZ τ zx ((subs.take (i + 1)).filter isDel)).2.length) (xs' := (partsZ τ zx ((subs.take (i + 1)).filter isDel)).2.flatMap evC) (by (repeat' constructor)) (by rw [hst]) (by rw [hst]) ?_
     exact G.roundK ((i + 1, .slice au (partsZ τ zx ((subs.take i).filter isDel)).2.length cu)) (⟨by dsimp only; omega, _, _, by rw [hst]⟩) (by dsimp only; omega) ⟨rfl, rfl, rfl, rfl, rfl, rfl, rfl, rfl, trivial⟩ (by (repeat' constructor)) (by ((repeat (apply Have.cons; (repeat (first | exact Pick.here | apply Pick.there)))); apply Have.base; repeat' constructor))
   ·have hii : i = subs.length := by omega
    rw [hii, List.take_length]
    refine G.exit (G.then_e (G.then_e (G.blk_e (G.then_n (G.seq (G.region (G.q (Quiet.fieldAddr rfl fo_37_0) rfl ?_)))))))
    refine G.q (Quiet.load rfl ag_3 (by (repeat' constructor)) (rfl)) rfl ?_
    refine G.q (Quiet.as (v' := .bool true) (by exact congrArg Value.bool (decide_eq_true hk6)) (Quiet.int rfl rfl rfl)) rfl ?_
    refine G.nil (G.then_n (G.condT rfl (G.region (G.q (Quiet.move rfl) rfl (G.q (Quiet.fieldAddr rfl fo_37_4) rfl ?_)))))
    refine G.q (Quiet.load rfl ag_3 (by (repeat' constructor)) (rfl)) rfl ?_
    refine G.op (OpSpec.call Tryz.func61 rfl rfl (vs := [_, _]) rfl (rdrop_spec x (partsZ τ zx (subs.filter isDel)).1 y.own (by have := (ho.parts zx (subs.filter isDel) (fun w hw => (hx.each w (List.mem_filter.1 hw).1).few)).sfew; have := List.length_filter_le isDel subs; omega))) (by (repeat' constructor)) rfl ?nx91
    rintro v L' ⟨rfl, rfl⟩
    refine G.nil (G.blk_n (G.then_n (G.seq ?_)))
    have hz : (applyZ τ zx y subs) = (zxT (dropS (partsZ τ zx (subs.filter isDel)).1 y.own) zx, ((partsZ τ zx (subs.filter isDel)).2, 0)) := by rw [apply_zx]; unfold applyZ0; rw [if_neg h20, if_pos hk6]
    refine G.rfOpen (x := x) (τ := (dropS (partsZ τ zx (subs.filter isDel)).1 y.own)) (by (repeat' constructor)) fun an cn as1 cs l hl => ?_
    refine G.region (G.q (Quiet.move rfl) rfl (G.q (Quiet.fieldAddr rfl fo_39_0) rfl ?_))
    refine G.q (Quiet.load rfl ag_3 (by (repeat' constructor)) (rfl)) rfl ?_
    refine G.q (Quiet.nilp rfl) rfl (G.q (Quiet.fieldAddr rfl fo_101_2) rfl ?_)
    refine G.op (OpSpec.store rfl rfl rfl sz_3 ?c98 ?c99) (by (repeat' constructor)) rfl ?nx100
    case c98 => first | decide | (simp; omega) | simp
    case c99 => exact nfz0 _ _
    rintro v L' rfl
    refine G.nil ?_
    refine G.rfFold (x := x) (τ := (zxT (dropS (partsZ τ zx (subs.filter isDel)).1 y.own) zx)) (l := l) hl (by (repeat' constructor)) rfl rfl rfl rfl rfl ?_
    refine G.then_n (G.seq (G.region (G.q (Quiet.move rfl) rfl (G.q (Quiet.move rfl) rfl (G.q (Quiet.assign rfl) rfl (G.q (Quiet.assign rfl) rfl (G.nil (G.then_n (G.ret ?_)))))))))
    refine G.rfCast (x := x) (τ' := (applyZ τ zx y subs).1) (by (repeat' constructor)) (by rw [hz]) ?_
    refine G.slCast (T := 75) (sz := 3) (m' := (applyZ τ zx y subs).2.1.length) (xs' := (applyZ τ zx y subs).2.1.flatMap evC) (by (repeat' constructor)) (by (rw [hz]; try rfl)) (by (rw [hz]; try rfl)) ?_
    exact G.done (l := [.tmp 4, .tmp 5]) rfl rfl ⟨_, _, rfl, by rw [hz], ⟨_, _, by (rw [hz]; try rfl)⟩, rfl⟩ (by (repeat' constructor)) (by (repeat' constructor))
  ·refine G.q (Quiet.as (v' := .bool false) (by exact congrArg Value.bool (decide_eq_false hk6)) (Quiet.int rfl rfl rfl)) rfl ?_
   refine G.q (Quiet.assign rfl) rfl (G.nil (G.then_n (G.condF rfl (G.region ?_))))
   rcases Decidable.em (y.kind = 7) with hk7 | hk7
   ·refine G.q (Quiet.as (v' := .bool true) (by exact congrArg Value.bool (decide_eq_true hk7)) (Quiet.int rfl rfl rfl)) rfl ?_
    refine G.q (Quiet.assign rfl) rfl (G.nil (G.then_n (G.condT rfl (G.seq (G.seq (G.region (G.q (Quiet.assign rfl) rfl (G.nil (G.then_n (G.block (G.add (slR_nil 75 3) ?_)))))))))))
    refine G.rfCast (x := x) (τ' := (partsZ τ zx (subs.take 0)).1) (by (repeat' constructor)) (by rw [List.take_zero]; rfl) ?_
    refine G.slCast (T := 75) (sz := 3) (m' := (partsZ τ zx (subs.take 0)).2.length) (xs' := (partsZ τ zx (subs.take 0)).2.flatMap evC) (by (repeat' constructor)) (by rw [List.take_zero]; rfl) (by rw [List.take_zero]; rfl) ?_
    refine G.loopK (ι := Nat × Value) (fun q E => (9, vint q.1) :: (7, q.2) :: E) (fun q => [refR x (partsZ τ zx (subs.take q.1)).1, slR 75 3 q.2 (partsZ τ zx (subs.take q.1)).2.length ((partsZ τ zx (subs.take q.1)).2.flatMap evC)]) (fun q => q.1 ≤ subs.length ∧ ∃ a c, q.2 = .slice a (partsZ τ zx (subs.take q.1)).2.length c) (fun q => subs.length - q.1) (0, .slice none 0 0) (ts := [0, 3, 4, 5, 6, 8]) (.cons rfl (.cons rfl (.cons rfl (.cons rfl (.cons rfl (.cons rfl (.nil))))))) (⟨Nat.zero_le _, none, 0, by rw [List.take_zero]; rfl⟩) ⟨rfl, rfl, rfl, rfl, rfl, rfl, rfl, rfl, trivial⟩ (by (repeat' constructor)) ?_
    rintro ⟨i, u⟩ ⟨hi, au, cu, hu⟩
    dsimp only
    dsimp only at hi hu
    subst hu
    have hev := parts_ev τ zx (subs.take i)
    have hfl := List.length_take_le i subs
    have hok : (partsZ τ zx (subs.take i)).1.Ok (N + subs.length) := (ho.parts zx _ (fun w hw => (hx.each w (List.mem_of_mem_take hw)).few)).more (by rw [List.length_take]; omega)
    refine G.seq (G.seq (G.region (G.q (Quiet.move rfl) rfl (G.q (Quiet.fieldAddr rfl fo_37_7) rfl ?_))))
    refine G.q (Quiet.as (v' := .slice asb subs.length csb) (by exact esub) (Quiet.load rfl ag_35 (by (repeat' constructor)) (rfl))) rfl ?_
    refine G.q (Quiet.slen rfl Tryz.underlying35 rfl) rfl (G.q (Quiet.int rfl rfl rfl) rfl (G.nil (G.then_n ?_)))
    refine G.condD rfl (fun h41 => ?_) (fun h41 => ?_)
    ·have hi2 : i < subs.length := by omega
     refine G.rdShape (p := p) hrd (by (repeat' constructor)) (by omega) fun bs os e1 => ?_
     subst e1
     have hys := hx.each _ (List.getElem_mem hi2)
     refine G.skip (G.then_n (G.seq (G.block (G.seq (G.region (G.q (Quiet.fieldAddr rfl fo_37_0) rfl ?_))))))
     refine G.q (Quiet.load rfl ag_3 (by (repeat' constructor)) (rfl)) rfl ?_
     refine G.q (Quiet.as (v' := .bool true) (by exact congrArg Value.bool (decide_eq_true hk7)) (Quiet.int rfl rfl rfl)) rfl ?_
     refine G.q (Quiet.move rfl) rfl (G.gskip (t := 47) rfl rfl rfl rfl (G.gskip (t := 47) rfl rfl rfl rfl (G.gskip (t := 47) rfl rfl rfl rfl (G.gskip (t := 47) rfl rfl rfl rfl (G.gskip (t := 47) rfl rfl rfl rfl (G.gskip (t := 47) rfl rfl rfl rfl (G.gskip (t := 47) rfl rfl rfl rfl (G.q (Quiet.pickT rfl rfl) rfl (G.nil (G.then_n (G.condT rfl (G.seq ?_))))))))))))
     refine G.draw [8] [[0, 1, 2, 3, 4, 5, 6, 7, 8], [9]] mixed (by kernel_rfl) ?_
     refine Phases.go [] (by (repeat' constructor)) ?_
     refine D.qw [8] rfl (by kernel_rfl) (Quiet.move rfl) ?_
     refine D.qw [2, 4, 5, 8] rfl (by kernel_rfl) (Quiet.fieldAddr rfl fo_37_7) ?_
     refine D.qw [4, 5, 8] rfl (by kernel_rfl) (Quiet.as (v' := .slice (some ⟨bs, os, none⟩) subs.length csb) (by exact esub) (Quiet.load rfl ag_35 (by (repeat' constructor)) (rfl))) ?_
     refine D.qw [4, 5, 8] rfl (by kernel_rfl) (Quiet.move rfl) ?_
     refine D.qw [5, 8] rfl (by kernel_rfl) (Quiet.indexAddr rfl rfl el_35 (by omega)) ?_
     refine D.qw [8] rfl (by kernel_rfl) (Quiet.loadRdA (sz := 8) (j := i * 8) (k := 8) (p := p) (vs := ptC subs[i]) rfl ag_37 (by (repeat' constructor)) hrd (by simp) (by omega) (by omega) (flatMap_at (f := ptC) (sz := 8) (fun _ _ => rfl) (by omega))) ?_
     refine D.qw [7, 8] rfl (by kernel_rfl) (Quiet.fieldAddr rfl fo_39_0) ?_
     refine D.qw [8] rfl (by kernel_rfl) (Quiet.load rfl ag_3 (by (repeat' constructor)) (rfl)) ?_
     refine D.h rfl (by kernel_rfl) (OpSpec.call Tryz.func60 rfl rfl (vs := [_, _, _]) rfl (rpart_spec x (partsZ τ zx (subs.take i)).1 subs[i] zx p hys (N + subs.length) hok (by omega))) (by (repeat' constructor)) ?nx123
     rintro v L' ⟨a15, c15, rfl, rfl⟩
     refine D.ph ?_
     refine Phases.go [] (by (repeat' constructor)) ?_
     refine D.qw [] rfl (by kernel_rfl) (Quiet.assign rfl) ?_
     refine D.ph (Phases.fin (G.then_n (G.region (G.q (Quiet.move rfl) rfl (G.q (Quiet.move rfl) rfl ?_)))))
     refine G.op (OpSpec.append (n := (partsZ τ zx (subs.take i)).2.length) (m := (partZ (partsZ τ zx (subs.take i)).1 subs[i] zx).2.length) (ys := (partZ (partsZ τ zx (subs.take i)).1 subs[i] zx).2.flatMap evC) (p := slR 75 3 (.slice a15 (partZ (partsZ τ zx (subs.take i)).1 subs[i] zx).2.length c15) (partZ (partsZ τ zx (subs.take i)).1 subs[i] zx).2.length ((partZ (partsZ τ zx (subs.take i)).1 subs[i] zx).2.flatMap evC)) rfl rfl rfl el_30 (.inl ⟨_, Tryz.underlying30⟩) ze_75 rfl rfl ?hc126 ?hr127 ?hb128 (by decide)) (by (repeat' constructor)) rfl ?nx129
     case hc126 => exact evC_cells _
     case hr127 => exact fun h hp => slR_rd hp
     case hb128 => have := part_ev (partsZ τ zx (subs.take i)).1 subs[i] zx; omega
     rintro v L' ⟨⟨a16_2, c16_2, rfl⟩, rfl⟩
     refine G.q (Quiet.assign rfl) rfl (G.nil (G.blk_n (G.then_n (G.region (G.q (Quiet.move rfl) rfl ?_)))))
     refine G.q (Quiet.add rfl rfl (by omega)) rfl ?_
     refine G.q (Quiet.assign rfl) rfl (G.nil (G.then_n ?_))
     have hst := List.take_succ_eq_append_getElem hi2
     refine G.rfCast (x := x) (τ' := (partsZ τ zx (subs.take (i + 1))).1) (by (repeat' constructor)) (by rw [hst, parts_snoc]) ?_
     refine G.slCast (T := 75) (sz := 3) (m' := (partsZ τ zx (subs.take (i + 1))).2.length) (xs' := (partsZ τ zx (subs.take (i + 1))).2.flatMap evC) (by (repeat' constructor)) (by rw [hst, parts_snoc]; simp) (by rw [hst, parts_snoc]; simp) ?_
     exact G.roundK ((i + 1, .slice a16_2 ((partsZ τ zx (subs.take i)).2.length + (partZ (partsZ τ zx (subs.take i)).1 subs[i] zx).2.length) c16_2)) (⟨by dsimp only; omega, _, _, by rw [hst, parts_snoc, List.length_append]⟩) (by dsimp only; omega) ⟨rfl, rfl, rfl, rfl, rfl, rfl, rfl, rfl, trivial⟩ (by (repeat' constructor)) (by ((repeat (apply Have.cons; (repeat (first | exact Pick.here | apply Pick.there)))); apply Have.base; repeat' constructor))
    ·have hii : i = subs.length := by omega
     rw [hii, List.take_length]
     refine G.exit (G.then_e (G.then_e (G.blk_e (G.then_n (G.seq (G.region (G.q (Quiet.fieldAddr rfl fo_37_0) rfl ?_)))))))
     refine G.q (Quiet.load rfl ag_3 (by (repeat' constructor)) (rfl)) rfl ?_
     refine G.q (Quiet.as (v' := .bool false) (by exact congrArg Value.bool (decide_eq_false (by omega))) (Quiet.int rfl rfl rfl)) rfl ?_
     refine G.nil (G.then_n (G.condF rfl (G.skip (G.blk_n (G.then_n (G.seq ?_))))))
     have hz : (applyZ τ zx y subs) = (zxT ((partsZ τ zx subs).1) zx, ((partsZ τ zx subs).2, 0)) := by rw [apply_zx]; unfold applyZ0; rw [if_neg h20, if_neg hk6, if_pos hk7]
     refine G.rfOpen (x := x) (τ := ((partsZ τ zx subs).1)) (by (repeat' constructor)) fun an cn as1 cs l hl => ?_
     refine G.region (G.q (Quiet.move rfl) rfl (G.q (Quiet.fieldAddr rfl fo_39_0) rfl ?_))
     refine G.q (Quiet.load rfl ag_3 (by (repeat' constructor)) (rfl)) rfl ?_
     refine G.q (Quiet.nilp rfl) rfl (G.q (Quiet.fieldAddr rfl fo_101_2) rfl ?_)
     refine G.op (OpSpec.store rfl rfl rfl sz_3 ?c141 ?c142) (by (repeat' constructor)) rfl ?nx143
     case c141 => first | decide | (simp; omega) | simp
     case c142 => exact nfz0 _ _
     rintro v L' rfl
     refine G.nil ?_
     refine G.rfFold (x := x) (τ := (zxT ((partsZ τ zx subs).1) zx)) (l := l) hl (by (repeat' constructor)) rfl rfl rfl rfl rfl ?_
     refine G.then_n (G.seq (G.region (G.q (Quiet.move rfl) rfl (G.q (Quiet.move rfl) rfl (G.q (Quiet.assign rfl) rfl (G.q (Quiet.assign rfl) rfl (G.nil (G.then_n (G.ret ?_)))))))))
     refine G.rfCast (x := x) (τ' := (applyZ τ zx y subs).1) (by (repeat' constructor)) (by rw [hz]) ?_
     refine G.slCast (T := 75) (sz := 3) (m' := (applyZ τ zx y subs).2.1.length) (xs' := (applyZ τ zx y subs).2.1.flatMap evC) (by (repeat' constructor)) (by (rw [hz]; try rfl)) (by (rw [hz]; try rfl)) ?_
     exact G.done (l := [.tmp 4, .tmp 5]) rfl rfl ⟨_, _, rfl, by rw [hz], ⟨_, _, by (rw [hz]; try rfl)⟩, rfl⟩ (by (repeat' constructor)) (by (repeat' constructor))
   ·refine G.q (Quiet.as (v' := .bool false) (by exact congrArg Value.bool (decide_eq_false hk7)) (Quiet.int rfl rfl rfl)) rfl ?_
    refine G.q (Quiet.assign rfl) rfl (G.nil (G.then_n (G.condF rfl (G.seq (G.region (G.q (Quiet.int rfl rfl rfl) rfl (G.q (Quiet.assign rfl) rfl (G.nil (G.then_n ?_)))))))))
    refine G.condD rfl (fun h75 => ?_) (fun h75 => ?_)
    ·refine G.region (G.q (Quiet.fieldAddr rfl fo_37_6) rfl ?_)
     refine G.q (Quiet.load rfl ag_31 (by (repeat' constructor)) (rfl)) rfl ?_
     refine G.q (Quiet.assign rfl) rfl (G.nil (G.blk_n (G.then_n (G.seq (G.add (slR_nil 75 3) ?_)))))
     have hz : (applyZ τ zx y subs) = (zxT (τ) zx, ([], y.err)) := by rw [apply_zx]; unfold applyZ0; rw [if_neg h20, if_neg hk6, if_neg hk7, if_pos h75]
     refine G.rfOpen (x := x) (τ := (τ)) (by (repeat' constructor)) fun an cn as1 cs l hl => ?_
     refine G.region (G.q (Quiet.move rfl) rfl (G.q (Quiet.fieldAddr rfl fo_39_0) rfl ?_))
     refine G.q (Quiet.load rfl ag_3 (by (repeat' constructor)) (rfl)) rfl ?_
     refine G.q (Quiet.nilp rfl) rfl (G.q (Quiet.fieldAddr rfl fo_101_2) rfl ?_)
     refine G.op (OpSpec.store rfl rfl rfl sz_3 ?c155 ?c156) (by (repeat' constructor)) rfl ?nx157
     case c155 => first | decide | (simp; omega) | simp
     case c156 => exact nfz0 _ _
     rintro v L' rfl
     refine G.nil ?_
     refine G.rfFold (x := x) (τ := (zxT (τ) zx)) (l := l) hl (by (repeat' constructor)) rfl rfl rfl rfl rfl ?_
     refine G.then_n (G.seq (G.region (G.q (Quiet.move rfl) rfl (G.q (Quiet.move rfl) rfl (G.q (Quiet.assign rfl) rfl (G.q (Quiet.assign rfl) rfl (G.nil (G.then_n (G.ret ?_)))))))))
     refine G.rfCast (x := x) (τ' := (applyZ τ zx y subs).1) (by (repeat' constructor)) (by rw [hz]) ?_
     refine G.slCast (T := 75) (sz := 3) (m' := (applyZ τ zx y subs).2.1.length) (xs' := (applyZ τ zx y subs).2.1.flatMap evC) (by (repeat' constructor)) (by (rw [hz]; try rfl)) (by (rw [hz]; try rfl)) ?_
     exact G.done (l := [.tmp 4, .tmp 5]) rfl rfl ⟨_, _, rfl, by rw [hz], ⟨_, _, by (rw [hz]; try rfl)⟩, rfl⟩ (by (repeat' constructor)) (by (repeat' constructor))
    ·refine G.region (G.q (Quiet.move rfl) rfl ?_)
     refine G.q (Quiet.loadAs (vs := ptC y) rfl ag_37 (by (repeat' constructor)) (by simp [ptC]) rfl) rfl ?_
     refine G.q (Quiet.fieldAddr rfl fo_39_0) rfl ?_
     refine G.q (Quiet.load rfl ag_3 (by (repeat' constructor)) (rfl)) rfl ?_
     refine G.op (OpSpec.call Tryz.func60 rfl rfl (vs := [_, _, _]) rfl (rpart_spec x τ y zx p hx.own N ho (by omega))) (by (repeat' constructor)) rfl ?nx162
     rintro v L' ⟨a5, c5, rfl, rfl⟩
     refine G.q (Quiet.assign rfl) rfl (G.nil (G.blk_n (G.then_n (G.seq ?_))))
     have hz : (applyZ τ zx y subs) = (zxT ((partZ τ y zx).1) zx, ((partZ τ y zx).2, 0)) := by rw [apply_zx]; unfold applyZ0; rw [if_neg h20, if_neg hk6, if_neg hk7, if_neg h75]
     refine G.rfOpen (x := x) (τ := ((partZ τ y zx).1)) (by (repeat' constructor)) fun an cn as1 cs l hl => ?_
     refine G.region (G.q (Quiet.move rfl) rfl (G.q (Quiet.fieldAddr rfl fo_39_0) rfl ?_))
     refine G.q (Quiet.load rfl ag_3 (by (repeat' constructor)) (rfl)) rfl ?_
     refine G.q (Quiet.nilp rfl) rfl (G.q (Quiet.fieldAddr rfl fo_101_2) rfl ?_)
     refine G.op (OpSpec.store rfl rfl rfl sz_3 ?c169 ?c170) (by (repeat' constructor)) rfl ?nx171
     case c169 => first | decide | (simp; omega) | simp
     case c170 => exact nfz0 _ _
     rintro v L' rfl
     refine G.nil ?_
     refine G.rfFold (x := x) (τ := (zxT ((partZ τ y zx).1) zx)) (l := l) hl (by (repeat' constructor)) rfl rfl rfl rfl rfl ?_
     refine G.then_n (G.seq (G.region (G.q (Quiet.move rfl) rfl (G.q (Quiet.move rfl) rfl (G.q (Quiet.assign rfl) rfl (G.q (Quiet.assign rfl) rfl (G.nil (G.then_n (G.ret ?_)))))))))
     refine G.rfCast (x := x) (τ' := (applyZ τ zx y subs).1) (by (repeat' constructor)) (by rw [hz]) ?_
     refine G.slCast (T := 75) (sz := 3) (m' := (applyZ τ zx y subs).2.1.length) (xs' := (applyZ τ zx y subs).2.1.flatMap evC) (by (repeat' constructor)) (by (rw [hz]; try rfl)) (by (rw [hz]; try rfl)) ?_
     exact G.done (l := [.tmp 4, .tmp 5]) rfl rfl ⟨_, _, rfl, by rw [hz], ⟨_, _, by (rw [hz]; try rfl)⟩, rfl⟩ (by (repeat' constructor)) (by (repeat' constructor))

end Go.Proofs.YtnnbelmpbmfdnaaGreatDoor

/- Own work, by program: law 07: transactions of a sound history: walked. -/
namespace Go.Proofs.YtnnbelmpbmfdnaaGreatDoor
open Go
set_option maxHeartbeats 1000000 in
set_option maxRecDepth 100000 in
theorem txn7_spec (x : Nat) (τ : Tr) (a : Ac0) (q : HP) (ss : List Ac0) (zx K : Int) (hinv : HInv τ K) (hK : K ≤ 1099511620000) (ha : IntsOk a) (hd : a.2.2.2.1.length ≤ 100) (hq : Acts0 q a.2.2.2.2 ss) (hsm : Smalls ss) : Fn Tryz.prog 43 #[vptr x, .agg (ac0C a).toArray, vint zx] [refR x τ, q] fun v L => ∃ (y : Pt) (subs : List Pt), v = .agg (ptC y).toArray ∧ ShapeH τ zx y subs K ∧ TxC y subs ∧ L = [refR x τ, q, txRd y subs] := by
 refine Fn.intro (vs := [vptr x, .agg (ac0C a).toArray, vint zx]) Tryz.func43 rfl rfl ?_
 intro F W
 refine G.rdAny (p := q) hq.cells (by (repeat' constructor)) fun ab cb eab _ => ?_
 have hrd := hq.cells
 rw [eab] at hrd
 have hfew := hinv.ok.few
 have hsf := hinv.ok.sfew
 have hs6 := hsm.few
 have hca : isCell a.2.2.2.2 = true := by rw [eab]; rfl
 have hp5 := pickZ_range a.2.1 (n := 5) (by decide)
 have hp50 := pickZ_range a.2.2.1 (n := 50) (by decide)
 have hp99 := pickZ_range a.2.1 (n := 99) (by decide)
 have hwl : (ownedZ τ (1 + pickZ a.2.1 5)).length ≤ 60 := Nat.le_trans (owned_len τ (1 + pickZ a.2.1 5)) hfew
 refine G.seq (G.region ?_)
 refine G.op (OpSpec.box rfl) (by (repeat' constructor)) rfl ?nx1
 rintro v L' ⟨ba, rfl, rfl⟩
 refine G.op (OpSpec.allocA ze_37) (by (repeat' constructor)) rfl ?nx3
 rintro v L' ⟨b6, rfl, rfl⟩
 refine G.nil ?_
 refine G.ptCast (b := ba) (l' := ac0C a) (by (repeat' constructor)) rfl ?_
 refine G.then_n (G.seq (G.seq (G.region (G.q (Quiet.fieldAddr rfl fo_94_0) rfl ?_))))
 refine G.q (Quiet.load rfl ag_3 (by (repeat' constructor)) (rfl)) rfl ?_
 refine G.op (OpSpec.call Tryz.func21 rfl rfl (vs := [_, _]) rfl (pick7_spec _ _ ha.h1 (by decide))) (by (repeat' constructor)) rfl ?nx7
 rintro v L' ⟨rfl, rfl⟩
 refine G.nil (G.then_n (G.block (G.seq (G.region (G.q (Quiet.int rfl rfl rfl) rfl (G.q (Quiet.assign rfl) rfl (G.nil (G.then_n ?_))))))))
 refine G.condD rfl (fun h23 => ?_) (fun h23 => ?_)
 ·refine G.seq ?_
  refine G.draw [11] [[0, 1, 2, 3, 4, 5, 6, 7, 8, 9, 10, 11]] mixed (by kernel_rfl) ?_
  refine Phases.go [ptc ba _ _] (by (repeat' constructor)) ?_
  refine D.qw [1, 2, 3, 6, 7, 10, 11] rfl (by kernel_rfl) (Quiet.fieldAddr rfl fo_94_1) ?_
  refine D.qw [2, 3, 6, 7, 10, 11] rfl (by kernel_rfl) (Quiet.load rfl ag_3 (by (repeat' constructor)) (rfl)) ?_
  refine D.m rfl (by kernel_rfl) (OpSpec.call Tryz.func21 rfl rfl (vs := [_, _]) rfl (pick7_spec _ _ ha.h2 (by decide))) (by (repeat' constructor)) ?nx12
  refine D.qw [10, 11] rfl (by kernel_rfl) (Quiet.add rfl rfl (by omega)) ?_
  refine D.qw [5, 6, 7, 10, 11] rfl (by kernel_rfl) (Quiet.fieldAddr rfl fo_94_2) ?_
  refine D.qw [6, 7, 10, 11] rfl (by kernel_rfl) (Quiet.load rfl ag_3 (by (repeat' constructor)) (rfl)) ?_
  refine D.m rfl (by kernel_rfl) (OpSpec.call Tryz.func21 rfl rfl (vs := [_, _]) rfl (pick7_spec _ _ ha.h3 (by decide))) (by (repeat' constructor)) ?nx17
  refine D.qw [10, 11] rfl (by kernel_rfl) (Quiet.add rfl rfl (by omega)) ?_
  refine D.qw [9, 10, 11] rfl (by kernel_rfl) (Quiet.fieldAddr rfl fo_94_3) ?_
  refine D.qw [10, 11] rfl (by kernel_rfl) (Quiet.load rfl ag_9 (by (repeat' constructor)) (rfl)) ?_
  refine D.qw [11] rfl (by kernel_rfl) (Quiet.to (v' := .agg (ptC (⟨5, [], a.2.2.2.1, .slice none 0 0, [], (1 + pickZ a.2.1 5), 4 + pickZ a.2.2.1 50, 0, .slice none 0 0⟩ : Pt)).toArray) (Quiet.build (us := [(0, _), (4, _), (5, _), (2, _)]) fl_37 ze_37 rfl rfl (by simp [isCell])) rfl) ?_
  refine D.h rfl (by kernel_rfl) (OpSpec.storeA rfl rfl ?c23 sz_37 ?c26 ?c24 ?c25) (by (repeat' constructor)) ?nx27
  case c23 => exact pt_cells rfl rfl
  case c26 => rfl
  case c24 => simp [ptC]
  case c25 => exact nfz0 _ _
  rintro v L' rfl
  refine D.ph (Phases.fin (G.then_n (G.ret (G.blk_r (G.then_r ?_)))))
  refine G.ptCast (b := b6) (l' := ptC (⟨5, [], a.2.2.2.1, .slice none 0 0, [], (1 + pickZ a.2.1 5), 4 + pickZ a.2.2.1 50, 0, .slice none 0 0⟩ : Pt)) (by (repeat' constructor)) rfl ?_
  refine G.add (p := txRd (⟨5, [], a.2.2.2.1, .slice none 0 0, [], (1 + pickZ a.2.1 5), 4 + pickZ a.2.2.1 50, 0, .slice none 0 0⟩ : Pt) []) (txRd_none rfl rfl rfl) ?_
  exact G.done1 rfl (.cellA rfl ag_37 (by (repeat' constructor)) (by simp [ptC]) rfl) ⟨(⟨5, [], a.2.2.2.1, .slice none 0 0, [], (1 + pickZ a.2.1 5), 4 + pickZ a.2.2.1 50, 0, .slice none 0 0⟩ : Pt), [], rfl, .opens rfl rfl ⟨by show 1 ≤ (1 + pickZ a.2.1 5); omega, by show (1 + pickZ a.2.1 5) ≤ 5; omega⟩ ⟨by show 4 ≤ 4 + pickZ a.2.2.1 50; omega, by show 4 + pickZ a.2.2.1 50 ≤ 53; omega⟩ hd rfl rfl, ⟨rfl, rfl, (fun w hw => by cases hw)⟩, rfl⟩ (by (repeat' constructor)) (by (repeat' constructor))
 ·refine G.seq (G.region (G.q (Quiet.int rfl rfl rfl) rfl (G.q (Quiet.assign rfl) rfl (G.nil (G.then_n ?_)))))
  refine G.condD rfl (fun h36 => ?_) (fun h36 => ?_)
  ·refine G.seq (G.region (G.q (Quiet.fieldAddr rfl fo_94_1) rfl ?_))
   refine G.q (Quiet.load rfl ag_3 (by (repeat' constructor)) (rfl)) rfl ?_
   refine G.op (OpSpec.call Tryz.func21 rfl rfl (vs := [_, _]) rfl (pick7_spec _ _ ha.h2 (by decide))) (by (repeat' constructor)) rfl ?nx31
   rintro v L' ⟨rfl, rfl⟩
   refine G.q (Quiet.add rfl rfl (by omega)) rfl ?_
   refine G.q (Quiet.to (v' := .agg (ptC (⟨6, [], [], .slice none 0 0, [], (1 + pickZ a.2.1 5), 0, 0, (.slice none 0 0)⟩ : Pt)).toArray) (Quiet.build (us := [(0, _), (4, _)]) fl_37 ze_37 rfl rfl (by simp [isCell])) rfl) rfl ?_
   refine G.op (OpSpec.allocA ze_37) (by (repeat' constructor)) rfl ?nx35
   rintro v L' ⟨bT, rfl, rfl⟩
   refine G.op (OpSpec.storeA rfl rfl ?c37 sz_37 ?c40 ?c38 ?c39) (by (repeat' constructor)) rfl ?nx41
   case c37 => exact pt_cells rfl rfl
   case c40 => rfl
   case c38 => simp [ptC]
   case c39 => exact nfz0 _ _
   rintro v L' rfl
   refine G.nil ?_
   refine G.ptCast (b := bT) (l' := ptC (⟨6, [], [], .slice none 0 0, [], (1 + pickZ a.2.1 5), 0, 0, (.slice none 0 0)⟩ : Pt)) (by (repeat' constructor)) rfl ?_
   refine G.then_n (G.seq (G.region (G.q (Quiet.move rfl) rfl ?_)))
   refine G.op (OpSpec.call Tryz.func91 rfl rfl (vs := [_]) rfl (rclone_spec x τ 60 hinv.ok (by omega))) (by (repeat' constructor)) rfl ?nx43
   rintro v L' ⟨u, rfl, rfl⟩
   refine G.q (Quiet.assign rfl) rfl (G.nil (G.then_n (G.seq (G.region (G.q (Quiet.move rfl) rfl (G.q (Quiet.fieldAddr rfl fo_37_4) rfl ?_))))))
   refine G.q (Quiet.load rfl ag_3 (by (repeat' constructor)) (rfl)) rfl ?_
   refine G.op (OpSpec.call Tryz.func66 rfl rfl (vs := [_, _]) rfl (rowned_spec x τ (1 + pickZ a.2.1 5) 60 hinv.ok (by omega))) (by (repeat' constructor)) rfl ?nx48
   rintro v L' ⟨⟨ao, co, rfl⟩, rfl⟩
   refine G.q (Quiet.assign rfl) rfl (G.nil (G.then_n (G.seq (G.seq (G.add (slR_nil 37 8) (G.region (G.q (Quiet.move rfl) rfl (G.q (Quiet.slen rfl Tryz.underlying40 rfl) rfl ?_))))))))
   refine G.q (Quiet.sub rfl rfl (by omega)) rfl ?_
   refine G.q (Quiet.assign rfl) rfl (G.nil (G.then_n (G.block ?_)))
   refine G.rfCast (x := u) (τ' := (zxT (partsZ τ zx []).1 τ.zx)) (by (repeat' constructor)) (rfl) ?_
   refine G.loopK (ι := Nat × (List Pt) × Int × Value) (fun q E => (10, vint ((q.1 : Int) - 1)) :: E) (fun q => [ptc bT (ptC (⟨6, [], [], .slice none 0 0, [], (1 + pickZ a.2.1 5), 0, 0, q.2.2.2⟩ : Pt)) 37, refR u (zxT (partsZ τ zx q.2.1).1 q.2.2.1), slR 37 8 q.2.2.2 q.2.1.length (q.2.1.flatMap ptC)]) (fun q => DelI τ zx K (1 + pickZ a.2.1 5) q.1 q.2.1 ∧ ∃ a c, q.2.2.2 = .slice a q.2.1.length c) (fun q => q.1) ((ownedZ τ (1 + pickZ a.2.1 5)).length, [], τ.zx, .slice none 0 0) (ts := [0, 2, 4, 6, 7, 8, 9]) (.cons rfl (.cons rfl (.cons rfl (.cons rfl (.cons rfl (.cons rfl (.cons rfl (.nil)))))))) (⟨DelI.init hinv _, none, 0, rfl⟩) ⟨rfl, rfl, rfl, rfl, rfl, rfl, rfl, rfl, trivial⟩ (by (repeat' constructor)) ?_
   rintro ⟨j, acc, z, w⟩ ⟨hdel, aw, cw, hw⟩
   dsimp only
   dsimp only at hdel hw
   subst hw
   have hdl := hdel.len
   have hal : ∀ w ∈ acc, w.acl.length ≤ 1 := fun w hw => by rw [(hdel.kinds w hw).2.2.1]; simp
   have hok := parts_ok hinv.ok zx hal z
   refine G.seq (G.seq (G.region (G.q (Quiet.move rfl) rfl (G.q (Quiet.int rfl rfl rfl) rfl (G.nil (G.then_n ?_))))))
   refine G.condD rfl (fun h53 => ?_) (fun h53 => ?_)
   ·obtain ⟨k, rfl⟩ : ∃ k, j = k + 1 := ⟨j - 1, by omega⟩
    rw [show (((k + 1 : Nat) : Int) - 1) = (k : Int) by omega]
    have hk2 : k < (ownedZ τ (1 + pickZ a.2.1 5)).length := by omega
    refine G.slShape (T := 9) (sz := 1) (v := .slice ao (ownedZ τ (1 + pickZ a.2.1 5)).length co) (xs := strs (ownedZ τ (1 + pickZ a.2.1 5))) (by (repeat' constructor)) (by omega) fun bo bo' e0 mbo _ => ?_
    simp only [Value.slice.injEq, true_and] at e0
    obtain ⟨rfl, rfl⟩ := e0
    have hth := hdel.parent hinv
    have hpl := able_len (.inr (owned_able hinv (List.getElem_mem hk2)).1)
    refine G.skip (G.then_n (G.seq (G.block (G.seq (G.region (G.q (Quiet.move rfl) rfl (G.q (Quiet.move rfl) rfl (G.q (Quiet.move rfl) rfl ?_))))))))
    refine G.q (Quiet.indexAddr rfl rfl el_40 (by omega)) rfl ?_
    refine G.q (Quiet.loadRd (sz := 1) (j := k * 1) (p := slR 9 1 _ (ownedZ τ (1 + pickZ a.2.1 5)).length (strs (ownedZ τ (1 + pickZ a.2.1 5)))) rfl ag_9 (by (repeat' constructor)) (fun h hp => slR_rd hp) (by omega) (strs_at hk2)) rfl ?_
    refine G.op (OpSpec.call Tryz.func51 rfl rfl (vs := [_]) rfl (rparent_spec _ ?hs59)) (by (repeat' constructor)) rfl ?nx60
    case hs59 => first | assumption | omega
    rintro v L' ⟨rfl, rfl⟩
    refine G.op (OpSpec.call Tryz.func69 rfl rfl (vs := [_, _]) rfl (rplace_spec u (zxT (partsZ τ zx acc).1 z) (parentZ (ownedZ τ (1 + pickZ a.2.1 5))[k]) (by have := hok.few; omega))) (by (repeat' constructor)) rfl ?nx62
    rintro v L' ⟨rfl, rfl⟩
    refine G.q (Quiet.assign rfl) rfl (G.nil ?_)
    obtain ⟨n, hn, hpn, hkn⟩ := place_get (l := (partsZ τ zx acc).1.nodes) (p := parentZ (ownedZ τ (1 + pickZ a.2.1 5))[k]) (place_iff.2 hth)
    have hpz : placeZ (zxT (partsZ τ zx acc).1 z) (parentZ (ownedZ τ (1 + pickZ a.2.1 5))[k]) = n := hpn
    rw [hpz]
    refine G.rfOpen (x := u) (τ := (zxT (partsZ τ zx acc).1 z)) (by (repeat' constructor)) fun am cm as2 cs2 m hm => ?_
    have hml := nds_len hm
    have hml2 : m.length = (partsZ τ zx acc).1.nodes.length := hml
    have hnm : n < m.length := by omega
    refine G.slShape (T := 131) (sz := 12) (v := .slice am m.length cm) (xs := m.flatMap rnC) (by (repeat' constructor)) (by omega) fun bm bm' e0 mbm _ => ?_
    simp only [Value.slice.injEq, true_and] at e0
    obtain ⟨rfl, rfl⟩ := e0
    have hlk : alook (partsZ τ zx acc).1.nodes (parentZ (ownedZ τ (1 + pickZ a.2.1 5))[k]) = some m[n].2.2 := by have g := nds_get hm (i := n) hnm; have g2 : alook (partsZ τ zx acc).1.nodes ((partsZ τ zx acc).1.nodes[n]).1 = some ((partsZ τ zx acc).1.nodes[n]).2 := al_get (hok.sorted.nodup linB) (i := n) hn; rw [hkn, show (partsZ τ zx acc).1.nodes[n] = (m[n].1, m[n].2.2) from g] at g2; exact g2
    have hv := hdel.ver _ _ hlk
    have hdel2 := hdel.step hinv hlk
    refine G.then_n (G.seq ?_)
    refine G.draw [15, 16] [[0, 1, 2, 3, 4, 5, 6, 7, 8, 9, 10, 11, 12, 13, 14, 15], [16]] mixed (by kernel_rfl) ?_
    refine Phases.go [rnR _ _, ptc u _ _, slR 9 1 _ _ _] (by (repeat' constructor)) ?_
    refine D.q rfl (by kernel_rfl) (Quiet.move rfl) ?_
    refine D.q rfl (by kernel_rfl) (Quiet.move rfl) ?_
    refine D.q rfl (by kernel_rfl) (Quiet.indexAddr rfl rfl el_40 (by omega)) ?_
    refine D.q rfl (by kernel_rfl) (Quiet.loadRd (sz := 1) (j := k * 1) (p := slR 9 1 _ (ownedZ τ (1 + pickZ a.2.1 5)).length (strs (ownedZ τ (1 + pickZ a.2.1 5)))) rfl ag_9 (by (repeat' constructor)) (fun h hp => slR_rd hp) (by omega) (strs_at hk2)) ?_
    refine D.q rfl (by kernel_rfl) (Quiet.move rfl) ?_
    refine D.q rfl (by kernel_rfl) (Quiet.nilp rfl) ?_
    refine D.q rfl (by kernel_rfl) (Quiet.fieldAddr rfl fo_101_0) ?_
    refine D.q rfl (by kernel_rfl) (Quiet.load rfl ag_98 (by (repeat' constructor)) (rfl)) ?_
    refine D.q rfl (by kernel_rfl) (Quiet.move rfl) ?_
    refine D.q rfl (by kernel_rfl) (Quiet.indexAddr rfl rfl el_98 (by omega)) ?_
    refine D.q rfl (by kernel_rfl) (Quiet.fieldAddr rfl fo_131_3) ?_
    refine D.q rfl (by kernel_rfl) (Quiet.fieldAddr rfl fo_43_4) ?_
    refine D.q rfl (by kernel_rfl) (Quiet.loadRd (sz := 12) (j := n * 12 + 7) (p := rnR _ m) rfl ag_3 (by (repeat' constructor)) (fun h hp => slR_rd hp) (by omega) ((rn_cell (l := m) (i := n) (k := 7) (by omega) (by decide)).trans rfl)) ?_
    refine D.q rfl (by kernel_rfl) (Quiet.add rfl rfl (by omega)) ?_
    refine D.q rfl (by kernel_rfl) (Quiet.to (v' := .agg (ptC (⟨2, (ownedZ τ (1 + pickZ a.2.1 5))[k], [], .slice none 0 0, [], 0, m[n].2.2.st.cver + 1, 0, .slice none 0 0⟩ : Pt)).toArray) (Quiet.build (us := [(0, _), (1, _), (5, _)]) fl_37 ze_37 rfl rfl (by simp [isCell])) rfl) ?_
    refine D.h rfl (by kernel_rfl) (OpSpec.allocA ze_37) (by (repeat' constructor)) ?nx78
    rintro v L' ⟨b12, rfl, rfl⟩
    refine D.ph ?_
    refine Phases.go [] (by (repeat' constructor)) ?_
    refine D.h rfl (by kernel_rfl) (OpSpec.storeA rfl rfl ?c80 sz_37 ?c83 ?c81 ?c82) (by (repeat' constructor)) ?nx84
    case c80 => exact pt_cells rfl rfl
    case c83 => rfl
    case c81 => simp [ptC]
    case c82 => exact nfz0 _ _
    rintro v L' rfl
    refine D.ph (Phases.fin ?_)
    refine G.ptCast (b := b12) (l' := ptC (⟨2, (ownedZ τ (1 + pickZ a.2.1 5))[k], [], .slice none 0 0, [], 0, m[n].2.2.st.cver + 1, 0, .slice none 0 0⟩ : Pt)) (by (repeat' constructor)) rfl ?_
    refine G.rfFold (x := u) (τ := (zxT (partsZ τ zx acc).1 z)) (l := m) hm (by (repeat' constructor)) rfl rfl rfl rfl rfl ?_
    refine G.then_n (G.seq (G.region (G.q (Quiet.fieldAddr rfl fo_37_7) rfl ?_)))
    refine G.q (Quiet.load rfl ag_35 (by (repeat' constructor)) (rfl)) rfl ?_
    refine G.q (Quiet.loadAs (vs := ptC (⟨2, (ownedZ τ (1 + pickZ a.2.1 5))[k], [], .slice none 0 0, [], 0, m[n].2.2.st.cver + 1, 0, .slice none 0 0⟩ : Pt)) rfl ag_37 (by (repeat' constructor)) (by simp [ptC]) rfl) rfl ?_
    refine G.op (OpSpec.buildSlice (vs := [_]) el_35 ze_37 rfl rfl rfl rfl (by first | (simp [Value.cells]; done) | (intro v hv; simp only [List.mem_cons, List.not_mem_nil, or_false] at hv; (repeat (first | (subst hv; rfl) | (rcases hv with hv | hv; (subst hv; rfl)))))) (by decide)) (by (repeat' constructor)) rfl ?nx88
    rintro v L' ⟨b13, rfl, rfl⟩
    refine G.op (OpSpec.append1 rfl rfl rfl el_35 ze_37 rfl rfl ?c90 ?c91 (Nat.le_refl _) ?c92 (by decide)) (by (repeat' constructor)) rfl ?nx93
    case c90 => simp only [List.map_cons, List.map_nil, List.flatten_cons, List.flatten_nil, List.append_nil]; exact pt_cells rfl rfl
    case c91 => rfl
    case c92 => first | omega | (simp; omega)
    rintro v L' ⟨⟨a13_4, c13_4, rfl⟩, rfl⟩
    refine G.q (Quiet.fieldAddr rfl fo_37_7) rfl ?_
    refine G.op (OpSpec.store rfl rfl rfl sz_35 ?c96 ?c97) (by (repeat' constructor)) rfl ?nx98
    case c96 => simp [ptC]
    case c97 => exact nfz0 _ _
    rintro v L' rfl
    refine G.nil ?_
    refine G.slCast (T := 37) (sz := 8) (m' := (acc ++ [(⟨2, (ownedZ τ (1 + pickZ a.2.1 5))[k], [], .slice none 0 0, [], 0, m[n].2.2.st.cver + 1, 0, .slice none 0 0⟩ : Pt)]).length) (xs' := (acc ++ [(⟨2, (ownedZ τ (1 + pickZ a.2.1 5))[k], [], .slice none 0 0, [], 0, m[n].2.2.st.cver + 1, 0, .slice none 0 0⟩ : Pt)]).flatMap ptC) (by (repeat' constructor)) (by rw [List.length_append]; rfl) (by rw [List.flatMap_append]; simp; rfl) ?_
    rw [show acc.length + 1 = (acc ++ [(⟨2, (ownedZ τ (1 + pickZ a.2.1 5))[k], [], .slice none 0 0, [], 0, m[n].2.2.st.cver + 1, 0, .slice none 0 0⟩ : Pt)]).length by rw [List.length_append]; rfl]
    refine G.then_n (G.add (p := nilA) nilA_ok (G.region (G.q (Quiet.move rfl) rfl (G.q (Quiet.move rfl) rfl ?_))))
    refine G.q (Quiet.loadAs (vs := ptC (⟨2, (ownedZ τ (1 + pickZ a.2.1 5))[k], [], .slice none 0 0, [], 0, m[n].2.2.st.cver + 1, 0, .slice none 0 0⟩ : Pt)) rfl ag_37 (by (repeat' constructor)) (by simp [ptC]) rfl) rfl ?_
    refine G.q (Quiet.buildN (pl := [(0, 1), (1, 1), (2, 1), (3, 8)]) (us := [(0, vint zx), (3, .agg (ptC (⟨2, (ownedZ τ (1 + pickZ a.2.1 5))[k], [], .slice none 0 0, [], 0, m[n].2.2.st.cver + 1, 0, .slice none 0 0⟩ : Pt)).toArray)]) (cells := [vint zx, vint 0, vint 0] ++ ptC (⟨2, (ownedZ τ (1 + pickZ a.2.1 5))[k], [], .slice none 0 0, [], 0, m[n].2.2.st.cver + 1, 0, .slice none 0 0⟩ : Pt)) Tryz.underlying39 (by kernel_rfl) ze_39 rfl (fill_entry _ _ _ _ _ _ _ _ _)) rfl ?_
    refine G.op (OpSpec.call Tryz.func26 rfl rfl (vs := [_, _]) rfl (rapply_spec u (zxT (partsZ τ zx acc).1 z) zx 0 0 (⟨2, (ownedZ τ (1 + pickZ a.2.1 5))[k], [], .slice none 0 0, [], 0, m[n].2.2.st.cver + 1, 0, .slice none 0 0⟩ : Pt) [] nilA ⟨⟨fun h _ => rd_none 2 h, by simp, by show ((ownedZ τ (1 + pickZ a.2.1 5))[k]).length ≤ 1048576; omega, rfl, rfl⟩, fun h _ => rd_none 8 h, by simp, fun w hw => by cases hw⟩ (60 + acc.length) hok (by simp; omega))) (by (repeat' constructor)) rfl ?nx103
    rintro v L' ⟨ue, ee, rfl, he, hue, rfl⟩
    refine G.nil ?_
    refine G.rfCast (x := u) (τ' := (zxT (partsZ τ zx (acc ++ [(⟨2, (ownedZ τ (1 + pickZ a.2.1 5))[k], [], .slice none 0 0, [], 0, m[n].2.2.st.cver + 1, 0, .slice none 0 0⟩ : Pt)])).1 zx)) (by (repeat' constructor)) (by have h1 := app_part (τ := (zxT (partsZ τ zx acc).1 z)) (e := ⟨zx, 0, 0, (⟨2, (ownedZ τ (1 + pickZ a.2.1 5))[k], [], .slice none 0 0, [], 0, m[n].2.2.st.cver + 1, 0, .slice none 0 0⟩ : Pt), []⟩) (.inl (by show (2 : Int) ≤ 4; decide)); rw [parts_snoc]; dsimp only; rw [part_zx'] at h1; exact h1.symm) ?_
    refine G.blk_n (G.then_n (G.region (G.q (Quiet.move rfl) rfl ?_)))
    refine G.q (Quiet.sub rfl rfl (by omega)) rfl ?_
    refine G.q (Quiet.assign rfl) rfl (G.nil (G.then_n ?_))
    refine G.ptCast (b := bT) (l' := ptC (⟨6, [], [], .slice none 0 0, [], (1 + pickZ a.2.1 5), 0, 0, (.slice a13_4 (acc ++ [(⟨2, (ownedZ τ (1 + pickZ a.2.1 5))[k], [], .slice none 0 0, [], 0, m[n].2.2.st.cver + 1, 0, .slice none 0 0⟩ : Pt)]).length c13_4)⟩ : Pt)) (by (repeat' constructor)) rfl ?_
    exact G.roundK ((k, acc ++ [(⟨2, (ownedZ τ (1 + pickZ a.2.1 5))[k], [], .slice none 0 0, [], 0, m[n].2.2.st.cver + 1, 0, .slice none 0 0⟩ : Pt)], zx, .slice a13_4 (acc ++ [(⟨2, (ownedZ τ (1 + pickZ a.2.1 5))[k], [], .slice none 0 0, [], 0, m[n].2.2.st.cver + 1, 0, .slice none 0 0⟩ : Pt)]).length c13_4)) (⟨hdel2, _, _, rfl⟩) (by dsimp only; omega) ⟨rfl, rfl, rfl, rfl, rfl, rfl, rfl, rfl, trivial⟩ (by (repeat' constructor)) (by ((repeat (apply Have.cons; (repeat (first | exact Pick.here | apply Pick.there)))); apply Have.base; repeat' constructor))
   ·have hj0 : j = 0 := by omega
    subst hj0
    refine G.exit (G.then_e (G.then_e (G.blk_e (G.then_n (G.seq (G.region ?_))))))
    refine G.q (Quiet.loadAs (vs := ptC (⟨6, [], [], .slice none 0 0, [], (1 + pickZ a.2.1 5), 0, 0, (.slice aw acc.length cw)⟩ : Pt)) rfl ag_37 (by (repeat' constructor)) (by simp [ptC]) rfl) rfl ?_
    refine G.op (OpSpec.storeA rfl rfl ?c108 sz_37 ?c111 ?c109 ?c110) (by (repeat' constructor)) rfl ?nx112
    case c108 => exact pt_cells rfl rfl
    case c111 => rfl
    case c109 => simp [ptC]
    case c110 => exact nfz0 _ _
    rintro v L' rfl
    refine G.nil (G.then_n (G.ret (G.blk_r (G.then_r ?_))))
    refine G.add (p := aclsA acc) (fun h w hw => by obtain ⟨-, e1, e2, -⟩ := hdel.kinds w hw; rw [e1, e2]; exact rd_none 2 h) ?_
    refine G.ptCast (b := b6) (l' := ptC (⟨6, [], [], .slice none 0 0, [], (1 + pickZ a.2.1 5), 0, 0, (.slice aw acc.length cw)⟩ : Pt)) (by (repeat' constructor)) rfl ?_
    refine G.fold (p := txRd (⟨6, [], [], .slice none 0 0, [], (1 + pickZ a.2.1 5), 0, 0, (.slice aw acc.length cw)⟩ : Pt) acc) (by (repeat' constructor)) (fun _ hp => txRd_of (T := 37) (x := (⟨6, [], [], .slice none 0 0, [], (1 + pickZ a.2.1 5), 0, 0, (.slice aw acc.length cw)⟩ : Pt)) rfl rfl hp) ?_
    exact G.done1 rfl (.cellA rfl ag_37 (by (repeat' constructor)) (by simp [ptC]) rfl) ⟨(⟨6, [], [], .slice none 0 0, [], (1 + pickZ a.2.1 5), 0, 0, (.slice aw acc.length cw)⟩ : Pt), acc, rfl, .close rfl (DelI.closeH (x := (⟨6, [], [], .slice none 0 0, [], (1 + pickZ a.2.1 5), 0, 0, (.slice aw acc.length cw)⟩ : Pt)) hdel ⟨by show 1 ≤ (1 + pickZ a.2.1 5); omega, by show (1 + pickZ a.2.1 5) ≤ 5; omega⟩) hdel.parts rfl rfl (by have := hdel.len; omega) rfl, ⟨rfl, rfl, (fun w hw => by obtain ⟨-, e1, -, e2⟩ := hdel.kinds w hw; rw [e1, e2]; exact ⟨rfl, rfl⟩)⟩, rfl⟩ (by (repeat' constructor)) (by (repeat' constructor))
  ·refine G.seq (G.region (G.q (Quiet.int rfl rfl rfl) rfl (G.q (Quiet.assign rfl) rfl (G.nil (G.then_n ?_)))))
   refine G.condD rfl (fun h90 => ?_) (fun h90 => ?_)
   ·refine G.seq (G.region ?_)
    refine G.q (Quiet.to (v' := .agg (ptC (⟨7, [], [], .slice none 0 0, [], 0, 0, 0, (.slice none 0 0)⟩ : Pt)).toArray) (Quiet.build (us := [(0, _)]) fl_37 ze_37 rfl rfl (by simp [isCell])) rfl) rfl ?_
    refine G.op (OpSpec.allocA ze_37) (by (repeat' constructor)) rfl ?nx115
    rintro v L' ⟨bT, rfl, rfl⟩
    refine G.op (OpSpec.storeA rfl rfl ?c117 sz_37 ?c120 ?c118 ?c119) (by (repeat' constructor)) rfl ?nx121
    case c117 => exact pt_cells rfl rfl
    case c120 => rfl
    case c118 => simp [ptC]
    case c119 => exact nfz0 _ _
    rintro v L' rfl
    refine G.nil ?_
    refine G.ptCast (b := bT) (l' := ptC (⟨7, [], [], .slice none 0 0, [], 0, 0, 0, (.slice none 0 0)⟩ : Pt)) (by (repeat' constructor)) rfl ?_
    refine G.then_n (G.seq (G.region (G.q (Quiet.move rfl) rfl ?_)))
    refine G.op (OpSpec.call Tryz.func91 rfl rfl (vs := [_]) rfl (rclone_spec x τ 60 hinv.ok (by omega))) (by (repeat' constructor)) rfl ?nx123
    rintro v L' ⟨u, rfl, rfl⟩
    refine G.q (Quiet.assign rfl) rfl (G.nil (G.then_n (G.seq (G.seq (G.add (slR_nil 37 8) (G.add (p := aclsA []) aclsA_nil (G.region (G.q (Quiet.assign rfl) rfl (G.nil (G.then_n (G.block ?_)))))))))))
    refine G.rfCast (x := u) (τ' := (zxT (partsZ τ zx []).1 τ.zx)) (by (repeat' constructor)) (rfl) ?_
    refine G.loopK (ι := Nat × (List Pt) × Int × Value) (fun q E => (15, vint q.1) :: E) (fun q => [ptc bT (ptC (⟨7, [], [], .slice none 0 0, [], 0, 0, 0, q.2.2.2⟩ : Pt)) 37, refR u (zxT (partsZ τ zx q.2.1).1 q.2.2.1), slR 37 8 q.2.2.2 q.2.1.length (q.2.1.flatMap ptC), aclsA q.2.1]) (fun q => (q.1 ≤ ss.length ∧ q.1 ≤ 6 ∧ q.2.1.length ≤ q.1) ∧ PartsH τ zx q.2.1 K ∧ HInv (partsZ τ zx q.2.1).1 (K + q.2.1.length) ∧ (∀ y ∈ q.2.1, isCell y.aclV = true ∧ isCell y.subsV = true) ∧ ∃ a c, q.2.2.2 = .slice a q.2.1.length c) (fun q => ss.length - q.1) (0, [], τ.zx, .slice none 0 0) (ts := [0, 2, 4, 6, 13, 14]) (.cons rfl (.cons rfl (.cons rfl (.cons rfl (.cons rfl (.cons rfl (.nil))))))) (⟨⟨Nat.zero_le _, Nat.zero_le _, Nat.le_refl _⟩, (fun i hi => by simp at hi), hinv.more (by simp), (fun w hw => by cases hw), none, 0, rfl⟩) ⟨rfl, rfl, rfl, rfl, rfl, rfl, rfl, trivial⟩ (by (repeat' constructor)) ?_
    rintro ⟨i, acc, z, w⟩ ⟨⟨hi, hi6, hai⟩, hps, hiv, hcs, aw, cw, hw⟩
    dsimp only
    dsimp only at hi hi6 hai hps hiv hcs hw
    subst hw
    have hivz := hiv.zx z
    refine G.seq (G.seq (G.region (G.q (Quiet.move rfl) rfl (G.q (Quiet.fieldAddr rfl fo_94_4) rfl ?_))))
    refine G.q (Quiet.as (v' := .slice ab ss.length cb) (by exact eab) (Quiet.load rfl ag_22 (by (repeat' constructor)) (rfl))) rfl ?_
    refine G.q (Quiet.slen rfl Tryz.underlying22 rfl) rfl (G.q (Quiet.int rfl rfl rfl) rfl (G.q (Quiet.move rfl) rfl ?_))
    refine G.dec (t := 100) rfl (fun h20_100 => ?_) (fun h20_100 => ?_)
    ·refine G.kDT (t := 99) rfl h20_100 (G.grun (t := 100) rfl rfl rfl (G.q (Quiet.move rfl) rfl (G.grun (t := 100) rfl rfl rfl (G.q (Quiet.int rfl rfl rfl) rfl (G.q (Quiet.pickT rfl rfl) rfl (G.nil (G.then_n ?_)))))))
     refine G.condD rfl (fun h103 => ?_) (fun h103 => ?_)
     ·have hi2 : i < ss.length := by omega
      refine G.rdShape (p := q) hrd (by (repeat' constructor)) (by omega) fun bb ob e1 => ?_
      subst e1
      obtain ⟨hio, hdo⟩ := hsm.ok _ (List.getElem_mem hi2)
      refine G.skip (G.then_n (G.seq (G.block (G.seq (G.region (G.q (Quiet.move rfl) rfl (G.q (Quiet.fieldAddr rfl fo_94_4) rfl ?_)))))))
      refine G.q (Quiet.as (v' := .slice (some ⟨bb, ob, none⟩) ss.length cb) (by exact eab) (Quiet.load rfl ag_22 (by (repeat' constructor)) (rfl))) rfl ?_
      refine G.q (Quiet.move rfl) rfl ?_
      refine G.q (Quiet.indexAddr rfl rfl el_22 (by omega)) rfl ?_
      refine G.q (Quiet.loadRdA (sz := 5) (j := i * 5) (k := 5) (p := q) (vs := ac0C ss[i]) rfl ag_94 (by (repeat' constructor)) hrd (by simp) (by omega) (by omega) (flatMap_at (f := ac0C) (sz := 5) (fun _ _ => rfl) (by omega))) rfl ?_
      refine G.op (OpSpec.call Tryz.func92 rfl rfl (vs := [_, _, _]) rfl (part7_spec u (zxT (partsZ τ zx acc).1 z) ss[i] (K + acc.length) hivz (by omega) hio hdo)) (by (repeat' constructor)) rfl ?nx139
      rintro v L' ⟨y, b, rfl, hP, hB, rfl⟩
      refine G.q (Quiet.move rfl) rfl (G.q (Quiet.extract rfl rfl) rfl (G.q (Quiet.extract rfl rfl) rfl ?_))
      refine G.op (OpSpec.allocA ze_37) (by (repeat' constructor)) rfl ?nx143
      rintro v L' ⟨b16, rfl, rfl⟩
      refine G.op (OpSpec.storeA rfl rfl ?c145 sz_37 ?c148 ?c146 ?c147) (by (repeat' constructor)) rfl ?nx149
      case c145 => exact pt_cells hB.cell (by rw [hB.subs]; rfl)
      case c148 => rfl
      case c146 => simp [ptC]
      case c147 => exact nfz0 _ _
      rintro v L' rfl
      refine G.q (Quiet.assign rfl) rfl (G.nil ?_)
      refine G.ptCast (b := b16) (l' := ptC y) (by (repeat' constructor)) rfl ?_
      have htx : TxA (rdO 2 y.aclV y.acl.length (y.acl.flatMap acC)) y [] := ⟨⟨fun h hp => hp, by have := hB.acl; omega, by have := hB.path; omega, by rw [hB.subs]; rfl, hB.cell⟩, fun h _ => by rw [hB.subs]; exact rd_none 8 h, by simp, fun w hw => by cases hw⟩
      refine G.then_n (G.seq (G.region (G.q (Quiet.move rfl) rfl (G.q (Quiet.move rfl) rfl ?_))))
      refine G.bool (t := 117) rfl (fun h23_117 => ?_) (fun h23_117 => ?_)
      ·have hb1 : b = true := h23_117
       have hPH := (hP hb1).congr (υ := (partsZ τ zx acc).1) rfl (by rfl)
       refine G.kB (t := 115) rfl h23_117 (G.kB (t := 17) rfl h23_117 (G.kB (t := 116) rfl h23_117 (G.grun (t := 117) rfl rfl rfl (G.q (Quiet.move rfl) rfl (G.grun (t := 117) rfl rfl rfl (G.q (Quiet.move rfl) rfl (G.grun (t := 117) rfl rfl rfl ?_)))))))
       refine G.q (Quiet.loadAs (vs := ptC y) rfl ag_37 (by (repeat' constructor)) (by simp [ptC]) rfl) rfl ?_
       refine G.grun (t := 117) rfl rfl rfl ?_
       refine G.q (Quiet.buildN (pl := [(0, 1), (1, 1), (2, 1), (3, 8)]) (us := [(0, vint zx), (3, .agg (ptC y).toArray)]) (cells := [vint zx, vint 0, vint 0] ++ ptC y) Tryz.underlying39 (by kernel_rfl) ze_39 rfl (fill_entry _ _ _ _ _ _ _ _ _)) rfl ?_
       refine G.grun (t := 117) rfl rfl rfl ?_
       refine G.op (OpSpec.call Tryz.func45 rfl rfl (vs := [_, _]) rfl (rsound_spec u (zxT (partsZ τ zx acc).1 z) zx 0 0 y [] _ htx 60 hivz.ok (by simp))) (by (repeat' constructor)) rfl ?nx154
       rintro v L' ⟨rfl, rfl⟩
       refine G.q (Quiet.pickT rfl rfl) rfl (G.nil (G.then_n ?_))
       refine G.condB rfl (fun h123 => ?_) (fun h123 => ?_)
       ·have hsd : soundZ (partsZ τ zx acc).1 zx y [] = true := (sound_zx hPH.kind.2).symm.trans h123
        have hiv2 : HInv (partsZ τ zx (acc ++ [y])).1 (K + (acc ++ [y]).length) := by rw [parts_snoc, List.length_append]; exact (hiv.part' hsd hPH).more (by simp; omega)
        have hps2 := hps.snoc hPH
        refine G.seq (G.region (G.q (Quiet.fieldAddr rfl fo_37_7) rfl ?_))
        refine G.q (Quiet.load rfl ag_35 (by (repeat' constructor)) (rfl)) rfl ?_
        refine G.q (Quiet.loadAs (vs := ptC y) rfl ag_37 (by (repeat' constructor)) (by simp [ptC]) rfl) rfl ?_
        refine G.op (OpSpec.buildSlice (vs := [_]) el_35 ze_37 rfl rfl rfl rfl (by first | (simp [Value.cells]; done) | (intro v hv; simp only [List.mem_cons, List.not_mem_nil, or_false] at hv; (repeat (first | (subst hv; rfl) | (rcases hv with hv | hv; (subst hv; rfl)))))) (by decide)) (by (repeat' constructor)) rfl ?nx159
        rintro v L' ⟨b24, rfl, rfl⟩
        refine G.op (OpSpec.append1 rfl rfl rfl el_35 ze_37 rfl rfl ?c161 ?c162 (Nat.le_refl _) ?c163 (by decide)) (by (repeat' constructor)) rfl ?nx164
        case c161 => simp only [List.map_cons, List.map_nil, List.flatten_cons, List.flatten_nil, List.append_nil]; exact pt_cells hB.cell (by rw [hB.subs]; rfl)
        case c162 => rfl
        case c163 => first | omega | (simp; omega)
        rintro v L' ⟨⟨a24_4, c24_4, rfl⟩, rfl⟩
        refine G.q (Quiet.fieldAddr rfl fo_37_7) rfl ?_
        refine G.op (OpSpec.store rfl rfl rfl sz_35 ?c167 ?c168) (by (repeat' constructor)) rfl ?nx169
        case c167 => simp [ptC]
        case c168 => exact nfz0 _ _
        rintro v L' rfl
        refine G.nil ?_
        refine G.slCast (T := 37) (sz := 8) (m' := (acc ++ [y]).length) (xs' := (acc ++ [y]).flatMap ptC) (by (repeat' constructor)) (by rw [List.length_append]; rfl) (by rw [List.flatMap_append]; simp; rfl) ?_
        rw [show acc.length + 1 = (acc ++ [y]).length by rw [List.length_append]; rfl]
        refine G.then_n (G.region (G.q (Quiet.move rfl) rfl (G.q (Quiet.move rfl) rfl ?_)))
        refine G.q (Quiet.loadAs (vs := ptC y) rfl ag_37 (by (repeat' constructor)) (by simp [ptC]) rfl) rfl ?_
        refine G.q (Quiet.buildN (pl := [(0, 1), (1, 1), (2, 1), (3, 8)]) (us := [(0, vint zx), (3, .agg (ptC y).toArray)]) (cells := [vint zx, vint 0, vint 0] ++ ptC y) Tryz.underlying39 (by kernel_rfl) ze_39 rfl (fill_entry _ _ _ _ _ _ _ _ _)) rfl ?_
        refine G.op (OpSpec.call Tryz.func26 rfl rfl (vs := [_, _]) rfl (rapply_spec u (zxT (partsZ τ zx acc).1 z) zx 0 0 y [] _ htx 60 hivz.ok (by simp))) (by (repeat' constructor)) rfl ?nx174
        rintro v L' ⟨ue, ee, rfl, he, hue, rfl⟩
        refine G.nil ?_
        refine G.rfCast (x := u) (τ' := (zxT (partsZ τ zx (acc ++ [y])).1 zx)) (by (repeat' constructor)) (by have h1 := app_part (τ := (zxT (partsZ τ zx acc).1 z)) (e := ⟨zx, 0, 0, y, []⟩) (.inl hPH.kind.2); rw [parts_snoc]; dsimp only; rw [part_zx'] at h1; exact h1.symm) ?_
        refine G.fold (p := aclsA (acc ++ [y])) (by (repeat' constructor)) (fun _ hp => aclsA_snoc hp) ?_
        refine G.blk_n (G.then_n (G.region (G.q (Quiet.move rfl) rfl ?_)))
        refine G.q (Quiet.add rfl rfl (by omega)) rfl ?_
        refine G.q (Quiet.assign rfl) rfl (G.nil (G.then_n ?_))
        refine G.ptCast (b := bT) (l' := ptC (⟨7, [], [], .slice none 0 0, [], 0, 0, 0, (.slice a24_4 (acc ++ [y]).length c24_4)⟩ : Pt)) (by (repeat' constructor)) rfl ?_
        exact G.roundK ((i + 1, acc ++ [y], zx, .slice a24_4 (acc ++ [y]).length c24_4)) (⟨⟨by dsimp only; omega, by dsimp only; omega, by dsimp only; rw [List.length_append]; simp; omega⟩, hps2, hiv2, (fun w hw => by rcases List.mem_append.1 hw with hw | hw; exact hcs w hw; rw [List.mem_singleton] at hw; subst hw; exact ⟨hB.cell, by rw [hB.subs]; rfl⟩), _, _, rfl⟩) (by dsimp only; omega) ⟨rfl, rfl, rfl, rfl, rfl, rfl, rfl, trivial⟩ (by (repeat' constructor)) (by ((repeat (apply Have.cons; (repeat (first | exact Pick.here | apply Pick.there)))); apply Have.base; repeat' constructor))
       ·refine G.skip (G.blk_n (G.then_n (G.region (G.q (Quiet.move rfl) rfl ?_))))
        refine G.q (Quiet.add rfl rfl (by omega)) rfl ?_
        refine G.q (Quiet.assign rfl) rfl (G.nil (G.then_n ?_))
        exact G.roundK ((i + 1, acc, z, .slice aw acc.length cw)) (⟨⟨by dsimp only; omega, by dsimp only; omega, by dsimp only; omega⟩, hps, hiv, hcs, _, _, rfl⟩) (by dsimp only; omega) ⟨rfl, rfl, rfl, rfl, rfl, rfl, rfl, trivial⟩ (by (repeat' constructor)) (by ((repeat (apply Have.cons; (repeat (first | exact Pick.here | apply Pick.there)))); apply Have.base; repeat' constructor))
      ·refine G.kB (t := 115) rfl h23_117 (G.kB (t := 17) rfl h23_117 (G.kB (t := 116) rfl h23_117 (G.gskip (t := 117) rfl rfl rfl rfl (G.gskip (t := 117) rfl rfl rfl rfl (G.gskip (t := 117) rfl rfl rfl rfl (G.gskip (t := 117) rfl rfl rfl rfl (G.gskip (t := 117) rfl rfl rfl rfl (G.q (Quiet.pickF rfl rfl) rfl (G.nil (G.then_n (G.condF rfl (G.skip (G.blk_n (G.then_n (G.region (G.q (Quiet.move rfl) rfl ?_))))))))))))))))
       refine G.q (Quiet.add rfl rfl (by omega)) rfl ?_
       refine G.q (Quiet.assign rfl) rfl (G.nil (G.then_n ?_))
       exact G.roundK ((i + 1, acc, z, .slice aw acc.length cw)) (⟨⟨by dsimp only; omega, by dsimp only; omega, by dsimp only; omega⟩, hps, hiv, hcs, _, _, rfl⟩) (by dsimp only; omega) ⟨rfl, rfl, rfl, rfl, rfl, rfl, rfl, trivial⟩ (by (repeat' constructor)) (by ((repeat (apply Have.cons; (repeat (first | exact Pick.here | apply Pick.there)))); apply Have.base; repeat' constructor))
     ·refine G.exit (G.then_e (G.then_e (G.blk_e (G.then_n (G.seq (G.region ?_))))))
      refine G.q (Quiet.loadAs (vs := ptC (⟨7, [], [], .slice none 0 0, [], 0, 0, 0, (.slice aw acc.length cw)⟩ : Pt)) rfl ag_37 (by (repeat' constructor)) (by simp [ptC]) rfl) rfl ?_
      refine G.op (OpSpec.storeA rfl rfl ?c184 sz_37 ?c187 ?c185 ?c186) (by (repeat' constructor)) rfl ?nx188
      case c184 => exact pt_cells rfl rfl
      case c187 => rfl
      case c185 => simp [ptC]
      case c186 => exact nfz0 _ _
      rintro v L' rfl
      refine G.nil (G.then_n (G.ret (G.blk_r (G.then_r ?_))))
      refine G.ptCast (b := b6) (l' := ptC (⟨7, [], [], .slice none 0 0, [], 0, 0, 0, (.slice aw acc.length cw)⟩ : Pt)) (by (repeat' constructor)) rfl ?_
      refine G.fold (p := txRd (⟨7, [], [], .slice none 0 0, [], 0, 0, 0, (.slice aw acc.length cw)⟩ : Pt) acc) (by (repeat' constructor)) (fun _ hp => txRd_of (T := 37) (x := (⟨7, [], [], .slice none 0 0, [], 0, 0, 0, (.slice aw acc.length cw)⟩ : Pt)) rfl rfl hp) ?_
      exact G.done1 rfl (.cellA rfl ag_37 (by (repeat' constructor)) (by simp [ptC]) rfl) ⟨(⟨7, [], [], .slice none 0 0, [], 0, 0, 0, (.slice aw acc.length cw)⟩ : Pt), acc, rfl, .multi rfl hps rfl rfl (by omega) rfl, ⟨rfl, rfl, hcs⟩, rfl⟩ (by (repeat' constructor)) (by (repeat' constructor))
    ·refine G.kDF (t := 99) rfl h20_100 (G.gskip (t := 100) rfl rfl rfl rfl (G.gskip (t := 100) rfl rfl rfl rfl (G.q (Quiet.pickF rfl rfl) rfl (G.nil (G.then_n (G.condF rfl (G.exit (G.then_e (G.then_e (G.blk_e (G.then_n (G.seq (G.region ?_)))))))))))))
     refine G.q (Quiet.loadAs (vs := ptC (⟨7, [], [], .slice none 0 0, [], 0, 0, 0, (.slice aw acc.length cw)⟩ : Pt)) rfl ag_37 (by (repeat' constructor)) (by simp [ptC]) rfl) rfl ?_
     refine G.op (OpSpec.storeA rfl rfl ?c191 sz_37 ?c194 ?c192 ?c193) (by (repeat' constructor)) rfl ?nx195
     case c191 => exact pt_cells rfl rfl
     case c194 => rfl
     case c192 => simp [ptC]
     case c193 => exact nfz0 _ _
     rintro v L' rfl
     refine G.nil (G.then_n (G.ret (G.blk_r (G.then_r ?_))))
     refine G.ptCast (b := b6) (l' := ptC (⟨7, [], [], .slice none 0 0, [], 0, 0, 0, (.slice aw acc.length cw)⟩ : Pt)) (by (repeat' constructor)) rfl ?_
     refine G.fold (p := txRd (⟨7, [], [], .slice none 0 0, [], 0, 0, 0, (.slice aw acc.length cw)⟩ : Pt) acc) (by (repeat' constructor)) (fun _ hp => txRd_of (T := 37) (x := (⟨7, [], [], .slice none 0 0, [], 0, 0, 0, (.slice aw acc.length cw)⟩ : Pt)) rfl rfl hp) ?_
     exact G.done1 rfl (.cellA rfl ag_37 (by (repeat' constructor)) (by simp [ptC]) rfl) ⟨(⟨7, [], [], .slice none 0 0, [], 0, 0, 0, (.slice aw acc.length cw)⟩ : Pt), acc, rfl, .multi rfl hps rfl rfl (by omega) rfl, ⟨rfl, rfl, hcs⟩, rfl⟩ (by (repeat' constructor)) (by (repeat' constructor))
   ·refine G.seq (G.region (G.q (Quiet.int rfl rfl rfl) rfl (G.q (Quiet.assign rfl) rfl (G.nil (G.then_n ?_)))))
    refine G.condD rfl (fun h136 => ?_) (fun h136 => ?_)
    ·refine G.seq (G.region (G.q (Quiet.fieldAddr rfl fo_94_1) rfl ?_))
     refine G.q (Quiet.load rfl ag_3 (by (repeat' constructor)) (rfl)) rfl ?_
     refine G.op (OpSpec.call Tryz.func21 rfl rfl (vs := [_, _]) rfl (pick7_spec _ _ ha.h2 (by decide))) (by (repeat' constructor)) rfl ?nx199
     rintro v L' ⟨rfl, rfl⟩
     refine G.q (Quiet.to (v' := .agg (ptC (⟨8, [], [], .slice none 0 0, [], 0, -1, pickZ a.2.1 99, .slice none 0 0⟩ : Pt)).toArray) (Quiet.build (us := [(0, _), (6, _), (5, _)]) fl_37 ze_37 rfl rfl (by simp [isCell])) rfl) rfl ?_
     refine G.op (OpSpec.storeA rfl rfl ?c202 sz_37 ?c205 ?c203 ?c204) (by (repeat' constructor)) rfl ?nx206
     case c202 => exact pt_cells rfl rfl
     case c205 => rfl
     case c203 => simp [ptC]
     case c204 => exact nfz0 _ _
     rintro v L' rfl
     refine G.nil (G.then_n (G.ret (G.blk_r (G.then_r ?_))))
     refine G.ptCast (b := b6) (l' := ptC (⟨8, [], [], .slice none 0 0, [], 0, -1, pickZ a.2.1 99, .slice none 0 0⟩ : Pt)) (by (repeat' constructor)) rfl ?_
     refine G.add (p := txRd (⟨8, [], [], .slice none 0 0, [], 0, -1, pickZ a.2.1 99, .slice none 0 0⟩ : Pt) []) (txRd_none rfl rfl rfl) ?_
     exact G.done1 rfl (.cellA rfl ag_37 (by (repeat' constructor)) (by simp [ptC]) rfl) ⟨(⟨8, [], [], .slice none 0 0, [], 0, -1, pickZ a.2.1 99, .slice none 0 0⟩ : Pt), [], rfl, .error rfl rfl ⟨by show 0 ≤ pickZ a.2.1 99; omega, by show pickZ a.2.1 99 < 99; omega⟩ rfl rfl rfl rfl, ⟨rfl, rfl, (fun w hw => by cases hw)⟩, rfl⟩ (by (repeat' constructor)) (by (repeat' constructor))
    ·refine G.seq (G.region (G.q (Quiet.int rfl rfl rfl) rfl (G.q (Quiet.assign rfl) rfl (G.nil (G.then_n ?_)))))
     refine G.condD rfl (fun h142 => ?_) (fun h142 => ?_)
     ·refine G.seq (G.region ?_)
      refine G.q (Quiet.to (v' := .agg (ptC (⟨0, [], [], .slice none 0 0, [], 0, 0, 0, .slice none 0 0⟩ : Pt)).toArray) (Quiet.build (us := [(0, _)]) fl_37 ze_37 rfl rfl (by simp [isCell])) rfl) rfl ?_
      refine G.op (OpSpec.storeA rfl rfl ?c209 sz_37 ?c212 ?c210 ?c211) (by (repeat' constructor)) rfl ?nx213
      case c209 => exact pt_cells rfl rfl
      case c212 => rfl
      case c210 => simp [ptC]
      case c211 => exact nfz0 _ _
      rintro v L' rfl
      refine G.nil (G.then_n (G.ret (G.blk_r (G.then_r ?_))))
      refine G.ptCast (b := b6) (l' := ptC (⟨0, [], [], .slice none 0 0, [], 0, 0, 0, .slice none 0 0⟩ : Pt)) (by (repeat' constructor)) rfl ?_
      refine G.add (p := txRd (⟨0, [], [], .slice none 0 0, [], 0, 0, 0, .slice none 0 0⟩ : Pt) []) (txRd_none rfl rfl rfl) ?_
      exact G.done1 rfl (.cellA rfl ag_37 (by (repeat' constructor)) (by simp [ptC]) rfl) ⟨(⟨0, [], [], .slice none 0 0, [], 0, 0, 0, .slice none 0 0⟩ : Pt), [], rfl, .part rfl ⟨⟨by show (0 : Int) ≤ 0; decide, by show (0 : Int) ≤ 4; decide⟩, by simp, by simp, .inl rfl, .inl rfl, ⟨by show (0 : Int) ≤ 0; decide, by show (0 : Int) ≤ K + 1; have := hinv.zx0; omega⟩, rfl, (fun e => by cases e)⟩, ⟨rfl, rfl, (fun w hw => by cases hw)⟩, rfl⟩ (by (repeat' constructor)) (by (repeat' constructor))
     ·refine G.skip (G.blk_n (G.then_n (G.seq (G.region (G.q (Quiet.move rfl) rfl ?_)))))
      refine G.q (Quiet.loadAs (vs := ac0C a) rfl ag_94 (by (repeat' constructor)) (by simp [ac0C]) rfl) rfl ?_
      refine G.op (OpSpec.call Tryz.func92 rfl rfl (vs := [_, _, _]) rfl (part7_spec x τ a K hinv (by omega) ha hd)) (by (repeat' constructor)) rfl ?nx216
      rintro v L' ⟨y, b, rfl, hP, hB, rfl⟩
      refine G.q (Quiet.move rfl) rfl (G.q (Quiet.extract rfl rfl) rfl (G.q (Quiet.extract rfl rfl) rfl ?_))
      refine G.op (OpSpec.allocA ze_37) (by (repeat' constructor)) rfl ?nx220
      rintro v L' ⟨b18, rfl, rfl⟩
      refine G.op (OpSpec.storeA rfl rfl ?c222 sz_37 ?c225 ?c223 ?c224) (by (repeat' constructor)) rfl ?nx226
      case c222 => exact pt_cells hB.cell (by rw [hB.subs]; rfl)
      case c225 => rfl
      case c223 => simp [ptC]
      case c224 => exact nfz0 _ _
      rintro v L' rfl
      refine G.q (Quiet.assign rfl) rfl (G.nil ?_)
      refine G.ptCast (b := b18) (l' := ptC y) (by (repeat' constructor)) rfl ?_
      refine G.then_n (G.seq (G.seq (G.region (G.q (Quiet.move rfl) rfl (G.q (Quiet.not rfl) rfl (G.nil (G.then_n ?_)))))))
      refine G.condB rfl (fun h152 => ?_) (fun h152 => ?_)
      ·refine G.seq (G.region ?_)
       refine G.q (Quiet.to (v' := .agg (ptC (⟨0, [], [], .slice none 0 0, [], 0, 0, 0, .slice none 0 0⟩ : Pt)).toArray) (Quiet.build (us := []) fl_37 ze_37 rfl rfl (by simp [isCell])) rfl) rfl ?_
       refine G.op (OpSpec.storeA rfl rfl ?c229 sz_37 ?c232 ?c230 ?c231) (by (repeat' constructor)) rfl ?nx233
       case c229 => exact pt_cells rfl rfl
       case c232 => rfl
       case c230 => simp [ptC]
       case c231 => exact nfz0 _ _
       rintro v L' rfl
       refine G.nil (G.then_n (G.ret (G.then_r ?_)))
       refine G.ptCast (b := b6) (l' := ptC (⟨0, [], [], .slice none 0 0, [], 0, 0, 0, .slice none 0 0⟩ : Pt)) (by (repeat' constructor)) rfl ?_
       refine G.add (p := txRd (⟨0, [], [], .slice none 0 0, [], 0, 0, 0, .slice none 0 0⟩ : Pt) []) (txRd_none rfl rfl rfl) ?_
       exact G.done1 rfl (.cellA rfl ag_37 (by (repeat' constructor)) (by simp [ptC]) rfl) ⟨(⟨0, [], [], .slice none 0 0, [], 0, 0, 0, .slice none 0 0⟩ : Pt), [], rfl, .part rfl ⟨⟨by show (0 : Int) ≤ 0; decide, by show (0 : Int) ≤ 4; decide⟩, by simp, by simp, .inl rfl, .inl rfl, ⟨by show (0 : Int) ≤ 0; decide, by show (0 : Int) ≤ K + 1; have := hinv.zx0; omega⟩, rfl, (fun e => by cases e)⟩, ⟨rfl, rfl, (fun w hw => by cases hw)⟩, rfl⟩ (by (repeat' constructor)) (by (repeat' constructor))
      ·refine G.skip (G.then_n (G.seq (G.region ?_)))
       refine G.q (Quiet.loadAs (vs := ptC y) rfl ag_37 (by (repeat' constructor)) (by simp [ptC]) rfl) rfl ?_
       refine G.op (OpSpec.storeA rfl rfl ?c235 sz_37 ?c238 ?c236 ?c237) (by (repeat' constructor)) rfl ?nx239
       case c235 => exact pt_cells hB.cell (by rw [hB.subs]; rfl)
       case c238 => rfl
       case c236 => simp [ptC]
       case c237 => exact nfz0 _ _
       rintro v L' rfl
       refine G.nil (G.then_n (G.ret ?_))
       refine G.ptCast (b := b6) (l' := ptC y) (by (repeat' constructor)) rfl ?_
       refine G.fold (p := txRd y []) (L := _) (by (repeat' constructor)) (fun _ hp => txRd_one hB.subs hp) ?_
       exact G.done1 rfl (.cellA rfl ag_37 (by (repeat' constructor)) (by simp [ptC]) rfl) ⟨y, [], rfl, .part rfl (hP (by simpa using h152)), ⟨hB.cell, by rw [hB.subs]; rfl, (fun w hw => by cases hw)⟩, rfl⟩ (by (repeat' constructor)) (by (repeat' constructor))

theorem fill_entry4 (zx ss xi : Int) (s0 s1 s2 s3 s4 s5 s6 s7 : Value) : Instr.fill (fun i => [(0, 1), (1, 1), (2, 1), (3, 8)].toArray[i]?) ([.int .i64 0, .int .i64 0, .int .i64 0, .int .i64 0, .string (bs []), .string (bs []), .slice none 0 0, .int .i64 0, .int .i64 0, .int .i64 0, .slice none 0 0] : List Value).toArray [(0, vint zx), (1, vint ss), (2, vint xi), (3, .agg ([s0, s1, s2, s3, s4, s5, s6, s7] : List Value).toArray)] = some (([vint zx, vint ss, vint xi] ++ [s0, s1, s2, s3, s4, s5, s6, s7] : List Value).toArray) := by kernel_rfl
theorem en_cells {e : En} (h : TxC e.x e.subs) : ∀ v ∈ enC e, isCell v = true := by
  intro v hv
  unfold enC at hv
  rcases List.mem_append.1 hv with hv | hv
  · simp only [List.mem_cons, List.not_mem_nil, or_false] at hv
    rcases hv with rfl | rfl | rfl <;> rfl
  · exact pt_cells h.1 h.2.1 v hv
set_option maxHeartbeats 1000000 in
set_option maxRecDepth 100000 in
theorem history7_spec (v : Value) (xs : List Ac0) (z0 : Int) (p : HP) (hx : Acts1 p v xs) (hz : 0 ≤ z0 ∧ z0 ≤ 2199023255552) : Fn Tryz.prog 12 #[v, vint z0] [p] fun v L => ∃ (es : List En) (τ : Tr) (x : Nat) (u : Value), v = .tuple #[u, vptr x] ∧ Hist z0 es τ ∧ (es.length ≤ 150 ∧ ∃ a c, u = .slice a es.length c) ∧ L = [p, refR x τ, slR 39 11 u es.length (es.flatMap enC), ensA es] := by
 refine Fn.intro (vs := [v, vint z0]) Tryz.func12 rfl rfl ?_
 intro F W
 refine G.rdAny (p := p) hx.own.cells (by (repeat' constructor)) fun av cv ev0 _ => ?_
 subst ev0
 have hrd := hx.own.cells
 have hlen := hx.own.len
 refine G.seq (G.region (G.q (Quiet.assign rfl) rfl (G.q (Quiet.assign rfl) rfl (G.nil (G.then_n (G.seq (G.region ?_)))))))
 refine G.op (OpSpec.call Tryz.func25 rfl rfl (vs := []) rfl (rfnew_spec)) (by (repeat' constructor)) rfl ?nx3
 rintro v L' ⟨x, rfl, rfl⟩
 refine G.q (Quiet.assign rfl) rfl (G.nil (G.then_n (G.seq (G.add (slR_nil 39 11) ?_))))
 refine G.add (p := ensA []) (fun h e he => by cases he) ?_
 refine G.region (G.q (Quiet.assign rfl) rfl (G.nil (G.then_n (G.seq (G.seq (G.region (G.q (Quiet.assign rfl) rfl (G.nil (G.then_n (G.block ?_))))))))))
 refine G.loopK (ι := Nat × (List En) × Tr × Value) (fun q E => (8, vint q.1) :: (7, q.2.2.2) :: E) (fun q => [refR x q.2.2.1, slR 39 11 q.2.2.2 q.2.1.length (q.2.1.flatMap enC), ensA q.2.1]) (fun q => (q.1 ≤ xs.length ∧ q.1 ≤ 150 ∧ q.2.1.length ≤ q.1) ∧ Hist z0 q.2.1 q.2.2.1 ∧ ∃ a c, q.2.2.2 = .slice a q.2.1.length c) (fun q => xs.length - q.1) (0, [], newT, .slice none 0 0) (ts := [0, 1, 4, 5, 6]) (.cons rfl (.cons rfl (.cons rfl (.cons rfl (.cons rfl (.nil)))))) (⟨⟨Nat.zero_le _, Nat.zero_le _, Nat.le_refl _⟩, .nil, none, 0, rfl⟩) ⟨rfl, rfl, rfl, rfl, rfl, rfl, rfl, trivial⟩ (by (repeat' constructor)) ?_
 rintro ⟨i, es, τ, u⟩ ⟨⟨hi, hi150, hei⟩, hh, au, cu, hu⟩
 dsimp only
 dsimp only at hi hi150 hei hh hu
 subst hu
 have hinv := hh.inv
 have hfew := hinv.ok.few
 refine G.seq (G.seq (G.region (G.q (Quiet.move rfl) rfl (G.q (Quiet.move rfl) rfl (G.q (Quiet.slen rfl Tryz.underlying22 rfl) rfl (G.q (Quiet.int rfl rfl rfl) rfl (G.q (Quiet.move rfl) rfl ?_)))))))
 refine G.dec (t := 16) rfl (fun h4_16 => ?_) (fun h4_16 => ?_)
 ·refine G.kDT (t := 15) rfl h4_16 (G.grun (t := 16) rfl rfl rfl (G.q (Quiet.move rfl) rfl (G.grun (t := 16) rfl rfl rfl (G.q (Quiet.int rfl rfl rfl) rfl (G.q (Quiet.pickT rfl rfl) rfl (G.nil (G.then_n ?_)))))))
  refine G.condD rfl (fun h19 => ?_) (fun h19 => ?_)
  ·have hi2 : i < xs.length := by omega
   refine G.rdShape (p := p) hrd (by (repeat' constructor)) (by omega) fun bv ov e1 => ?_
   subst e1
   obtain ⟨hk1, hk2, hk3, hk4⟩ := hx.own.ok _ (List.getElem_mem hi2)
   obtain ⟨ss, hss, hcs⟩ := hx.subs _ (List.getElem_mem hi2)
   have hp9 := pickZ_range xs[i].2.1 (n := 9) (by decide)
   refine G.skip (G.then_n (G.seq (G.block (G.seq ?_))))
   refine G.draw [16, 21, 23, 24] [[0, 1, 2, 3, 4, 5, 6, 7, 8, 9, 10, 11, 12, 13, 14, 15, 17, 18, 19, 20, 16, 21, 22, 23], [24]] mixed (by kernel_rfl) ?_
   refine Phases.go [p] (by (repeat' constructor)) ?_
   refine D.q rfl (by kernel_rfl) (Quiet.move rfl) ?_
   refine D.q rfl (by kernel_rfl) (Quiet.move rfl) ?_
   refine D.q rfl (by kernel_rfl) (Quiet.slen rfl Tryz.underlying24 rfl) ?_
   refine D.q rfl (by kernel_rfl) (Quiet.add rfl rfl (by omega)) ?_
   refine D.q rfl (by kernel_rfl) (Quiet.move rfl) ?_
   refine D.q rfl (by kernel_rfl) (Quiet.move rfl) ?_
   refine D.q rfl (by kernel_rfl) (Quiet.indexAddr rfl rfl el_22 (by omega)) ?_
   refine D.q rfl (by kernel_rfl) (Quiet.fieldAddr rfl fo_94_1) ?_
   refine D.q rfl (by kernel_rfl) (Quiet.loadRd (sz := 5) (j := i * 5 + 1) (p := p) rfl ag_3 (by (repeat' constructor)) hrd (by omega) ((ac0_cell (l := xs) (i := i) (k := 1) (by omega) (by decide)).trans rfl)) ?_
   refine D.m rfl (by kernel_rfl) (OpSpec.call Tryz.func21 rfl rfl (vs := [_, _]) rfl (pick7_spec _ _ hk2 (by decide))) (by (repeat' constructor)) ?nx22
   refine D.q rfl (by kernel_rfl) (Quiet.move rfl) ?_
   refine D.q rfl (by kernel_rfl) (Quiet.move rfl) ?_
   refine D.q rfl (by kernel_rfl) (Quiet.move rfl) ?_
   refine D.q rfl (by kernel_rfl) (Quiet.move rfl) ?_
   refine D.q rfl (by kernel_rfl) (Quiet.indexAddr rfl rfl el_22 (by omega)) ?_
   refine D.q rfl (by kernel_rfl) (Quiet.loadRdA (sz := 5) (j := i * 5) (k := 5) (p := p) (vs := ac0C xs[i]) rfl ag_94 (by (repeat' constructor)) hrd (by simp) (by omega) (by omega) (flatMap_at (f := ac0C) (sz := 5) (fun _ _ => rfl) (by omega))) ?_
   refine D.q rfl (by kernel_rfl) (Quiet.move rfl) ?_
   refine D.q rfl (by kernel_rfl) (Quiet.move rfl) ?_
   refine D.q rfl (by kernel_rfl) (Quiet.slen rfl Tryz.underlying24 rfl) ?_
   refine D.q rfl (by kernel_rfl) (Quiet.add rfl rfl (by omega)) ?_
   refine D.h2R (k := 23) rfl rfl (by kernel_rfl) rfl (SpecR.ro [p] (OpSpec.call Tryz.func44 rfl rfl (vs := [_]) rfl (small7_ro xs[i] p ss hss hcs (by omega))) (by (repeat' constructor))) (by (repeat' constructor)) (SpecR.own (OpSpec.allocA ze_39)) (by (repeat' constructor)) ?nx34 ?nx35
   ·rintro v L' ⟨uv, us, rfl, hsm, rfl⟩
    refine D.h2 (k := 23) rfl rfl (by kernel_rfl) rfl (OpSpec.call Tryz.func43 rfl rfl (vs := [_, _, _]) rfl (txn7_spec x τ (xs[i].1, (xs[i].2.1, (xs[i].2.2.1, (xs[i].2.2.2.1.take 100, uv)))) _ us (z0 + es.length) (60 * es.length) hinv (by omega) ⟨hk1, hk2, hk3⟩ (by rw [List.length_take]; omega) (acts0_own hsm) hsm)) (by (repeat' constructor)) (OpSpec.allocA ze_39) (by (repeat' constructor)) ?nx37 ?nx38
    ·rintro v L' ⟨y, subs, rfl, hsh, hcc, rfl⟩
     refine D.q rfl (by kernel_rfl) (Quiet.buildN (pl := [(0, 1), (1, 1), (2, 1), (3, 8)]) (us := [(0, vint (z0 + es.length)), (1, vint (pickZ xs[i].2.1 9)), (2, vint i), (3, .agg (ptC y).toArray)]) (cells := enC (⟨z0 + es.length, pickZ xs[i].2.1 9, i, y, subs⟩ : En)) Tryz.underlying39 (by kernel_rfl) ze_39 rfl (fill_entry4 _ _ _ _ _ _ _ _ _ _ _)) ?_
     refine D.h rfl (by kernel_rfl) (OpSpec.allocA ze_39) (by (repeat' constructor)) ?nx41
     rintro v L' ⟨b9, rfl, rfl⟩
     refine D.ph ?_
     refine Phases.go [] (by (repeat' constructor)) ?_
     refine D.h rfl (by kernel_rfl) (OpSpec.storeA rfl rfl ?c43 sz_39 ?c46 ?c44 ?c45) (by (repeat' constructor)) ?nx47
     case c43 => exact en_cells (e := (⟨z0 + es.length, pickZ xs[i].2.1 9, i, y, subs⟩ : En)) hcc
     case c46 => rfl
     case c44 => simp [enC, ptC]
     case c45 => exact nfz0 _ _
     rintro v L' rfl
     refine D.ph (Phases.fin ?_)
     refine G.ptCast (b := b9) (l' := enC (⟨z0 + es.length, pickZ xs[i].2.1 9, i, y, subs⟩ : En)) (by (repeat' constructor)) rfl ?_
     have htx := ShapeH.tx (e := (⟨z0 + es.length, pickZ xs[i].2.1 9, i, y, subs⟩ : En)) hsh hcc (p := txRd y subs) (fun h hp => hp)
     have hfs := (ShapeH.sz (e := (⟨z0 + es.length, pickZ xs[i].2.1 9, i, y, subs⟩ : En)) hsh).few
     have hfs2 : subs.length ≤ 60 := hfs
     refine G.then_n (G.seq (G.region (G.q (Quiet.move rfl) rfl ?_)))
     refine G.q (Quiet.loadAs (vs := enC (⟨z0 + es.length, pickZ xs[i].2.1 9, i, y, subs⟩ : En)) rfl ag_39 (by (repeat' constructor)) (by simp [enC, ptC]) rfl) rfl ?_
     refine G.op (OpSpec.call Tryz.func45 rfl rfl (vs := [_, _]) rfl (rsound_spec x τ (z0 + es.length) (pickZ xs[i].2.1 9) i y subs _ htx 60 hinv.ok (by omega))) (by (repeat' constructor)) rfl ?nx50
     rintro v L' ⟨rfl, rfl⟩
     refine G.q (Quiet.assign rfl) rfl (G.nil (G.then_n (G.seq (G.seq ?_))))
     refine G.rfOpen (x := x) (τ := τ) (by (repeat' constructor)) fun an cn as1 cs l hl => ?_
     have hll := nds_len hl
     refine G.region (G.q (Quiet.move rfl) rfl (G.q (Quiet.not rfl) rfl (G.q (Quiet.move rfl) rfl ?_)))
     refine G.bool (t := 50) rfl (fun h8_50 => ?_) (fun h8_50 => ?_)
     ·refine G.kB (t := 49) rfl h8_50 (G.gskip (t := 50) rfl rfl rfl rfl (G.gskip (t := 50) rfl rfl rfl rfl (G.gskip (t := 50) rfl rfl rfl rfl (G.gskip (t := 50) rfl rfl rfl rfl (G.gskip (t := 50) rfl rfl rfl rfl (G.gskip (t := 50) rfl rfl rfl rfl (G.gskip (t := 50) rfl rfl rfl rfl (G.gskipU (t := 57) rfl rfl rfl (G.gskipU (t := 57) rfl rfl rfl (G.gskipU (t := 57) rfl rfl rfl (G.gskipU (t := 57) rfl rfl rfl (G.gskipU (t := 57) rfl rfl rfl (G.gskipU (t := 62) rfl rfl rfl (G.gskipU (t := 62) rfl rfl rfl (G.gskipU (t := 62) rfl rfl rfl (G.gskipU (t := 62) rfl rfl rfl (G.gskipU (t := 57) rfl rfl rfl (G.gskip (t := 50) rfl rfl rfl rfl (G.q (Quiet.pickT rfl rfl) rfl (G.nil ?_))))))))))))))))))))
      refine G.rfFold (x := x) (τ := τ) (l := l) hl (by (repeat' constructor)) rfl rfl rfl rfl rfl ?_
      refine G.then_n (G.condT rfl (G.exit (G.then_e (G.blk_e (G.then_n (G.region (G.q (Quiet.move rfl) rfl ?_)))))))
      refine G.q (Quiet.add rfl rfl (by omega)) rfl ?_
      refine G.q (Quiet.assign rfl) rfl (G.nil (G.then_n ?_))
      exact G.roundK ((i + 1, es, τ, .slice au es.length cu)) (⟨⟨by dsimp only; omega, by dsimp only; omega, by dsimp only; omega⟩, hh, _, _, rfl⟩) (by dsimp only; omega) ⟨rfl, rfl, rfl, rfl, rfl, rfl, rfl, trivial⟩ (by (repeat' constructor)) (by ((repeat (apply Have.cons; (repeat (first | exact Pick.here | apply Pick.there)))); apply Have.base; repeat' constructor))
     ·refine G.kB (t := 49) rfl h8_50 (G.grun (t := 50) rfl rfl rfl (G.q (Quiet.move rfl) rfl (G.grun (t := 50) rfl rfl rfl (G.q (Quiet.nilp rfl) rfl (G.grun (t := 50) rfl rfl rfl (G.q (Quiet.fieldAddr rfl fo_101_0) rfl (G.grun (t := 50) rfl rfl rfl ?_)))))))
      refine G.q (Quiet.load rfl ag_98 (by (repeat' constructor)) (rfl)) rfl ?_
      refine G.grun (t := 50) rfl rfl rfl (G.q (Quiet.slen rfl Tryz.underlying98 rfl) rfl (G.grun (t := 50) rfl rfl rfl ?_))
      refine G.q (Quiet.as (v' := .bool false) (by exact congrArg Value.bool (decide_eq_false (by omega))) (Quiet.int rfl rfl rfl)) rfl ?_
      refine G.grun (t := 50) rfl rfl rfl (G.q (Quiet.move rfl) rfl (G.gskip (t := 57) rfl rfl rfl rfl (G.gskip (t := 57) rfl rfl rfl rfl (G.gskip (t := 57) rfl rfl rfl rfl (G.gskip (t := 57) rfl rfl rfl rfl (G.gskip (t := 57) rfl rfl rfl rfl (G.gskipU (t := 62) rfl rfl rfl (G.gskipU (t := 62) rfl rfl rfl (G.gskipU (t := 62) rfl rfl rfl (G.gskipU (t := 62) rfl rfl rfl (G.gskip (t := 57) rfl rfl rfl rfl (G.grun (t := 50) rfl rfl rfl (G.q (Quiet.pickF rfl rfl) rfl (G.q (Quiet.pickF rfl rfl) rfl (G.nil ?_)))))))))))))))
      refine G.rfFold (x := x) (τ := τ) (l := l) hl (by (repeat' constructor)) rfl rfl rfl rfl rfl ?_
      refine G.then_n (G.condF rfl (G.skip (G.then_n (G.seq ?_))))
      have hsd : soundZ τ (z0 + es.length) y subs = true := by simpa using h8_50
      have hE : EntH τ (⟨z0 + es.length, pickZ xs[i].2.1 9, i, y, subs⟩ : En) (60 * es.length) := ⟨hsd, hsh, ⟨hp9.1, hp9.2⟩, hcc⟩
      refine G.region (G.q (Quiet.move rfl) rfl ?_)
      refine G.q (Quiet.loadAs (vs := enC (⟨z0 + es.length, pickZ xs[i].2.1 9, i, y, subs⟩ : En)) rfl ag_39 (by (repeat' constructor)) (by simp [enC, ptC]) rfl) rfl ?_
      refine G.op (OpSpec.call Tryz.func26 rfl rfl (vs := [_, _]) rfl (rapply_spec x τ (z0 + es.length) (pickZ xs[i].2.1 9) i y subs _ htx 60 hinv.ok (by omega))) (by (repeat' constructor)) rfl ?nx65
      rintro v L' ⟨ue, ee, rfl, he, hue, rfl⟩
      refine G.nil ?_
      refine G.rfCast (x := x) (τ' := (appE τ (⟨z0 + es.length, pickZ xs[i].2.1 9, i, y, subs⟩ : En))) (by (repeat' constructor)) (rfl) ?_
      refine G.fold (p := ensA (es ++ [(⟨z0 + es.length, pickZ xs[i].2.1 9, i, y, subs⟩ : En)])) (.cons (p := ensA es) (by (repeat' constructor)) (.cons (p := txRd y subs) (by (repeat' constructor)) .nil)) (fun _ hp => ensA_snoc hp) ?_
      refine G.then_n (G.region (G.q (Quiet.move rfl) rfl ?_))
      refine G.q (Quiet.loadAs (vs := enC (⟨z0 + es.length, pickZ xs[i].2.1 9, i, y, subs⟩ : En)) rfl ag_39 (by (repeat' constructor)) (by simp [enC, ptC]) rfl) rfl ?_
      refine G.op (OpSpec.buildSlice (vs := [_]) el_24 ze_39 rfl rfl rfl rfl (by first | (simp [Value.cells]; done) | (intro v hv; simp only [List.mem_cons, List.not_mem_nil, or_false] at hv; (repeat (first | (subst hv; rfl) | (rcases hv with hv | hv; (subst hv; rfl)))))) (by decide)) (by (repeat' constructor)) rfl ?nx69
      rintro v L' ⟨b10, rfl, rfl⟩
      refine G.op (OpSpec.append1 rfl rfl rfl el_24 ze_39 rfl rfl ?c71 ?c72 (Nat.le_refl _) ?c73 (by decide)) (by (repeat' constructor)) rfl ?nx74
      case c71 => simp only [List.map_cons, List.map_nil, List.flatten_cons, List.flatten_nil, List.append_nil]; exact en_cells (e := (⟨z0 + es.length, pickZ xs[i].2.1 9, i, y, subs⟩ : En)) hcc
      case c72 => rfl
      case c73 => first | omega | (simp; omega)
      rintro v L' ⟨⟨a10_3, c10_3, rfl⟩, rfl⟩
      refine G.q (Quiet.assign rfl) rfl (G.nil (G.blk_n (G.then_n (G.region (G.q (Quiet.move rfl) rfl ?_)))))
      refine G.q (Quiet.add rfl rfl (by omega)) rfl ?_
      refine G.q (Quiet.assign rfl) rfl (G.nil (G.then_n ?_))
      refine G.slCast (T := 39) (sz := 11) (m' := (es ++ [(⟨z0 + es.length, pickZ xs[i].2.1 9, i, y, subs⟩ : En)]).length) (xs' := (es ++ [(⟨z0 + es.length, pickZ xs[i].2.1 9, i, y, subs⟩ : En)]).flatMap enC) (by (repeat' constructor)) (by rw [List.length_append]; rfl) (by rw [List.flatMap_append]; simp; rfl) ?_
      exact G.roundK ((i + 1, es ++ [(⟨z0 + es.length, pickZ xs[i].2.1 9, i, y, subs⟩ : En)], appE τ (⟨z0 + es.length, pickZ xs[i].2.1 9, i, y, subs⟩ : En), .slice a10_3 (es.length + 1) c10_3)) (⟨⟨by dsimp only; omega, by dsimp only; omega, by dsimp only; rw [List.length_append]; simp; omega⟩, .snoc hh hE rfl ⟨by show (0 : Int) ≤ (i : Int); omega, by show (i : Int) < 150; omega⟩, _, _, by rw [List.length_append]; rfl⟩) (by dsimp only; omega) ⟨rfl, rfl, rfl, rfl, rfl, rfl, rfl, trivial⟩ (by (repeat' constructor)) (by ((repeat (apply Have.cons; (repeat (first | exact Pick.here | apply Pick.there)))); apply Have.base; repeat' constructor))
    ·rintro v L' ⟨b9, rfl, rfl⟩
     refine D.h rfl (by kernel_rfl) (OpSpec.call Tryz.func43 rfl rfl (vs := [_, _, _]) rfl (txn7_spec x τ (xs[i].1, (xs[i].2.1, (xs[i].2.2.1, (xs[i].2.2.2.1.take 100, uv)))) _ us (z0 + es.length) (60 * es.length) hinv (by omega) ⟨hk1, hk2, hk3⟩ (by rw [List.length_take]; omega) (acts0_own hsm) hsm)) (by (repeat' constructor)) ?nx79
     rintro v L' ⟨y, subs, rfl, hsh, hcc, rfl⟩
     refine D.qw [] rfl (by kernel_rfl) (Quiet.buildN (pl := [(0, 1), (1, 1), (2, 1), (3, 8)]) (us := [(0, vint (z0 + es.length)), (1, vint (pickZ xs[i].2.1 9)), (2, vint i), (3, .agg (ptC y).toArray)]) (cells := enC (⟨z0 + es.length, pickZ xs[i].2.1 9, i, y, subs⟩ : En)) Tryz.underlying39 (by kernel_rfl) ze_39 rfl (fill_entry4 _ _ _ _ _ _ _ _ _ _ _)) ?_
     refine D.ph ?_
     refine Phases.go [] (by (repeat' constructor)) ?_
     refine D.h rfl (by kernel_rfl) (OpSpec.storeA rfl rfl ?c82 sz_39 ?c85 ?c83 ?c84) (by (repeat' constructor)) ?nx86
     case c82 => exact en_cells (e := (⟨z0 + es.length, pickZ xs[i].2.1 9, i, y, subs⟩ : En)) hcc
     case c85 => rfl
     case c83 => simp [enC, ptC]
     case c84 => exact nfz0 _ _
     rintro v L' rfl
     refine D.ph (Phases.fin ?_)
     refine G.ptCast (b := b9) (l' := enC (⟨z0 + es.length, pickZ xs[i].2.1 9, i, y, subs⟩ : En)) (by (repeat' constructor)) rfl ?_
     have htx := ShapeH.tx (e := (⟨z0 + es.length, pickZ xs[i].2.1 9, i, y, subs⟩ : En)) hsh hcc (p := txRd y subs) (fun h hp => hp)
     have hfs := (ShapeH.sz (e := (⟨z0 + es.length, pickZ xs[i].2.1 9, i, y, subs⟩ : En)) hsh).few
     have hfs2 : subs.length ≤ 60 := hfs
     refine G.then_n (G.seq (G.region (G.q (Quiet.move rfl) rfl ?_)))
     refine G.q (Quiet.loadAs (vs := enC (⟨z0 + es.length, pickZ xs[i].2.1 9, i, y, subs⟩ : En)) rfl ag_39 (by (repeat' constructor)) (by simp [enC, ptC]) rfl) rfl ?_
     refine G.op (OpSpec.call Tryz.func45 rfl rfl (vs := [_, _]) rfl (rsound_spec x τ (z0 + es.length) (pickZ xs[i].2.1 9) i y subs _ htx 60 hinv.ok (by omega))) (by (repeat' constructor)) rfl ?nx89
     rintro v L' ⟨rfl, rfl⟩
     refine G.q (Quiet.assign rfl) rfl (G.nil (G.then_n (G.seq (G.seq ?_))))
     refine G.rfOpen (x := x) (τ := τ) (by (repeat' constructor)) fun an cn as1 cs l hl => ?_
     have hll := nds_len hl
     refine G.region (G.q (Quiet.move rfl) rfl (G.q (Quiet.not rfl) rfl (G.q (Quiet.move rfl) rfl ?_)))
     refine G.bool (t := 50) rfl (fun h8_50 => ?_) (fun h8_50 => ?_)
     ·refine G.kB (t := 49) rfl h8_50 (G.gskip (t := 50) rfl rfl rfl rfl (G.gskip (t := 50) rfl rfl rfl rfl (G.gskip (t := 50) rfl rfl rfl rfl (G.gskip (t := 50) rfl rfl rfl rfl (G.gskip (t := 50) rfl rfl rfl rfl (G.gskip (t := 50) rfl rfl rfl rfl (G.gskip (t := 50) rfl rfl rfl rfl (G.gskipU (t := 57) rfl rfl rfl (G.gskipU (t := 57) rfl rfl rfl (G.gskipU (t := 57) rfl rfl rfl (G.gskipU (t := 57) rfl rfl rfl (G.gskipU (t := 57) rfl rfl rfl (G.gskipU (t := 62) rfl rfl rfl (G.gskipU (t := 62) rfl rfl rfl (G.gskipU (t := 62) rfl rfl rfl (G.gskipU (t := 62) rfl rfl rfl (G.gskipU (t := 57) rfl rfl rfl (G.gskip (t := 50) rfl rfl rfl rfl (G.q (Quiet.pickT rfl rfl) rfl (G.nil ?_))))))))))))))))))))
      refine G.rfFold (x := x) (τ := τ) (l := l) hl (by (repeat' constructor)) rfl rfl rfl rfl rfl ?_
      refine G.then_n (G.condT rfl (G.exit (G.then_e (G.blk_e (G.then_n (G.region (G.q (Quiet.move rfl) rfl ?_)))))))
      refine G.q (Quiet.add rfl rfl (by omega)) rfl ?_
      refine G.q (Quiet.assign rfl) rfl (G.nil (G.then_n ?_))
      exact G.roundK ((i + 1, es, τ, .slice au es.length cu)) (⟨⟨by dsimp only; omega, by dsimp only; omega, by dsimp only; omega⟩, hh, _, _, rfl⟩) (by dsimp only; omega) ⟨rfl, rfl, rfl, rfl, rfl, rfl, rfl, trivial⟩ (by (repeat' constructor)) (by ((repeat (apply Have.cons; (repeat (first | exact Pick.here | apply Pick.there)))); apply Have.base; repeat' constructor))
     ·refine G.kB (t := 49) rfl h8_50 (G.grun (t := 50) rfl rfl rfl (G.q (Quiet.move rfl) rfl (G.grun (t := 50) rfl rfl rfl (G.q (Quiet.nilp rfl) rfl (G.grun (t := 50) rfl rfl rfl (G.q (Quiet.fieldAddr rfl fo_101_0) rfl (G.grun (t := 50) rfl rfl rfl ?_)))))))
      refine G.q (Quiet.load rfl ag_98 (by (repeat' constructor)) (rfl)) rfl ?_
      refine G.grun (t := 50) rfl rfl rfl (G.q (Quiet.slen rfl Tryz.underlying98 rfl) rfl (G.grun (t := 50) rfl rfl rfl ?_))
      refine G.q (Quiet.as (v' := .bool false) (by exact congrArg Value.bool (decide_eq_false (by omega))) (Quiet.int rfl rfl rfl)) rfl ?_
      refine G.grun (t := 50) rfl rfl rfl (G.q (Quiet.move rfl) rfl (G.gskip (t := 57) rfl rfl rfl rfl (G.gskip (t := 57) rfl rfl rfl rfl (G.gskip (t := 57) rfl rfl rfl rfl (G.gskip (t := 57) rfl rfl rfl rfl (G.gskip (t := 57) rfl rfl rfl rfl (G.gskipU (t := 62) rfl rfl rfl (G.gskipU (t := 62) rfl rfl rfl (G.gskipU (t := 62) rfl rfl rfl (G.gskipU (t := 62) rfl rfl rfl (G.gskip (t := 57) rfl rfl rfl rfl (G.grun (t := 50) rfl rfl rfl (G.q (Quiet.pickF rfl rfl) rfl (G.q (Quiet.pickF rfl rfl) rfl (G.nil ?_)))))))))))))))
      refine G.rfFold (x := x) (τ := τ) (l := l) hl (by (repeat' constructor)) rfl rfl rfl rfl rfl ?_
      refine G.then_n (G.condF rfl (G.skip (G.then_n (G.seq ?_))))
      have hsd : soundZ τ (z0 + es.length) y subs = true := by simpa using h8_50
      have hE : EntH τ (⟨z0 + es.length, pickZ xs[i].2.1 9, i, y, subs⟩ : En) (60 * es.length) := ⟨hsd, hsh, ⟨hp9.1, hp9.2⟩, hcc⟩
      refine G.region (G.q (Quiet.move rfl) rfl ?_)
      refine G.q (Quiet.loadAs (vs := enC (⟨z0 + es.length, pickZ xs[i].2.1 9, i, y, subs⟩ : En)) rfl ag_39 (by (repeat' constructor)) (by simp [enC, ptC]) rfl) rfl ?_
      refine G.op (OpSpec.call Tryz.func26 rfl rfl (vs := [_, _]) rfl (rapply_spec x τ (z0 + es.length) (pickZ xs[i].2.1 9) i y subs _ htx 60 hinv.ok (by omega))) (by (repeat' constructor)) rfl ?nx104
      rintro v L' ⟨ue, ee, rfl, he, hue, rfl⟩
      refine G.nil ?_
      refine G.rfCast (x := x) (τ' := (appE τ (⟨z0 + es.length, pickZ xs[i].2.1 9, i, y, subs⟩ : En))) (by (repeat' constructor)) (rfl) ?_
      refine G.fold (p := ensA (es ++ [(⟨z0 + es.length, pickZ xs[i].2.1 9, i, y, subs⟩ : En)])) (.cons (p := ensA es) (by (repeat' constructor)) (.cons (p := txRd y subs) (by (repeat' constructor)) .nil)) (fun _ hp => ensA_snoc hp) ?_
      refine G.then_n (G.region (G.q (Quiet.move rfl) rfl ?_))
      refine G.q (Quiet.loadAs (vs := enC (⟨z0 + es.length, pickZ xs[i].2.1 9, i, y, subs⟩ : En)) rfl ag_39 (by (repeat' constructor)) (by simp [enC, ptC]) rfl) rfl ?_
      refine G.op (OpSpec.buildSlice (vs := [_]) el_24 ze_39 rfl rfl rfl rfl (by first | (simp [Value.cells]; done) | (intro v hv; simp only [List.mem_cons, List.not_mem_nil, or_false] at hv; (repeat (first | (subst hv; rfl) | (rcases hv with hv | hv; (subst hv; rfl)))))) (by decide)) (by (repeat' constructor)) rfl ?nx108
      rintro v L' ⟨b10, rfl, rfl⟩
      refine G.op (OpSpec.append1 rfl rfl rfl el_24 ze_39 rfl rfl ?c110 ?c111 (Nat.le_refl _) ?c112 (by decide)) (by (repeat' constructor)) rfl ?nx113
      case c110 => simp only [List.map_cons, List.map_nil, List.flatten_cons, List.flatten_nil, List.append_nil]; exact en_cells (e := (⟨z0 + es.length, pickZ xs[i].2.1 9, i, y, subs⟩ : En)) hcc
      case c111 => rfl
      case c112 => first | omega | (simp; omega)
      rintro v L' ⟨⟨a10_3, c10_3, rfl⟩, rfl⟩
      refine G.q (Quiet.assign rfl) rfl (G.nil (G.blk_n (G.then_n (G.region (G.q (Quiet.move rfl) rfl ?_)))))
      refine G.q (Quiet.add rfl rfl (by omega)) rfl ?_
      refine G.q (Quiet.assign rfl) rfl (G.nil (G.then_n ?_))
      refine G.slCast (T := 39) (sz := 11) (m' := (es ++ [(⟨z0 + es.length, pickZ xs[i].2.1 9, i, y, subs⟩ : En)]).length) (xs' := (es ++ [(⟨z0 + es.length, pickZ xs[i].2.1 9, i, y, subs⟩ : En)]).flatMap enC) (by (repeat' constructor)) (by rw [List.length_append]; rfl) (by rw [List.flatMap_append]; simp; rfl) ?_
      exact G.roundK ((i + 1, es ++ [(⟨z0 + es.length, pickZ xs[i].2.1 9, i, y, subs⟩ : En)], appE τ (⟨z0 + es.length, pickZ xs[i].2.1 9, i, y, subs⟩ : En), .slice a10_3 (es.length + 1) c10_3)) (⟨⟨by dsimp only; omega, by dsimp only; omega, by dsimp only; rw [List.length_append]; simp; omega⟩, .snoc hh hE rfl ⟨by show (0 : Int) ≤ (i : Int); omega, by show (i : Int) < 150; omega⟩, _, _, by rw [List.length_append]; rfl⟩) (by dsimp only; omega) ⟨rfl, rfl, rfl, rfl, rfl, rfl, rfl, trivial⟩ (by (repeat' constructor)) (by ((repeat (apply Have.cons; (repeat (first | exact Pick.here | apply Pick.there)))); apply Have.base; repeat' constructor))
   ·rintro v L' ⟨b9, rfl, rfl⟩
    refine D.hR rfl (by kernel_rfl) (SpecR.ro [p] (OpSpec.call Tryz.func44 rfl rfl (vs := [_]) rfl (small7_ro xs[i] p ss hss hcs (by omega))) (by (repeat' constructor))) (by (repeat' constructor)) ?nx118
    rintro v L' ⟨uv, us, rfl, hsm, rfl⟩
    refine D.h rfl (by kernel_rfl) (OpSpec.call Tryz.func43 rfl rfl (vs := [_, _, _]) rfl (txn7_spec x τ (xs[i].1, (xs[i].2.1, (xs[i].2.2.1, (xs[i].2.2.2.1.take 100, uv)))) _ us (z0 + es.length) (60 * es.length) hinv (by omega) ⟨hk1, hk2, hk3⟩ (by rw [List.length_take]; omega) (acts0_own hsm) hsm)) (by (repeat' constructor)) ?nx120
    rintro v L' ⟨y, subs, rfl, hsh, hcc, rfl⟩
    refine D.qw [] rfl (by kernel_rfl) (Quiet.buildN (pl := [(0, 1), (1, 1), (2, 1), (3, 8)]) (us := [(0, vint (z0 + es.length)), (1, vint (pickZ xs[i].2.1 9)), (2, vint i), (3, .agg (ptC y).toArray)]) (cells := enC (⟨z0 + es.length, pickZ xs[i].2.1 9, i, y, subs⟩ : En)) Tryz.underlying39 (by kernel_rfl) ze_39 rfl (fill_entry4 _ _ _ _ _ _ _ _ _ _ _)) ?_
    refine D.ph ?_
    refine Phases.go [] (by (repeat' constructor)) ?_
    refine D.h rfl (by kernel_rfl) (OpSpec.storeA rfl rfl ?c123 sz_39 ?c126 ?c124 ?c125) (by (repeat' constructor)) ?nx127
    case c123 => exact en_cells (e := (⟨z0 + es.length, pickZ xs[i].2.1 9, i, y, subs⟩ : En)) hcc
    case c126 => rfl
    case c124 => simp [enC, ptC]
    case c125 => exact nfz0 _ _
    rintro v L' rfl
    refine D.ph (Phases.fin ?_)
    refine G.ptCast (b := b9) (l' := enC (⟨z0 + es.length, pickZ xs[i].2.1 9, i, y, subs⟩ : En)) (by (repeat' constructor)) rfl ?_
    have htx := ShapeH.tx (e := (⟨z0 + es.length, pickZ xs[i].2.1 9, i, y, subs⟩ : En)) hsh hcc (p := txRd y subs) (fun h hp => hp)
    have hfs := (ShapeH.sz (e := (⟨z0 + es.length, pickZ xs[i].2.1 9, i, y, subs⟩ : En)) hsh).few
    have hfs2 : subs.length ≤ 60 := hfs
    refine G.then_n (G.seq (G.region (G.q (Quiet.move rfl) rfl ?_)))
    refine G.q (Quiet.loadAs (vs := enC (⟨z0 + es.length, pickZ xs[i].2.1 9, i, y, subs⟩ : En)) rfl ag_39 (by (repeat' constructor)) (by simp [enC, ptC]) rfl) rfl ?_
    refine G.op (OpSpec.call Tryz.func45 rfl rfl (vs := [_, _]) rfl (rsound_spec x τ (z0 + es.length) (pickZ xs[i].2.1 9) i y subs _ htx 60 hinv.ok (by omega))) (by (repeat' constructor)) rfl ?nx130
    rintro v L' ⟨rfl, rfl⟩
    refine G.q (Quiet.assign rfl) rfl (G.nil (G.then_n (G.seq (G.seq ?_))))
    refine G.rfOpen (x := x) (τ := τ) (by (repeat' constructor)) fun an cn as1 cs l hl => ?_
    have hll := nds_len hl
    refine G.region (G.q (Quiet.move rfl) rfl (G.q (Quiet.not rfl) rfl (G.q (Quiet.move rfl) rfl ?_)))
    refine G.bool (t := 50) rfl (fun h8_50 => ?_) (fun h8_50 => ?_)
    ·refine G.kB (t := 49) rfl h8_50 (G.gskip (t := 50) rfl rfl rfl rfl (G.gskip (t := 50) rfl rfl rfl rfl (G.gskip (t := 50) rfl rfl rfl rfl (G.gskip (t := 50) rfl rfl rfl rfl (G.gskip (t := 50) rfl rfl rfl rfl (G.gskip (t := 50) rfl rfl rfl rfl (G.gskip (t := 50) rfl rfl rfl rfl (G.gskipU (t := 57) rfl rfl rfl (G.gskipU (t := 57) rfl rfl rfl (G.gskipU (t := 57) rfl rfl rfl (G.gskipU (t := 57) rfl rfl rfl (G.gskipU (t := 57) rfl rfl rfl (G.gskipU (t := 62) rfl rfl rfl (G.gskipU (t := 62) rfl rfl rfl (G.gskipU (t := 62) rfl rfl rfl (G.gskipU (t := 62) rfl rfl rfl (G.gskipU (t := 57) rfl rfl rfl (G.gskip (t := 50) rfl rfl rfl rfl (G.q (Quiet.pickT rfl rfl) rfl (G.nil ?_))))))))))))))))))))
     refine G.rfFold (x := x) (τ := τ) (l := l) hl (by (repeat' constructor)) rfl rfl rfl rfl rfl ?_
     refine G.then_n (G.condT rfl (G.exit (G.then_e (G.blk_e (G.then_n (G.region (G.q (Quiet.move rfl) rfl ?_)))))))
     refine G.q (Quiet.add rfl rfl (by omega)) rfl ?_
     refine G.q (Quiet.assign rfl) rfl (G.nil (G.then_n ?_))
     exact G.roundK ((i + 1, es, τ, .slice au es.length cu)) (⟨⟨by dsimp only; omega, by dsimp only; omega, by dsimp only; omega⟩, hh, _, _, rfl⟩) (by dsimp only; omega) ⟨rfl, rfl, rfl, rfl, rfl, rfl, rfl, trivial⟩ (by (repeat' constructor)) (by ((repeat (apply Have.cons; (repeat (first | exact Pick.here | apply Pick.there)))); apply Have.base; repeat' constructor))
    ·refine G.kB (t := 49) rfl h8_50 (G.grun (t := 50) rfl rfl rfl (G.q (Quiet.move rfl) rfl (G.grun (t := 50) rfl rfl rfl (G.q (Quiet.nilp rfl) rfl (G.grun (t := 50) rfl rfl rfl (G.q (Quiet.fieldAddr rfl fo_101_0) rfl (G.grun (t := 50) rfl rfl rfl ?_)))))))
     refine G.q (Quiet.load rfl ag_98 (by (repeat' constructor)) (rfl)) rfl ?_
     refine G.grun (t := 50) rfl rfl rfl (G.q (Quiet.slen rfl Tryz.underlying98 rfl) rfl (G.grun (t := 50) rfl rfl rfl ?_))
     refine G.q (Quiet.as (v' := .bool false) (by exact congrArg Value.bool (decide_eq_false (by omega))) (Quiet.int rfl rfl rfl)) rfl ?_
     refine G.grun (t := 50) rfl rfl rfl (G.q (Quiet.move rfl) rfl (G.gskip (t := 57) rfl rfl rfl rfl (G.gskip (t := 57) rfl rfl rfl rfl (G.gskip (t := 57) rfl rfl rfl rfl (G.gskip (t := 57) rfl rfl rfl rfl (G.gskip (t := 57) rfl rfl rfl rfl (G.gskipU (t := 62) rfl rfl rfl (G.gskipU (t := 62) rfl rfl rfl (G.gskipU (t := 62) rfl rfl rfl (G.gskipU (t := 62) rfl rfl rfl (G.gskip (t := 57) rfl rfl rfl rfl (G.grun (t := 50) rfl rfl rfl (G.q (Quiet.pickF rfl rfl) rfl (G.q (Quiet.pickF rfl rfl) rfl (G.nil ?_)))))))))))))))
     refine G.rfFold (x := x) (τ := τ) (l := l) hl (by (repeat' constructor)) rfl rfl rfl rfl rfl ?_
     refine G.then_n (G.condF rfl (G.skip (G.then_n (G.seq ?_))))
     have hsd : soundZ τ (z0 + es.length) y subs = true := by simpa using h8_50
     have hE : EntH τ (⟨z0 + es.length, pickZ xs[i].2.1 9, i, y, subs⟩ : En) (60 * es.length) := ⟨hsd, hsh, ⟨hp9.1, hp9.2⟩, hcc⟩
     refine G.region (G.q (Quiet.move rfl) rfl ?_)
     refine G.q (Quiet.loadAs (vs := enC (⟨z0 + es.length, pickZ xs[i].2.1 9, i, y, subs⟩ : En)) rfl ag_39 (by (repeat' constructor)) (by simp [enC, ptC]) rfl) rfl ?_
     refine G.op (OpSpec.call Tryz.func26 rfl rfl (vs := [_, _]) rfl (rapply_spec x τ (z0 + es.length) (pickZ xs[i].2.1 9) i y subs _ htx 60 hinv.ok (by omega))) (by (repeat' constructor)) rfl ?nx145
     rintro v L' ⟨ue, ee, rfl, he, hue, rfl⟩
     refine G.nil ?_
     refine G.rfCast (x := x) (τ' := (appE τ (⟨z0 + es.length, pickZ xs[i].2.1 9, i, y, subs⟩ : En))) (by (repeat' constructor)) (rfl) ?_
     refine G.fold (p := ensA (es ++ [(⟨z0 + es.length, pickZ xs[i].2.1 9, i, y, subs⟩ : En)])) (.cons (p := ensA es) (by (repeat' constructor)) (.cons (p := txRd y subs) (by (repeat' constructor)) .nil)) (fun _ hp => ensA_snoc hp) ?_
     refine G.then_n (G.region (G.q (Quiet.move rfl) rfl ?_))
     refine G.q (Quiet.loadAs (vs := enC (⟨z0 + es.length, pickZ xs[i].2.1 9, i, y, subs⟩ : En)) rfl ag_39 (by (repeat' constructor)) (by simp [enC, ptC]) rfl) rfl ?_
     refine G.op (OpSpec.buildSlice (vs := [_]) el_24 ze_39 rfl rfl rfl rfl (by first | (simp [Value.cells]; done) | (intro v hv; simp only [List.mem_cons, List.not_mem_nil, or_false] at hv; (repeat (first | (subst hv; rfl) | (rcases hv with hv | hv; (subst hv; rfl)))))) (by decide)) (by (repeat' constructor)) rfl ?nx149
     rintro v L' ⟨b10, rfl, rfl⟩
     refine G.op (OpSpec.append1 rfl rfl rfl el_24 ze_39 rfl rfl ?c151 ?c152 (Nat.le_refl _) ?c153 (by decide)) (by (repeat' constructor)) rfl ?nx154
     case c151 => simp only [List.map_cons, List.map_nil, List.flatten_cons, List.flatten_nil, List.append_nil]; exact en_cells (e := (⟨z0 + es.length, pickZ xs[i].2.1 9, i, y, subs⟩ : En)) hcc
     case c152 => rfl
     case c153 => first | omega | (simp; omega)
     rintro v L' ⟨⟨a10_3, c10_3, rfl⟩, rfl⟩
     refine G.q (Quiet.assign rfl) rfl (G.nil (G.blk_n (G.then_n (G.region (G.q (Quiet.move rfl) rfl ?_)))))
     refine G.q (Quiet.add rfl rfl (by omega)) rfl ?_
     refine G.q (Quiet.assign rfl) rfl (G.nil (G.then_n ?_))
     refine G.slCast (T := 39) (sz := 11) (m' := (es ++ [(⟨z0 + es.length, pickZ xs[i].2.1 9, i, y, subs⟩ : En)]).length) (xs' := (es ++ [(⟨z0 + es.length, pickZ xs[i].2.1 9, i, y, subs⟩ : En)]).flatMap enC) (by (repeat' constructor)) (by rw [List.length_append]; rfl) (by rw [List.flatMap_append]; simp; rfl) ?_
     exact G.roundK ((i + 1, es ++ [(⟨z0 + es.length, pickZ xs[i].2.1 9, i, y, subs⟩ : En)], appE τ (⟨z0 + es.length, pickZ xs[i].2.1 9, i, y, subs⟩ : En), .slice a10_3 (es.length + 1) c10_3)) (⟨⟨by dsimp only; omega, by dsimp only; omega, by dsimp only; rw [List.length_append]; simp; omega⟩, .snoc hh hE rfl ⟨by show (0 : Int) ≤ (i : Int); omega, by show (i : Int) < 150; omega⟩, _, _, by rw [List.length_append]; rfl⟩) (by dsimp only; omega) ⟨rfl, rfl, rfl, rfl, rfl, rfl, rfl, trivial⟩ (by (repeat' constructor)) (by ((repeat (apply Have.cons; (repeat (first | exact Pick.here | apply Pick.there)))); apply Have.base; repeat' constructor))
  ·refine G.exit (G.then_e (G.then_e (G.blk_e (G.then_n (G.seq (G.region (G.q (Quiet.move rfl) rfl (G.q (Quiet.move rfl) rfl (G.q (Quiet.assign rfl) rfl (G.q (Quiet.assign rfl) rfl (G.nil (G.then_n (G.ret ?_)))))))))))))
   exact G.done (l := [.tmp 4, .tmp 5]) rfl rfl ⟨es, τ, x, _, rfl, hh, ⟨by omega, _, _, rfl⟩, rfl⟩ (by (repeat' constructor)) (by (repeat' constructor))
 ·refine G.kDF (t := 15) rfl h4_16 (G.gskip (t := 16) rfl rfl rfl rfl (G.gskip (t := 16) rfl rfl rfl rfl (G.q (Quiet.pickF rfl rfl) rfl (G.nil (G.then_n (G.condF rfl (G.exit (G.then_e (G.then_e (G.blk_e (G.then_n (G.seq (G.region (G.q (Quiet.move rfl) rfl (G.q (Quiet.move rfl) rfl (G.q (Quiet.assign rfl) rfl (G.q (Quiet.assign rfl) rfl (G.nil (G.then_n (G.ret ?_))))))))))))))))))))
  exact G.done (l := [.tmp 4, .tmp 5]) rfl rfl ⟨es, τ, x, _, rfl, hh, ⟨by omega, _, _, rfl⟩, rfl⟩ (by (repeat' constructor)) (by (repeat' constructor))

end Go.Proofs.YtnnbelmpbmfdnaaGreatDoor

/- Own work, by program: package tree: Owned, Session, Kids: walked. -/

namespace Go.Proofs.YtnnbelmpbmfdnaaGreatDoor
open Go
def ownK (l : List (Bs × Nd)) (s : Int) : List Bs := (l.filter fun y => !decide (s = 0) && decide (y.2.st.own = s)).map (·.1)
def sesD (τ : Tr) (id : Int) : Int × Bs := (alook τ.sess id).getD (0, [])
def sesT (τ : Tr) (id : Int) : Prop := (alook τ.sess id).isSome = true
instance (τ : Tr) (id : Int) : Decidable (sesT τ id) := inferInstanceAs (Decidable (_ = _))
end Go.Proofs.YtnnbelmpbmfdnaaGreatDoor

/- Own work: who owns what in a sound history: plain. -/
namespace Go.Proofs.YtnnbelmpbmfdnaaGreatDoor
open Go

def manyTo (τ : Tr) : Nat → Nat
  | 0 => 0
  | s + 1 => manyTo τ s + if s = 0 then 0 else (ownedZ τ s).length
def freeK (l : List (Bs × Nd)) : Nat := (l.filter fun y => decide (y.2.st.own = 0)).length
theorem Hist.ok {z0 : Int} {l : List En} {τ : Tr} (h : Hist z0 l τ) {i : Nat} (hi : i ≤ l.length) : (appL newT (l.take i)).Ok 60 := (h.take i hi).inv.ok
theorem Hist.few {z0 : Int} {l : List En} {τ : Tr} (h : Hist z0 l τ) {i : Nat} (hi : i < l.length) : l[i].subs.length ≤ 60 := (h.at i hi).1.shape.sz.few
end Go.Proofs.YtnnbelmpbmfdnaaGreatDoor

/- Own work: sessions and nodes know nothing of one another, but for a session's end: plain. -/
namespace Go.Proofs.YtnnbelmpbmfdnaaGreatDoor
open Go

def setS (τ : Tr) (s : List (Int × (Int × Bs))) : Tr := { τ with sess := s }
theorem part_ss (τ : Tr) (s : List (Int × (Int × Bs))) (x : Pt) (zx : Int) : (partZ (setS τ s) x zx).1 = setS (partZ τ x zx).1 s := by
  unfold partZ createZ eraseZ
  have h : ∀ p, thereT (setS τ s) p ↔ thereT τ p := fun p => Iff.rfl
  simp only [h]
  repeat' split
  all_goals first | rfl | contradiction
/-- What an entry does to the sessions alone. -/
def sesE (s : List (Int × (Int × Bs))) (e : En) : List (Int × (Int × Bs)) :=
  if e.x.kind = 5 then (if 0 < e.x.own then sset s e.x.own (e.x.num, e.x.data) else s)
  else if e.x.kind = 6 then s.filter fun y => !decide (y.1 = e.x.own) else s
theorem app_sess (τ : Tr) (e : En) : (appE τ e).sess = sesE τ.sess e := by
  unfold appE applyZ sesE
  dsimp only
  split
  · split <;> rfl
  split
  · show (dropS _ _).sess = _
    unfold dropS; dsimp only
    rw [parts_sess]; rfl
  split
  · rw [parts_sess]; rfl
  split
  · rfl
  · rw [part_sess]; rfl
/-- The sessions are as the history's, but for some of 100 to 108. -/
structure More (τ : Tr) (s : List (Int × (Int × Bs))) : Prop where
  sorted : SortedK s
  same : ∀ i, i < 100 ∨ 108 < i → alook s i = alook τ.sess i
theorem sesE_sorted {s : List (Int × (Int × Bs))} (h : SortedK s) (e : En) : SortedK (sesE s e) := by
  unfold sesE
  split
  · split
    · exact h.sset linI _ _
    · exact h
  split
  · exact h.filter _
  · exact h
theorem sesE_at (s : List (Int × (Int × Bs))) (e : En) (i : Int) : alook (sesE s e) i = if e.x.kind = 5 ∧ 0 < e.x.own ∧ i = e.x.own then some (e.x.num, e.x.data) else if e.x.kind = 6 ∧ i = e.x.own then none else alook s i := by
  unfold sesE
  by_cases h5 : e.x.kind = 5
  · have e2 : (if e.x.kind = 6 ∧ i = e.x.own then none else alook s i) = alook s i := if_neg (by rintro ⟨g, -⟩; omega)
    rw [e2, if_pos h5]
    by_cases ho : 0 < e.x.own
    · rw [if_pos ho, al_sset]
      by_cases hi : i = e.x.own
      · rw [if_pos hi, if_pos ⟨h5, ho, hi⟩]
      · rw [if_neg hi, if_neg (fun g => hi g.2.2)]
    · rw [if_neg ho, if_neg (fun g => ho g.2.1)]
  · have e1 : (if e.x.kind = 5 ∧ 0 < e.x.own ∧ i = e.x.own then some (e.x.num, e.x.data) else if e.x.kind = 6 ∧ i = e.x.own then none else alook s i) = if e.x.kind = 6 ∧ i = e.x.own then none else alook s i := if_neg (fun g => h5 g.1)
    rw [e1, if_neg h5]
    by_cases h6 : e.x.kind = 6
    · rw [if_pos h6, al_filter (fun k => !decide (k = e.x.own))]
      by_cases hi : i = e.x.own
      · simp [hi, h6]
      · simp [hi]
    · rw [if_neg h6]; simp [h6]
theorem More.both {τ : Tr} {s : List (Int × (Int × Bs))} (h : More τ s) (e : En) : More (appE τ e) (sesE s e) :=
  ⟨sesE_sorted h.sorted e, fun i hi => by rw [app_sess, sesE_at, sesE_at, h.same i hi]⟩
theorem More.one {τ : Tr} {s : List (Int × (Int × Bs))} (h : More τ s) {e : En} (ho : 100 ≤ e.x.own ∧ e.x.own ≤ 108) : More τ (sesE s e) := by
  refine ⟨sesE_sorted h.sorted e, fun i hi => ?_⟩
  rw [sesE_at, if_neg (by rintro ⟨-, -, g⟩; omega), if_neg (by rintro ⟨-, g⟩; omega)]
  exact h.same i hi
theorem More.ids {τ : Tr} {K : Int} {s : List (Int × (Int × Bs))} (hi : HInv τ K) (h : More τ s) : ∀ x ∈ s, (1 ≤ x.1 ∧ x.1 ≤ 5) ∨ (100 ≤ x.1 ∧ x.1 ≤ 108) := by
  intro x hx
  have h1 := al_of_mem (h.sorted.nodup linI) (show (x.1, x.2) ∈ s from hx)
  by_cases g : x.1 < 100 ∨ 108 < x.1
  · rw [h.same _ g] at h1
    exact .inl (hi.ids _ _ h1)
  · omega
theorem More.ok {τ : Tr} {K : Int} {s : List (Int × (Int × Bs))} (hi : HInv τ K) (h : More τ s) : (setS τ s).Ok 60 := by
  refine ⟨hi.ok.sorted, h.sorted, hi.ok.few, hi.ok.able, fun x hx => ?_, hi.ok.acls, ?_⟩
  · have := h.ids hi x hx; omega
  · have := nodup_len (l := s.map (·.1)) (m := [1, 2, 3, 4, 5, 100, 101, 102, 103, 104, 105, 106, 107, 108]) (h.sorted.nodup linI) fun i hm => by
      obtain ⟨x, hx, rfl⟩ := List.mem_map.1 hm
      have := h.ids hi x hx
      have : x.1 = 1 ∨ x.1 = 2 ∨ x.1 = 3 ∨ x.1 = 4 ∨ x.1 = 5 ∨ x.1 = 100 ∨ x.1 = 101 ∨ x.1 = 102 ∨ x.1 = 103 ∨ x.1 = 104 ∨ x.1 = 105 ∨ x.1 = 106 ∨ x.1 = 107 ∨ x.1 = 108 := by omega
      simpa using this
    have h2 : s.length ≤ 14 := by simpa using this
    show s.length ≤ 60
    omega
/-- A session opened, and one closed, by hand. -/
def opE (zx n i : Int) : En := ⟨zx, 0, 0, ⟨5, [], [], .slice none 0 0, [], n, i, 0, .slice none 0 0⟩, []⟩
def clE (zx n : Int) : En := ⟨zx, 0, 0, ⟨6, [], [], .slice none 0 0, [], n, 0, 0, .slice none 0 0⟩, []⟩
theorem app_zx (τ : Tr) (e : En) : (appE τ e).zx = e.zx := by
  have hp : ∀ (τ : Tr) (x : Pt) (zx : Int), (partZ τ x zx).1.zx = τ.zx := by
    intro τ x zx
    unfold partZ createZ eraseZ
    repeat' split
    all_goals rfl
  have hps : ∀ (τ : Tr) (zx : Int) (l : List Pt), (partsZ τ zx l).1.zx = τ.zx := by
    intro τ zx l
    induction l using snocInd with
    | h0 => rfl
    | h1 l x ih => rw [parts_snoc]; dsimp only; rw [hp, ih]
  unfold appE applyZ
  dsimp only
  split
  · split <;> rfl
  split
  · exact hps _ _ _
  split
  · exact hps _ _ _
  split
  · rfl
  · exact hp _ _ _
/-- All but the history's are closed in the end. -/
structure Shut (τ : Tr) (s : List (Int × (Int × Bs))) (n : Nat) : Prop where
  more : More τ s
  gone : ∀ i : Int, 100 ≤ i → i < n → alook s i = none
theorem Shut.step {τ : Tr} {s : List (Int × (Int × Bs))} {n : Nat} (h : Shut τ s n) (hn : 100 ≤ n ∧ n ≤ 108) (zx : Int) : Shut τ (sesE s (clE zx n)) (n + 1) := by
  refine ⟨h.more.one ⟨by show (100 : Int) ≤ (n : Int); omega, by show (n : Int) ≤ 108; omega⟩, fun i h1 h2 => ?_⟩
  rw [sesE_at, if_neg (by rintro ⟨g, -⟩; exact absurd g (by show ¬ (6 : Int) = 5; decide))]
  by_cases e : i = n
  · rw [if_pos ⟨rfl, e⟩]
  · rw [if_neg (fun g => e g.2)]
    exact h.gone i h1 (by omega)
theorem Shut.done {τ : Tr} {K : Int} {s : List (Int × (Int × Bs))} (hi : HInv τ K) (h : Shut τ s 109) : setS τ s = τ := by
  have : s = τ.sess := by
    refine sorted_same linI h.more.sorted hi.ok.ssorted fun i => ?_
    by_cases g : i < 100 ∨ 108 < i
    · exact h.more.same i g
    · rw [h.gone i (by omega) (by omega)]
      rcases e : alook τ.sess i with _ | r
      · rfl
      · have := hi.ids i r e; omega
  rw [this]; rfl
end Go.Proofs.YtnnbelmpbmfdnaaGreatDoor

