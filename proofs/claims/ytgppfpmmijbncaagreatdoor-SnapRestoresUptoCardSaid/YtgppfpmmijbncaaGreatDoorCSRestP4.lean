/- Own work, some of it printed by program, texts that were built one by one: a part of the proof of snapRestores.proved. -/
import Derived.Test.YtgppfpmmijbncaaGreatDoorCSRestP2
import Derived.Test.YtgppfpmmijbncaaGreatDoorCSRestP3
import Derived.Test.YtgppfpmmijbncaaGreatDoorCSRestP1
import Derived.Test.YtgppfpmmijbncaaGreatDoorCSRestP0
import Derived.Test.YtgppfpmmijbncaaGreatDoorRows
import Derived.WalkKit
import Derived.ProofKit
import Derived.OpenShut
import Derived.JoinedCond
import Derived.Carry
import Derived.Deep.Grids
import Derived.Handed
import Derived.Deep.Strs
set_option maxRecDepth 100000
namespace Go.Proofs.YtgppfpmmijbncaaGreatDoor
open Go
def names6 : List Bs := [[97], [98], [99], [120], [121], [122]]
def nm6 (k : Int) : Bs := names6.getD k.toNat []
theorem nm6_at {k : Int} (h0 : 0 ≤ k) (h6 : k < 6) : (names6.map vstr)[0 + k.toNat * 1]? = some (vstr (nm6 k)) := by
 have : 0 + k.toNat * 1 < names6.length := by show _ < 6; omega
 rw [List.getElem?_map, List.getElem?_eq_getElem this]
 unfold nm6
 rw [List.getD_eq_getElem?_getD, List.getElem?_eq_getElem (by show _ < 6; omega)]
 simp
theorem nm6_len (k : Int) : (nm6 k).length ≤ 1 := by
 unfold nm6 names6
 rcases Nat.lt_or_ge k.toNat 6 with h | h
 ·rw [List.getD_eq_getElem?_getD]
  match k.toNat, h with
  | 0, _ => decide
  | 1, _ => decide
  | 2, _ => decide
  | 3, _ => decide
  | 4, _ => decide
  | 5, _ => decide
 ·rw [List.getD_eq_getElem?_getD, List.getElem?_eq_none (by simpa using h)]; decide
structure IntsOk (a : Ac0) : Prop where
 h1 : -9223372036854775808 ≤ a.1 ∧ a.1 ≤ 9223372036854775807
 h2 : -9223372036854775808 ≤ a.2.1 ∧ a.2.1 ≤ 9223372036854775807
 h3 : -9223372036854775808 ≤ a.2.2.1 ∧ a.2.2.1 ≤ 9223372036854775807
structure PtB (y : Pt) : Prop where
 cell : isCell y.aclV = true
 subs : y.subsV = .slice none 0 0
 acl : y.acl.length ≤ 1
 path : y.path.length ≤ 62
theorem pt_cells {y : Pt} (h1 : isCell y.aclV = true) (h2 : isCell y.subsV = true) : ∀ v ∈ ptC y, isCell v = true := by
 intro v hv
 simp only [ptC, List.mem_cons, List.not_mem_nil, or_false] at hv
 rcases hv with rfl | rfl | rfl | rfl | rfl | rfl | rfl | rfl
 case inr.inr.inr.inl => exact h1
 case inr.inr.inr.inr.inr.inr.inr => exact h2
 all_goals rfl
theorem al_get {β : Type} {l : List (Bs × β)} (hn : (l.map (·.1)).Nodup) {i : Nat} (hi : i < l.length) : alook l l[i].1 = some l[i].2 := al_of_mem hn (List.getElem_mem hi)
set_option maxHeartbeats 1000000 in
theorem part7_spec (x : Nat) (τ : Tr) (a : Ac0) (K : Int) (hinv : HInv τ K) (hK : K ≤ 1099511627776) (ha : IntsOk a) (hd : a.2.2.2.1.length ≤ 100) : Fn Tryz.prog 84 #[vptr x, .agg (ac0C a).toArray, .bool true] [refR x τ] fun v L => ∃ (y : Pt) (b : Bool), v = .tuple #[.agg (ptC y).toArray, .bool b] ∧ (b = true → PartH τ y K) ∧ PtB y ∧ L = [refR x τ, rdO 2 y.aclV y.acl.length (y.acl.flatMap acC)] := by
 refine Fn.intro Tryz.func84 rfl rfl fun F W => ?_
 have hnd := hinv.ok.sorted.nodup linB
 have hfew := hinv.ok.few
 have hsf := hinv.ok.sfew
 have hpos := hinv.pos
 have hnl := nm6_len (pickZ a.2.2.1 6)
 have hp6 := pickZ_range a.2.2.1 (n := 6) (by decide)
 have hp31 := pickZ_range a.2.2.1 (n := 31) (by decide)
 have hpw := pickZ_range a.1 (n := 6) (by decide)
 obtain ⟨i, hi⟩ : ∃ i : Nat, pickZ a.2.1 (τ.nodes.length : Int) = i := ⟨(pickZ a.2.1 τ.nodes.length).toNat, by have := pickZ_range a.2.1 (n := (τ.nodes.length : Int)) (by omega); omega⟩
 have hi2 : i < τ.nodes.length := by have := pickZ_range a.2.1 (n := (τ.nodes.length : Int)) (by omega); omega
 refine .rtOpen (x := x) (τ := τ) (by repeat' constructor) fun an cn as1 cs l hl => ?_
 have hll := nds_len hl
 have hin : i < l.length := by omega
 have hli : alook τ.nodes l[i].1 = some l[i].2.2 := by have g := nds_get hl (i := i) (by omega); have g2 := al_get hnd (i := i) (by omega); rw [g] at g2; exact g2
 have hvi := hinv.ver _ _ hli
 refine .slShape (T := 129) (sz := 12) (v := .slice an l.length cn) (xs := l.flatMap rnC) (by repeat' constructor) (by omega) fun bn bn' e0 mbn _ => ?_
 simp only [Value.slice.injEq, true_and] at e0
 obtain ⟨rfl, rfl⟩ := e0
 have hpli : l[i].1.length ≤ 60 := able_len (by have h2 := hinv.ok.able _ (al_mem hli); exact h2)
 have hkl := kid_len l[i].1 (nm6 (pickZ a.2.2.1 6))
 have hpl62 : (kidZ l[i].1 (nm6 (pickZ a.2.2.1 6))).length ≤ 62 := by omega
 refine .sr (.oq (.box rfl) ?_)
 rintro v L' ⟨ba, rfl, rfl⟩
 refine .oq (.allocA ze_37) ?_
 rintro v L' ⟨b0, rfl, rfl⟩
 refine .a rfl (.nil (.ptCast (b := ba) (l' := ac0C a) (by repeat' constructor) rfl (.then_n (.seq (.aclShape (l := l) (i := i) (by omega) (by repeat' constructor) fun hcl => (.draw [14, 15] [[0, 1, 2, 3, 4, 5, 6, 7, 8, 9, 10, 11, 12, 13, 14], [15]] mixed (by kernel_rfl) (.go [rnR _ _, ptc x _ _, ptc ba _ _] (by repeat' constructor) (.k rfl (.move rfl) (.k rfl (.nilp rfl) (.k rfl (.fieldAddr rfl fo_87_0) (.k rfl (.ld rfl ag_73) (.k rfl (.fieldAddr rfl fo_82_1) (.k rfl (.ld rfl ag_3) (.k rfl (.move rfl) (.k rfl (.nilp rfl) (.k rfl (.fieldAddr rfl fo_87_0) (.k rfl (.ld rfl ag_73) (.k rfl (.slen rfl Tryz.underlying73 rfl) (.m rfl (by kernel_rfl) (.call Tryz.func35 rfl rfl (vs := [_, _]) rfl (pick7_is _ _ (k := (i : Int)) (by rw [hll]; exact hi) ha.h2 (by first | decide | omega))) (by repeat' constructor) ?_)))))))))))))))))))
 refine D.k rfl (.indexAddr rfl rfl el_73 (by omega)) (.k rfl (.loadRdA (sz := 12) (j := i * 12) (k := 12) (p := rnR _ l) (vs := rnC l[i]) rfl ag_129 (by repeat' constructor) (fun h hp => slR_rd hp) (by omega) (by omega) (by omega) (flatMap_at (f := rnC) (sz := 12) (fun _ _ => rfl) (by omega))) (.hh rfl (.allocA ze_129) ?_))
 rintro v L' ⟨bN, rfl, rfl⟩
 refine D.ph (.g0 (.hh rfl (.storeA rfl rfl ?c23 sz_129 ?c26 ?c24 (nfz0 _ _)) ?_))
 case c23 => exact rn_cells hcl
 case c26 => rfl
 case c24 => simp [rnC]
 rintro v L' rfl
 refine D.ph (.fin (.ptCast (b := bN) (l' := rnC l[i]) (by repeat' constructor) rfl (.rtFold (x := x) (τ := τ) (l := l) hl (by repeat' constructor) rfl rfl rfl rfl rfl ?_)))
 generalize l[i] = z at hli hvi hpli hkl hpl62 hcl ⊢
 refine .then_n (.sm rfl (.u (.fieldAddr rfl fo_129_0) (.u (.ld rfl ag_9) (.oq (.c Tryz.func83 [_] (rparent_spec _ ?hs31)) ?_))))
 case hs31 => first | assumption | omega
 rintro v L' ⟨rfl, rfl⟩
 refine .cv Tryz.func82 [_, _] (rplace_spec x τ (parentZ z.1) (by omega)) ?_
 refine .a rfl (.nil (.rtOpen (x := x) (τ := τ) (by repeat' constructor) fun am cm as2 cs2 m hm => ?_))
 have hml := nds_len hm
 refine .then_n (.seq (.sr (.u (.fieldAddr rfl fo_82_0) (.u (.ld rfl ag_3) (.oq (.call Tryz.func35 rfl rfl (vs := [_, _]) rfl (pick7_spec _ _ ha.h1 (by decide))) ?_)))))
 rintro v L' ⟨rfl, rfl⟩
 refine .nt (.block (.seq (.joinK (ι := Bool) (fun q E => (35, .bool q) :: E) (fun q => []) (fun q => True) (pre := []) (ts := [0, 2, 4, 6, 7, 8, 9, 34]) (.cons rfl (.cons rfl (.cons rfl (.cons rfl (.cons rfl (.cons rfl (.cons rfl (.cons rfl (.nil))))))))) (by repeat' constructor) ?_ ?_)))
 ·refine .sr (.ui rfl rfl rfl (.an rfl (.condD rfl (fun h35 => ?_) (fun h35 => ?_))))
  ·refine .sk ?_
   exact .mk (decide (pickZ a.1 6 = 0)) (trivial) ⟨rfl, rfl, rfl, rfl, rfl, rfl, rfl, rfl, rfl, trivial⟩
  refine .sr (.ui rfl rfl rfl (.an rfl (.condD rfl (fun h35 => ?_) (fun h35 => ?_))))
  ·refine .sk ?_
   exact .mk (decide (pickZ a.1 6 = 1)) (trivial) ⟨rfl, rfl, rfl, rfl, rfl, rfl, rfl, rfl, rfl, trivial⟩
  refine .region (.ui rfl rfl rfl (.an rfl ?_))
  exact .mk (decide (pickZ a.1 6 = 2)) (trivial) ⟨rfl, rfl, rfl, rfl, rfl, rfl, rfl, rfl, rfl, trivial⟩
 rintro bq _
 refine .condB rfl (fun h35 => ?_) (fun h35 => ?_)
 ·refine .sr (.oq (.buildSlice1 (vs := [_, _, _, _, _, _]) el_54 ze_9 rfl rfl rfl rfl rfl (by decide)) ?_)
  rintro v L' ⟨bs, rfl, rfl⟩
  refine .a rfl (.nil (.ptCast (b := bs) (l' := names6.map vstr) (by repeat' constructor) rfl (.then_n (.seq (.draw [] [[0, 1, 2, 3, 4, 5, 6, 7, 8, 9]] mixed (by kernel_rfl) (.go [ptc bs _ _, ptc ba _ _, ptc bN _ _] (by repeat' constructor) (.kv rfl (.fieldAddr rfl fo_129_0) (.kv rfl (.ld rfl ag_9) (.mv rfl rfl (.kv rfl (.fieldAddr rfl fo_82_2) (.kv rfl (.ld rfl ag_3) (.m rfl (by kernel_rfl) (.call Tryz.func35 rfl rfl (vs := [_, _]) rfl (pick7_spec _ _ ha.h3 (by decide))) (by repeat' constructor) ?_))))))))))))
  refine D.kv rfl (.indexAddr rfl rfl el_54 (by simp; omega)) (.kv rfl (.load rfl ag_9 (by repeat' constructor) (nm6_at hp6.1 hp6.2)) (.m rfl (by kernel_rfl) (.c Tryz.func122 [_, _] (rkid_spec _ _ ?hs53 ?hn54)) (by repeat' constructor) ?_))
  case hs53 => first | assumption | omega
  case hn54 => first | assumption | omega | simp
  refine D.kv rfl (.assign rfl) (.pf (.sr (.an rfl (.seq (.sm rfl (.q (.as (v' := .bool true) (by rfl) (.move rfl)) rfl (.grun (t := 50) rfl rfl rfl (.m rfl (.grun (t := 50) rfl rfl rfl (.u (.nilp rfl) (.grun (t := 50) rfl rfl rfl (.u (.fieldAddr rfl fo_87_1) (.grun (t := 50) rfl rfl rfl (.u (.ld rfl ag_59) (.grun (t := 50) rfl rfl rfl (.q (.slen rfl Tryz.underlying59 rfl) rfl (.grun (t := 50) rfl rfl rfl (.ui rfl rfl rfl (.u (.pickT rfl rfl) (.m rfl (.dec (t := 58) rfl (fun h10_58 => ?_) (fun h10_58 => ?_))))))))))))))))))))))
  ·refine .kDT (t := 56) rfl h10_58 (.kDT (t := 57) rfl h10_58 (.grun (t := 58) rfl rfl rfl (.u (.fieldAddr rfl fo_82_2) (.grun (t := 58) rfl rfl rfl (.u (.ld rfl ag_3) (.grun (t := 58) rfl rfl rfl (.oq (.call Tryz.func35 rfl rfl (vs := [_, _]) rfl (pick7_spec _ _ ha.h3 (by decide))) ?_)))))))
   rintro v L' ⟨rfl, rfl⟩
   refine .grun (t := 58) rfl rfl rfl (.ui rfl rfl rfl (.u (.pickT rfl rfl) (.nt (.condD rfl (fun h63 => ?_) (fun h63 => ?_)))))
   ·obtain ⟨j, hjp⟩ : ∃ j : Nat, pickZ a.2.1 (τ.sess.length : Int) = j := ⟨(pickZ a.2.1 τ.sess.length).toNat, by have := pickZ_range a.2.1 (n := (τ.sess.length : Int)) (by omega); omega⟩
    have hj : j < τ.sess.length := by have := pickZ_range a.2.1 (n := (τ.sess.length : Int)) (by omega); omega
    refine .slShape (T := 127) (sz := 3) (v := .slice as2 τ.sess.length cs2) (xs := τ.sess.flatMap rsC) (by repeat' constructor) (by omega) fun bs bs' e0 mbs _ => ?_
    simp only [Value.slice.injEq, true_and] at e0
    obtain ⟨rfl, rfl⟩ := e0
    refine .draw [] [[0, 1, 2, 3, 4, 5, 6, 7, 8, 9, 10, 11, 12, 13, 14, 15]] mixed (by kernel_rfl) (.go [rsR _ _, ptc x _ _, ptc ba _ _] (by repeat' constructor) (.mv rfl rfl (.nf rfl rfl rfl fo_87_1 (.kv rfl (.ld rfl ag_59) (.kv rfl (.fieldAddr rfl fo_82_1) (.kv rfl (.ld rfl ag_3) (.mv rfl rfl (.nf rfl rfl rfl fo_87_1 (.kv rfl (.ld rfl ag_59) (.kv rfl (.slen rfl Tryz.underlying59 rfl) (.m rfl (by kernel_rfl) (.call Tryz.func35 rfl rfl (vs := [_, _]) rfl (pick7_is _ _ (k := (j : Int)) hjp ha.h2 (by first | decide | omega))) (by repeat' constructor) ?_)))))))))))
    refine D.kv rfl (.indexAddr rfl rfl el_59 (by omega)) (.kv rfl (.fieldAddr rfl fo_127_0) (.kv rfl (.loadRd (sz := 3) (j := j * 3 + 0) (p := rsR _ τ.sess) rfl ag_3 (by repeat' constructor) (fun h hp => slR_rd hp) (by omega) ((rs_cell (l := τ.sess) (i := j) (k := 0) (by omega) (by decide)).trans rfl)) (.kv rfl (.assign rfl) (.pf (.seq (.draw [8, 32] [[0, 1, 2, 3, 4, 5, 6, 7, 9, 10, 11, 12, 13, 15, 16, 17, 18, 19, 20, 21, 22, 23, 24, 25, 26, 27, 28, 29, 30, 31, 8, 14, 32], [33]] mixed (by kernel_rfl) (.go [ptc ba _ _, ptc bN _ _, ptc x _ _] (by repeat' constructor) (.k rfl (.move rfl) (.k rfl (.fieldAddr rfl fo_82_3) (.k rfl (.ld rfl ag_9) (.kv rfl (.fieldAddr rfl fo_82_2) (.kv rfl (.ld rfl ag_3) (.m rfl (by kernel_rfl) (.call Tryz.func35 rfl rfl (vs := [_, _]) rfl (pick7_spec _ _ ha.h3 (by decide))) (by repeat' constructor) ?_)))))))))))))
    refine D.kv rfl (.add rfl rfl (by omega)) (.kv rfl (.to (v' := .agg (acC (1 + pickZ a.2.2.1 31, wldZ)).toArray) (.build (us := [(0, _), (1, _)]) fl_90 ze_90 rfl rfl (by simp [isCell])) rfl) (.k rfl (.move rfl) (.k rfl (.fieldAddr rfl fo_129_3) (.k rfl (.fieldAddr rfl fo_92_4) (.k rfl (.ld rfl ag_3) (.k rfl (.add rfl rfl (by omega)) (.k rfl (.fieldAddr rfl fo_129_3) (.k rfl (.fieldAddr rfl fo_92_6) (.k rfl (.ld rfl ag_3) (.k rfl (.int rfl rfl rfl) (.k rfl (.move rfl) (.dec (t := 98) rfl (fun h12_98 => ?_) (fun h12_98 => ?_)))))))))))))
    ·refine D.kDT (t := 97) rfl h12_98 (.gq (t := 98) rfl rfl rfl (by kernel_rfl) (.move rfl) (.gq (t := 98) rfl rfl rfl (by kernel_rfl) (.nilp rfl) (.gq (t := 98) rfl rfl rfl (by kernel_rfl) (.fieldAddr rfl fo_87_0) (.gq (t := 98) rfl rfl rfl (by kernel_rfl) (.ld rfl ag_73) (.gq (t := 98) rfl rfl rfl (by kernel_rfl) (.slen rfl Tryz.underlying73 rfl) (.gq (t := 98) rfl rfl rfl (by kernel_rfl) (.int rfl rfl rfl) (.k rfl (.pickT rfl rfl) (.k rfl (.move rfl) (.dec (t := 106) rfl (fun h12_106 => ?_) (fun h12_106 => ?_))))))))))
     ·refine D.kDT (t := 104) rfl h12_106 (.kDT (t := 105) rfl h12_106 (.gq (t := 106) rfl rfl rfl (by kernel_rfl) (.move rfl) (.gm (t := 106) rfl rfl rfl (by kernel_rfl) (.c Tryz.func104 [_] (rcheck_spec _ ?hs108)) (by repeat' constructor) ?_)))
      case hs108 => first | assumption | omega
      refine D.gq (t := 106) rfl rfl rfl (by kernel_rfl) (.int rfl rfl rfl) (.k rfl (.pickT rfl rfl) (.hh rfl (.buildSlice (vs := [_]) el_34 ze_90 rfl rfl rfl rfl (by first | (simp [Value.cells]; done) | (intro v hv; simp only [List.mem_cons, List.not_mem_nil, or_false] at hv; (repeat (first | (subst hv; rfl) | (rcases hv with hv | hv; (subst hv; rfl)))))) (by decide)) ?_))
      rintro v L' ⟨b12, rfl, rfl⟩
      refine D.kv rfl (.to (v' := .agg (ptC (⟨1, (kidZ z.1 (nm6 (pickZ a.2.2.1 6))), a.2.2.2.1, (.slice (some ⟨b12, 0, none⟩) 1 1), [(1 + pickZ a.2.2.1 31, wldZ)], (τ.sess[j].1), z.2.2.st.cver + 1, 0, .slice none 0 0⟩ : Pt)).toArray) (.build (us := [(0, _), (1, _), (2, _), (3, _), (4, _), (5, _)]) fl_37 ze_37 rfl rfl (by simp [isCell])) rfl) (.hh rfl (.storeA rfl rfl ?c115 sz_37 ?c118 ?c116 (nfz0 _ _)) ?_)
      case c115 => exact pt_cells rfl rfl
      case c118 => rfl
      case c116 => simp [ptC]
      rintro v L' rfl
      refine D.ph (.g0 (.kv rfl (.assign rfl) (.pf (.ret (.blk_r (.then_r (.slMakeN 2 1 (b := b12) (xs := ([(1 + pickZ a.2.2.1 31, wldZ)] : List Ac).flatMap acC) (by repeat' constructor) rfl rfl (.toRd (m := 1) (by repeat' constructor) (.ptCast (b := b0) (l' := ptC (⟨1, (kidZ z.1 (nm6 (pickZ a.2.2.1 6))), a.2.2.2.1, (.slice (some ⟨b12, 0, none⟩) 1 1), [(1 + pickZ a.2.2.1 31, wldZ)], (τ.sess[j].1), z.2.2.st.cver + 1, 0, .slice none 0 0⟩ : Pt)) (by repeat' constructor) rfl (.rtFold (x := x) (τ := τ) (l := m) hm (by repeat' constructor) rfl rfl rfl rfl rfl ?_))))))))))
      exact .d2 rfl (.cellA rfl ag_37 (by repeat' constructor) (by simp [ptC]) rfl) (.tmp rfl) ⟨(⟨1, (kidZ z.1 (nm6 (pickZ a.2.2.1 6))), a.2.2.2.1, (.slice (some ⟨b12, 0, none⟩) 1 1), [(1 + pickZ a.2.2.1 31, wldZ)], (τ.sess[j].1), z.2.2.st.cver + 1, 0, .slice none 0 0⟩ : Pt), _, rfl, fun _ => ⟨⟨by show (0 : Int) ≤ 1; decide, by show (1 : Int) ≤ 4; decide⟩, hpl62, hd, .inr ⟨_, by omega, by omega, rfl⟩, .inr ⟨τ.sess[j].2, al_of_mem (hinv.ok.ssorted.nodup linI) (List.getElem_mem hj)⟩, ⟨by show 0 ≤ z.2.2.st.cver + 1; omega, by show z.2.2.st.cver + 1 ≤ K + 1; omega⟩, rfl, fun _ => by omega⟩, ⟨rfl, rfl, by simp, by first | exact hpl62 | (simp; done) | (show z.1.length ≤ 62; omega)⟩, rfl⟩
     refine D.kDF (t := 104) rfl h12_106 (.kDF (t := 105) rfl h12_106 (.gz rfl (.gz rfl (.gz rfl (.k rfl (.pickF rfl rfl) (.hh rfl (.buildSlice (vs := [_]) el_34 ze_90 rfl rfl rfl rfl (by first | (simp [Value.cells]; done) | (intro v hv; simp only [List.mem_cons, List.not_mem_nil, or_false] at hv; (repeat (first | (subst hv; rfl) | (rcases hv with hv | hv; (subst hv; rfl)))))) (by decide)) ?_))))))
     rintro v L' ⟨b12, rfl, rfl⟩
     refine D.kv rfl (.to (v' := .agg (ptC (⟨1, (kidZ z.1 (nm6 (pickZ a.2.2.1 6))), a.2.2.2.1, (.slice (some ⟨b12, 0, none⟩) 1 1), [(1 + pickZ a.2.2.1 31, wldZ)], (τ.sess[j].1), z.2.2.st.cver + 1, 0, .slice none 0 0⟩ : Pt)).toArray) (.build (us := [(0, _), (1, _), (2, _), (3, _), (4, _), (5, _)]) fl_37 ze_37 rfl rfl (by simp [isCell])) rfl) (.hh rfl (.storeA rfl rfl ?c124 sz_37 ?c127 ?c125 (nfz0 _ _)) ?_)
     case c124 => exact pt_cells rfl rfl
     case c127 => rfl
     case c125 => simp [ptC]
     rintro v L' rfl
     refine D.ph (.g0 (.kv rfl (.assign rfl) (.pf (.ret (.blk_r (.then_r (.slMakeN 2 1 (b := b12) (xs := ([(1 + pickZ a.2.2.1 31, wldZ)] : List Ac).flatMap acC) (by repeat' constructor) rfl rfl (.toRd (m := 1) (by repeat' constructor) (.ptCast (b := b0) (l' := ptC (⟨1, (kidZ z.1 (nm6 (pickZ a.2.2.1 6))), a.2.2.2.1, (.slice (some ⟨b12, 0, none⟩) 1 1), [(1 + pickZ a.2.2.1 31, wldZ)], (τ.sess[j].1), z.2.2.st.cver + 1, 0, .slice none 0 0⟩ : Pt)) (by repeat' constructor) rfl (.rtFold (x := x) (τ := τ) (l := m) hm (by repeat' constructor) rfl rfl rfl rfl rfl ?_))))))))))
     exact .d2 rfl (.cellA rfl ag_37 (by repeat' constructor) (by simp [ptC]) rfl) (.tmp rfl) ⟨(⟨1, (kidZ z.1 (nm6 (pickZ a.2.2.1 6))), a.2.2.2.1, (.slice (some ⟨b12, 0, none⟩) 1 1), [(1 + pickZ a.2.2.1 31, wldZ)], (τ.sess[j].1), z.2.2.st.cver + 1, 0, .slice none 0 0⟩ : Pt), false, rfl, (fun e => by cases e), ⟨rfl, rfl, by simp, by first | exact hpl62 | (simp; done) | (show z.1.length ≤ 62; omega)⟩, rfl⟩
    refine D.kDF (t := 97) rfl h12_98 (.gz rfl (.gz rfl (.gz rfl (.gz rfl (.gz rfl (.gz rfl (.k rfl (.pickF rfl rfl) (.k rfl (.move rfl) (.gz rfl (.gz rfl (.gz rfl (.k rfl (.pickF rfl rfl) (.hh rfl (.buildSlice (vs := [_]) el_34 ze_90 rfl rfl rfl rfl (by first | (simp [Value.cells]; done) | (intro v hv; simp only [List.mem_cons, List.not_mem_nil, or_false] at hv; (repeat (first | (subst hv; rfl) | (rcases hv with hv | hv; (subst hv; rfl)))))) (by decide)) ?_)))))))))))))
    rintro v L' ⟨b12, rfl, rfl⟩
    refine D.kv rfl (.to (v' := .agg (ptC (⟨1, (kidZ z.1 (nm6 (pickZ a.2.2.1 6))), a.2.2.2.1, (.slice (some ⟨b12, 0, none⟩) 1 1), [(1 + pickZ a.2.2.1 31, wldZ)], (τ.sess[j].1), z.2.2.st.cver + 1, 0, .slice none 0 0⟩ : Pt)).toArray) (.build (us := [(0, _), (1, _), (2, _), (3, _), (4, _), (5, _)]) fl_37 ze_37 rfl rfl (by simp [isCell])) rfl) (.hh rfl (.storeA rfl rfl ?c134 sz_37 ?c137 ?c135 (nfz0 _ _)) ?_)
    case c134 => exact pt_cells rfl rfl
    case c137 => rfl
    case c135 => simp [ptC]
    rintro v L' rfl
    refine D.ph (.g0 (.kv rfl (.assign rfl) (.pf (.ret (.blk_r (.then_r (.slMakeN 2 1 (b := b12) (xs := ([(1 + pickZ a.2.2.1 31, wldZ)] : List Ac).flatMap acC) (by repeat' constructor) rfl rfl (.toRd (m := 1) (by repeat' constructor) (.ptCast (b := b0) (l' := ptC (⟨1, (kidZ z.1 (nm6 (pickZ a.2.2.1 6))), a.2.2.2.1, (.slice (some ⟨b12, 0, none⟩) 1 1), [(1 + pickZ a.2.2.1 31, wldZ)], (τ.sess[j].1), z.2.2.st.cver + 1, 0, .slice none 0 0⟩ : Pt)) (by repeat' constructor) rfl (.rtFold (x := x) (τ := τ) (l := m) hm (by repeat' constructor) rfl rfl rfl rfl rfl ?_))))))))))
    exact .d2 rfl (.cellA rfl ag_37 (by repeat' constructor) (by simp [ptC]) rfl) (.tmp rfl) ⟨(⟨1, (kidZ z.1 (nm6 (pickZ a.2.2.1 6))), a.2.2.2.1, (.slice (some ⟨b12, 0, none⟩) 1 1), [(1 + pickZ a.2.2.1 31, wldZ)], (τ.sess[j].1), z.2.2.st.cver + 1, 0, .slice none 0 0⟩ : Pt), false, rfl, (fun e => by cases e), ⟨rfl, rfl, by simp, by first | exact hpl62 | (simp; done) | (show z.1.length ≤ 62; omega)⟩, rfl⟩
   refine .sk (.seq (.draw [8, 32] [[0, 1, 2, 3, 4, 5, 6, 7, 9, 10, 11, 12, 13, 15, 16, 17, 18, 19, 20, 21, 22, 23, 24, 25, 26, 27, 28, 29, 30, 31, 8, 14, 32], [33]] mixed (by kernel_rfl) (.go [ptc ba _ _, ptc bN _ _, ptc x _ _] (by repeat' constructor) (.k rfl (.move rfl) (.k rfl (.fieldAddr rfl fo_82_3) (.k rfl (.ld rfl ag_9) (.kv rfl (.fieldAddr rfl fo_82_2) (.kv rfl (.ld rfl ag_3) (.m rfl (by kernel_rfl) (.call Tryz.func35 rfl rfl (vs := [_, _]) rfl (pick7_spec _ _ ha.h3 (by decide))) (by repeat' constructor) ?_)))))))))
   refine D.kv rfl (.add rfl rfl (by omega)) (.kv rfl (.to (v' := .agg (acC (1 + pickZ a.2.2.1 31, wldZ)).toArray) (.build (us := [(0, _), (1, _)]) fl_90 ze_90 rfl rfl (by simp [isCell])) rfl) (.k rfl (.move rfl) (.k rfl (.fieldAddr rfl fo_129_3) (.k rfl (.fieldAddr rfl fo_92_4) (.k rfl (.ld rfl ag_3) (.k rfl (.add rfl rfl (by omega)) (.k rfl (.fieldAddr rfl fo_129_3) (.k rfl (.fieldAddr rfl fo_92_6) (.k rfl (.ld rfl ag_3) (.k rfl (.int rfl rfl rfl) (.k rfl (.move rfl) (.dec (t := 98) rfl (fun h12_98 => ?_) (fun h12_98 => ?_)))))))))))))
   ·refine D.kDT (t := 97) rfl h12_98 (.gq (t := 98) rfl rfl rfl (by kernel_rfl) (.move rfl) (.gq (t := 98) rfl rfl rfl (by kernel_rfl) (.nilp rfl) (.gq (t := 98) rfl rfl rfl (by kernel_rfl) (.fieldAddr rfl fo_87_0) (.gq (t := 98) rfl rfl rfl (by kernel_rfl) (.ld rfl ag_73) (.gq (t := 98) rfl rfl rfl (by kernel_rfl) (.slen rfl Tryz.underlying73 rfl) (.gq (t := 98) rfl rfl rfl (by kernel_rfl) (.int rfl rfl rfl) (.k rfl (.pickT rfl rfl) (.k rfl (.move rfl) (.dec (t := 106) rfl (fun h12_106 => ?_) (fun h12_106 => ?_))))))))))
    ·refine D.kDT (t := 104) rfl h12_106 (.kDT (t := 105) rfl h12_106 (.gq (t := 106) rfl rfl rfl (by kernel_rfl) (.move rfl) (.gm (t := 106) rfl rfl rfl (by kernel_rfl) (.c Tryz.func104 [_] (rcheck_spec _ ?hs161)) (by repeat' constructor) ?_)))
     case hs161 => first | assumption | omega
     refine D.gq (t := 106) rfl rfl rfl (by kernel_rfl) (.int rfl rfl rfl) (.k rfl (.pickT rfl rfl) (.hh rfl (.buildSlice (vs := [_]) el_34 ze_90 rfl rfl rfl rfl (by first | (simp [Value.cells]; done) | (intro v hv; simp only [List.mem_cons, List.not_mem_nil, or_false] at hv; (repeat (first | (subst hv; rfl) | (rcases hv with hv | hv; (subst hv; rfl)))))) (by decide)) ?_))
     rintro v L' ⟨b12, rfl, rfl⟩
     refine D.kv rfl (.to (v' := .agg (ptC (⟨1, (kidZ z.1 (nm6 (pickZ a.2.2.1 6))), a.2.2.2.1, (.slice (some ⟨b12, 0, none⟩) 1 1), [(1 + pickZ a.2.2.1 31, wldZ)], 0, z.2.2.st.cver + 1, 0, .slice none 0 0⟩ : Pt)).toArray) (.build (us := [(0, _), (1, _), (2, _), (3, _), (4, _), (5, _)]) fl_37 ze_37 rfl rfl (by simp [isCell])) rfl) (.hh rfl (.storeA rfl rfl ?c168 sz_37 ?c171 ?c169 (nfz0 _ _)) ?_)
     case c168 => exact pt_cells rfl rfl
     case c171 => rfl
     case c169 => simp [ptC]
     rintro v L' rfl
     refine D.ph (.g0 (.kv rfl (.assign rfl) (.pf (.ret (.blk_r (.then_r (.slMakeN 2 1 (b := b12) (xs := ([(1 + pickZ a.2.2.1 31, wldZ)] : List Ac).flatMap acC) (by repeat' constructor) rfl rfl (.toRd (m := 1) (by repeat' constructor) (.ptCast (b := b0) (l' := ptC (⟨1, (kidZ z.1 (nm6 (pickZ a.2.2.1 6))), a.2.2.2.1, (.slice (some ⟨b12, 0, none⟩) 1 1), [(1 + pickZ a.2.2.1 31, wldZ)], 0, z.2.2.st.cver + 1, 0, .slice none 0 0⟩ : Pt)) (by repeat' constructor) rfl (.rtFold (x := x) (τ := τ) (l := m) hm (by repeat' constructor) rfl rfl rfl rfl rfl ?_))))))))))
     exact .d2 rfl (.cellA rfl ag_37 (by repeat' constructor) (by simp [ptC]) rfl) (.tmp rfl) ⟨(⟨1, (kidZ z.1 (nm6 (pickZ a.2.2.1 6))), a.2.2.2.1, (.slice (some ⟨b12, 0, none⟩) 1 1), [(1 + pickZ a.2.2.1 31, wldZ)], 0, z.2.2.st.cver + 1, 0, .slice none 0 0⟩ : Pt), _, rfl, fun _ => ⟨⟨by show (0 : Int) ≤ 1; decide, by show (1 : Int) ≤ 4; decide⟩, hpl62, hd, .inr ⟨_, by omega, by omega, rfl⟩, .inl rfl, ⟨by show 0 ≤ z.2.2.st.cver + 1; omega, by show z.2.2.st.cver + 1 ≤ K + 1; omega⟩, rfl, fun _ => by omega⟩, ⟨rfl, rfl, by simp, by first | exact hpl62 | (simp; done) | (show z.1.length ≤ 62; omega)⟩, rfl⟩
    refine D.kDF (t := 104) rfl h12_106 (.kDF (t := 105) rfl h12_106 (.gz rfl (.gz rfl (.gz rfl (.k rfl (.pickF rfl rfl) (.hh rfl (.buildSlice (vs := [_]) el_34 ze_90 rfl rfl rfl rfl (by first | (simp [Value.cells]; done) | (intro v hv; simp only [List.mem_cons, List.not_mem_nil, or_false] at hv; (repeat (first | (subst hv; rfl) | (rcases hv with hv | hv; (subst hv; rfl)))))) (by decide)) ?_))))))
    rintro v L' ⟨b12, rfl, rfl⟩
    refine D.kv rfl (.to (v' := .agg (ptC (⟨1, (kidZ z.1 (nm6 (pickZ a.2.2.1 6))), a.2.2.2.1, (.slice (some ⟨b12, 0, none⟩) 1 1), [(1 + pickZ a.2.2.1 31, wldZ)], 0, z.2.2.st.cver + 1, 0, .slice none 0 0⟩ : Pt)).toArray) (.build (us := [(0, _), (1, _), (2, _), (3, _), (4, _), (5, _)]) fl_37 ze_37 rfl rfl (by simp [isCell])) rfl) (.hh rfl (.storeA rfl rfl ?c177 sz_37 ?c180 ?c178 (nfz0 _ _)) ?_)
    case c177 => exact pt_cells rfl rfl
    case c180 => rfl
    case c178 => simp [ptC]
    rintro v L' rfl
    refine D.ph (.g0 (.kv rfl (.assign rfl) (.pf (.ret (.blk_r (.then_r (.slMakeN 2 1 (b := b12) (xs := ([(1 + pickZ a.2.2.1 31, wldZ)] : List Ac).flatMap acC) (by repeat' constructor) rfl rfl (.toRd (m := 1) (by repeat' constructor) (.ptCast (b := b0) (l' := ptC (⟨1, (kidZ z.1 (nm6 (pickZ a.2.2.1 6))), a.2.2.2.1, (.slice (some ⟨b12, 0, none⟩) 1 1), [(1 + pickZ a.2.2.1 31, wldZ)], 0, z.2.2.st.cver + 1, 0, .slice none 0 0⟩ : Pt)) (by repeat' constructor) rfl (.rtFold (x := x) (τ := τ) (l := m) hm (by repeat' constructor) rfl rfl rfl rfl rfl ?_))))))))))
    exact .d2 rfl (.cellA rfl ag_37 (by repeat' constructor) (by simp [ptC]) rfl) (.tmp rfl) ⟨(⟨1, (kidZ z.1 (nm6 (pickZ a.2.2.1 6))), a.2.2.2.1, (.slice (some ⟨b12, 0, none⟩) 1 1), [(1 + pickZ a.2.2.1 31, wldZ)], 0, z.2.2.st.cver + 1, 0, .slice none 0 0⟩ : Pt), false, rfl, (fun e => by cases e), ⟨rfl, rfl, by simp, by first | exact hpl62 | (simp; done) | (show z.1.length ≤ 62; omega)⟩, rfl⟩
   refine D.kDF (t := 97) rfl h12_98 (.gz rfl (.gz rfl (.gz rfl (.gz rfl (.gz rfl (.gz rfl (.k rfl (.pickF rfl rfl) (.k rfl (.move rfl) (.gz rfl (.gz rfl (.gz rfl (.k rfl (.pickF rfl rfl) (.hh rfl (.buildSlice (vs := [_]) el_34 ze_90 rfl rfl rfl rfl (by first | (simp [Value.cells]; done) | (intro v hv; simp only [List.mem_cons, List.not_mem_nil, or_false] at hv; (repeat (first | (subst hv; rfl) | (rcases hv with hv | hv; (subst hv; rfl)))))) (by decide)) ?_)))))))))))))
   rintro v L' ⟨b12, rfl, rfl⟩
   refine D.kv rfl (.to (v' := .agg (ptC (⟨1, (kidZ z.1 (nm6 (pickZ a.2.2.1 6))), a.2.2.2.1, (.slice (some ⟨b12, 0, none⟩) 1 1), [(1 + pickZ a.2.2.1 31, wldZ)], 0, z.2.2.st.cver + 1, 0, .slice none 0 0⟩ : Pt)).toArray) (.build (us := [(0, _), (1, _), (2, _), (3, _), (4, _), (5, _)]) fl_37 ze_37 rfl rfl (by simp [isCell])) rfl) (.hh rfl (.storeA rfl rfl ?c187 sz_37 ?c190 ?c188 (nfz0 _ _)) ?_)
   case c187 => exact pt_cells rfl rfl
   case c190 => rfl
   case c188 => simp [ptC]
   rintro v L' rfl
   refine D.ph (.g0 (.kv rfl (.assign rfl) (.pf (.ret (.blk_r (.then_r (.slMakeN 2 1 (b := b12) (xs := ([(1 + pickZ a.2.2.1 31, wldZ)] : List Ac).flatMap acC) (by repeat' constructor) rfl rfl (.toRd (m := 1) (by repeat' constructor) (.ptCast (b := b0) (l' := ptC (⟨1, (kidZ z.1 (nm6 (pickZ a.2.2.1 6))), a.2.2.2.1, (.slice (some ⟨b12, 0, none⟩) 1 1), [(1 + pickZ a.2.2.1 31, wldZ)], 0, z.2.2.st.cver + 1, 0, .slice none 0 0⟩ : Pt)) (by repeat' constructor) rfl (.rtFold (x := x) (τ := τ) (l := m) hm (by repeat' constructor) rfl rfl rfl rfl rfl ?_))))))))))
   exact .d2 rfl (.cellA rfl ag_37 (by repeat' constructor) (by simp [ptC]) rfl) (.tmp rfl) ⟨(⟨1, (kidZ z.1 (nm6 (pickZ a.2.2.1 6))), a.2.2.2.1, (.slice (some ⟨b12, 0, none⟩) 1 1), [(1 + pickZ a.2.2.1 31, wldZ)], 0, z.2.2.st.cver + 1, 0, .slice none 0 0⟩ : Pt), false, rfl, (fun e => by cases e), ⟨rfl, rfl, by simp, by first | exact hpl62 | (simp; done) | (show z.1.length ≤ 62; omega)⟩, rfl⟩
  refine .kDF (t := 56) rfl h10_58 (.kDF (t := 57) rfl h10_58 (.gk (.gk (.gk (.gk (.u (.pickF rfl rfl) (.nt (.condF rfl (.sk (.seq (.draw [8, 32] [[0, 1, 2, 3, 4, 5, 6, 7, 9, 10, 11, 12, 13, 15, 16, 17, 18, 19, 20, 21, 22, 23, 24, 25, 26, 27, 28, 29, 30, 31, 8, 14, 32], [33]] mixed (by kernel_rfl) (.go [ptc ba _ _, ptc bN _ _, ptc x _ _] (by repeat' constructor) (.k rfl (.move rfl) (.k rfl (.fieldAddr rfl fo_82_3) (.k rfl (.ld rfl ag_9) (.kv rfl (.fieldAddr rfl fo_82_2) (.kv rfl (.ld rfl ag_3) (.m rfl (by kernel_rfl) (.call Tryz.func35 rfl rfl (vs := [_, _]) rfl (pick7_spec _ _ ha.h3 (by decide))) (by repeat' constructor) ?_))))))))))))))))))
  refine D.kv rfl (.add rfl rfl (by omega)) (.kv rfl (.to (v' := .agg (acC (1 + pickZ a.2.2.1 31, wldZ)).toArray) (.build (us := [(0, _), (1, _)]) fl_90 ze_90 rfl rfl (by simp [isCell])) rfl) (.k rfl (.move rfl) (.k rfl (.fieldAddr rfl fo_129_3) (.k rfl (.fieldAddr rfl fo_92_4) (.k rfl (.ld rfl ag_3) (.k rfl (.add rfl rfl (by omega)) (.k rfl (.fieldAddr rfl fo_129_3) (.k rfl (.fieldAddr rfl fo_92_6) (.k rfl (.ld rfl ag_3) (.k rfl (.int rfl rfl rfl) (.k rfl (.move rfl) (.dec (t := 98) rfl (fun h12_98 => ?_) (fun h12_98 => ?_)))))))))))))
  ·refine D.kDT (t := 97) rfl h12_98 (.gq (t := 98) rfl rfl rfl (by kernel_rfl) (.move rfl) (.gq (t := 98) rfl rfl rfl (by kernel_rfl) (.nilp rfl) (.gq (t := 98) rfl rfl rfl (by kernel_rfl) (.fieldAddr rfl fo_87_0) (.gq (t := 98) rfl rfl rfl (by kernel_rfl) (.ld rfl ag_73) (.gq (t := 98) rfl rfl rfl (by kernel_rfl) (.slen rfl Tryz.underlying73 rfl) (.gq (t := 98) rfl rfl rfl (by kernel_rfl) (.int rfl rfl rfl) (.k rfl (.pickT rfl rfl) (.k rfl (.move rfl) (.dec (t := 106) rfl (fun h12_106 => ?_) (fun h12_106 => ?_))))))))))
   ·refine D.kDT (t := 104) rfl h12_106 (.kDT (t := 105) rfl h12_106 (.gq (t := 106) rfl rfl rfl (by kernel_rfl) (.move rfl) (.gm (t := 106) rfl rfl rfl (by kernel_rfl) (.c Tryz.func104 [_] (rcheck_spec _ ?hs215)) (by repeat' constructor) ?_)))
    case hs215 => first | assumption | omega
    refine D.gq (t := 106) rfl rfl rfl (by kernel_rfl) (.int rfl rfl rfl) (.k rfl (.pickT rfl rfl) (.hh rfl (.buildSlice (vs := [_]) el_34 ze_90 rfl rfl rfl rfl (by first | (simp [Value.cells]; done) | (intro v hv; simp only [List.mem_cons, List.not_mem_nil, or_false] at hv; (repeat (first | (subst hv; rfl) | (rcases hv with hv | hv; (subst hv; rfl)))))) (by decide)) ?_))
    rintro v L' ⟨b12, rfl, rfl⟩
    refine D.kv rfl (.to (v' := .agg (ptC (⟨1, (kidZ z.1 (nm6 (pickZ a.2.2.1 6))), a.2.2.2.1, (.slice (some ⟨b12, 0, none⟩) 1 1), [(1 + pickZ a.2.2.1 31, wldZ)], 0, z.2.2.st.cver + 1, 0, .slice none 0 0⟩ : Pt)).toArray) (.build (us := [(0, _), (1, _), (2, _), (3, _), (4, _), (5, _)]) fl_37 ze_37 rfl rfl (by simp [isCell])) rfl) (.hh rfl (.storeA rfl rfl ?c222 sz_37 ?c225 ?c223 (nfz0 _ _)) ?_)
    case c222 => exact pt_cells rfl rfl
    case c225 => rfl
    case c223 => simp [ptC]
    rintro v L' rfl
    refine D.ph (.g0 (.kv rfl (.assign rfl) (.pf (.ret (.blk_r (.then_r (.slMakeN 2 1 (b := b12) (xs := ([(1 + pickZ a.2.2.1 31, wldZ)] : List Ac).flatMap acC) (by repeat' constructor) rfl rfl (.toRd (m := 1) (by repeat' constructor) (.ptCast (b := b0) (l' := ptC (⟨1, (kidZ z.1 (nm6 (pickZ a.2.2.1 6))), a.2.2.2.1, (.slice (some ⟨b12, 0, none⟩) 1 1), [(1 + pickZ a.2.2.1 31, wldZ)], 0, z.2.2.st.cver + 1, 0, .slice none 0 0⟩ : Pt)) (by repeat' constructor) rfl (.rtFold (x := x) (τ := τ) (l := m) hm (by repeat' constructor) rfl rfl rfl rfl rfl ?_))))))))))
    exact .d2 rfl (.cellA rfl ag_37 (by repeat' constructor) (by simp [ptC]) rfl) (.tmp rfl) ⟨(⟨1, (kidZ z.1 (nm6 (pickZ a.2.2.1 6))), a.2.2.2.1, (.slice (some ⟨b12, 0, none⟩) 1 1), [(1 + pickZ a.2.2.1 31, wldZ)], 0, z.2.2.st.cver + 1, 0, .slice none 0 0⟩ : Pt), _, rfl, fun _ => ⟨⟨by show (0 : Int) ≤ 1; decide, by show (1 : Int) ≤ 4; decide⟩, hpl62, hd, .inr ⟨_, by omega, by omega, rfl⟩, .inl rfl, ⟨by show 0 ≤ z.2.2.st.cver + 1; omega, by show z.2.2.st.cver + 1 ≤ K + 1; omega⟩, rfl, fun _ => by omega⟩, ⟨rfl, rfl, by simp, by first | exact hpl62 | (simp; done) | (show z.1.length ≤ 62; omega)⟩, rfl⟩
   refine D.kDF (t := 104) rfl h12_106 (.kDF (t := 105) rfl h12_106 (.gz rfl (.gz rfl (.gz rfl (.k rfl (.pickF rfl rfl) (.hh rfl (.buildSlice (vs := [_]) el_34 ze_90 rfl rfl rfl rfl (by first | (simp [Value.cells]; done) | (intro v hv; simp only [List.mem_cons, List.not_mem_nil, or_false] at hv; (repeat (first | (subst hv; rfl) | (rcases hv with hv | hv; (subst hv; rfl)))))) (by decide)) ?_))))))
   rintro v L' ⟨b12, rfl, rfl⟩
   refine D.kv rfl (.to (v' := .agg (ptC (⟨1, (kidZ z.1 (nm6 (pickZ a.2.2.1 6))), a.2.2.2.1, (.slice (some ⟨b12, 0, none⟩) 1 1), [(1 + pickZ a.2.2.1 31, wldZ)], 0, z.2.2.st.cver + 1, 0, .slice none 0 0⟩ : Pt)).toArray) (.build (us := [(0, _), (1, _), (2, _), (3, _), (4, _), (5, _)]) fl_37 ze_37 rfl rfl (by simp [isCell])) rfl) (.hh rfl (.storeA rfl rfl ?c231 sz_37 ?c234 ?c232 (nfz0 _ _)) ?_)
   case c231 => exact pt_cells rfl rfl
   case c234 => rfl
   case c232 => simp [ptC]
   rintro v L' rfl
   refine D.ph (.g0 (.kv rfl (.assign rfl) (.pf (.ret (.blk_r (.then_r (.slMakeN 2 1 (b := b12) (xs := ([(1 + pickZ a.2.2.1 31, wldZ)] : List Ac).flatMap acC) (by repeat' constructor) rfl rfl (.toRd (m := 1) (by repeat' constructor) (.ptCast (b := b0) (l' := ptC (⟨1, (kidZ z.1 (nm6 (pickZ a.2.2.1 6))), a.2.2.2.1, (.slice (some ⟨b12, 0, none⟩) 1 1), [(1 + pickZ a.2.2.1 31, wldZ)], 0, z.2.2.st.cver + 1, 0, .slice none 0 0⟩ : Pt)) (by repeat' constructor) rfl (.rtFold (x := x) (τ := τ) (l := m) hm (by repeat' constructor) rfl rfl rfl rfl rfl ?_))))))))))
   exact .d2 rfl (.cellA rfl ag_37 (by repeat' constructor) (by simp [ptC]) rfl) (.tmp rfl) ⟨(⟨1, (kidZ z.1 (nm6 (pickZ a.2.2.1 6))), a.2.2.2.1, (.slice (some ⟨b12, 0, none⟩) 1 1), [(1 + pickZ a.2.2.1 31, wldZ)], 0, z.2.2.st.cver + 1, 0, .slice none 0 0⟩ : Pt), false, rfl, (fun e => by cases e), ⟨rfl, rfl, by simp, by first | exact hpl62 | (simp; done) | (show z.1.length ≤ 62; omega)⟩, rfl⟩
  refine D.kDF (t := 97) rfl h12_98 (.gz rfl (.gz rfl (.gz rfl (.gz rfl (.gz rfl (.gz rfl (.k rfl (.pickF rfl rfl) (.k rfl (.move rfl) (.gz rfl (.gz rfl (.gz rfl (.k rfl (.pickF rfl rfl) (.hh rfl (.buildSlice (vs := [_]) el_34 ze_90 rfl rfl rfl rfl (by first | (simp [Value.cells]; done) | (intro v hv; simp only [List.mem_cons, List.not_mem_nil, or_false] at hv; (repeat (first | (subst hv; rfl) | (rcases hv with hv | hv; (subst hv; rfl)))))) (by decide)) ?_)))))))))))))
  rintro v L' ⟨b12, rfl, rfl⟩
  refine D.kv rfl (.to (v' := .agg (ptC (⟨1, (kidZ z.1 (nm6 (pickZ a.2.2.1 6))), a.2.2.2.1, (.slice (some ⟨b12, 0, none⟩) 1 1), [(1 + pickZ a.2.2.1 31, wldZ)], 0, z.2.2.st.cver + 1, 0, .slice none 0 0⟩ : Pt)).toArray) (.build (us := [(0, _), (1, _), (2, _), (3, _), (4, _), (5, _)]) fl_37 ze_37 rfl rfl (by simp [isCell])) rfl) (.hh rfl (.storeA rfl rfl ?c241 sz_37 ?c244 ?c242 (nfz0 _ _)) ?_)
  case c241 => exact pt_cells rfl rfl
  case c244 => rfl
  case c242 => simp [ptC]
  rintro v L' rfl
  refine D.ph (.g0 (.kv rfl (.assign rfl) (.pf (.ret (.blk_r (.then_r (.slMakeN 2 1 (b := b12) (xs := ([(1 + pickZ a.2.2.1 31, wldZ)] : List Ac).flatMap acC) (by repeat' constructor) rfl rfl (.toRd (m := 1) (by repeat' constructor) (.ptCast (b := b0) (l' := ptC (⟨1, (kidZ z.1 (nm6 (pickZ a.2.2.1 6))), a.2.2.2.1, (.slice (some ⟨b12, 0, none⟩) 1 1), [(1 + pickZ a.2.2.1 31, wldZ)], 0, z.2.2.st.cver + 1, 0, .slice none 0 0⟩ : Pt)) (by repeat' constructor) rfl (.rtFold (x := x) (τ := τ) (l := m) hm (by repeat' constructor) rfl rfl rfl rfl rfl ?_))))))))))
  exact .d2 rfl (.cellA rfl ag_37 (by repeat' constructor) (by simp [ptC]) rfl) (.tmp rfl) ⟨(⟨1, (kidZ z.1 (nm6 (pickZ a.2.2.1 6))), a.2.2.2.1, (.slice (some ⟨b12, 0, none⟩) 1 1), [(1 + pickZ a.2.2.1 31, wldZ)], 0, z.2.2.st.cver + 1, 0, .slice none 0 0⟩ : Pt), false, rfl, (fun e => by cases e), ⟨rfl, rfl, by simp, by first | exact hpl62 | (simp; done) | (show z.1.length ≤ 62; omega)⟩, rfl⟩
 refine .sr (.ui rfl rfl rfl (.an rfl (.condD rfl (fun h111 => ?_) (fun h111 => ?_))))
 ·refine .seq (.sm rfl (.ui rfl rfl rfl (.nt (.condD rfl (fun h114 => ?_) (fun h114 => ?_)))))
  ·refine .sr (.q (.to (v' := .agg (ptC (⟨0, [], [], .slice none 0 0, [], 0, 0, 0, .slice none 0 0⟩ : Pt)).toArray) (.build (us := []) fl_37 ze_37 rfl rfl (by simp [isCell])) rfl) rfl (.oq (.storeA rfl rfl ?c250 sz_37 ?c253 ?c251 (nfz0 _ _)) ?_))
   case c250 => exact pt_cells rfl rfl
   case c253 => rfl
   case c251 => simp [ptC]
   rintro v L' rfl
   refine .an rfl (.rt (.blk_r (.then_r (.add (p := rdO 2 (.slice none 0 0) 0 []) (fun h => rd_none 2 h) (.ptCast (b := b0) (l' := ptC (⟨0, [], [], .slice none 0 0, [], 0, 0, 0, .slice none 0 0⟩ : Pt)) (by repeat' constructor) rfl (.rtFold (x := x) (τ := τ) (l := m) hm (by repeat' constructor) rfl rfl rfl rfl rfl ?_))))))
   exact .d2 rfl (.cellA rfl ag_37 (by repeat' constructor) (by simp [ptC]) rfl) (.tmp rfl) ⟨(⟨0, [], [], .slice none 0 0, [], 0, 0, 0, .slice none 0 0⟩ : Pt), false, rfl, (fun e => by cases e), ⟨rfl, rfl, by simp, by first | exact hpl62 | (simp; done) | (show z.1.length ≤ 62; omega)⟩, rfl⟩
  refine .sk (.seq ?_)
  have h114b : 0 ≤ placeTo τ.nodes (parentZ z.1) := by have h0 : ¬ placeTo τ.nodes (parentZ z.1) < 0 := h114; omega
  obtain ⟨k, hk, hpk, hkp⟩ := place_get (l := τ.nodes) h114b
  have hpz : placeZ τ (parentZ z.1) = k := hpk
  rw [hpz]
  have hkl2 : k < m.length := by omega
  have hlk : alook τ.nodes m[k].1 = some m[k].2.2 := by have g := nds_get hm (i := k) (by omega); have g2 := al_get hnd (i := k) (by omega); rw [g] at g2; exact g2
  have hvk := hinv.ver _ _ hlk
  refine .slShape (T := 129) (sz := 12) (v := .slice am m.length cm) (xs := m.flatMap rnC) (by repeat' constructor) (by omega) fun bm bm' e0 mbm _ => ?_
  simp only [Value.slice.injEq, true_and] at e0
  obtain ⟨rfl, rfl⟩ := e0
  refine .draw [13] [[0, 1, 2, 3, 4, 5, 6, 7, 8, 9, 10, 11, 12, 13], [14]] mixed (by kernel_rfl) (.g0 (.kv rfl (.fieldAddr rfl fo_129_0) (.kv rfl (.ld rfl ag_9) (.mv rfl rfl (.nf rfl rfl rfl fo_87_0 (.kv rfl (.ld rfl ag_73) (.mv rfl rfl (.kv rfl (.indexAddr rfl rfl el_73 (by omega)) (.kv rfl (.fieldAddr rfl fo_129_3) (.kv rfl (.fieldAddr rfl fo_92_4) (.kv rfl (.loadRd (sz := 12) (j := k * 12 + 7) (p := rnR _ m) rfl ag_3 (by repeat' constructor) (fun h hp => slR_rd hp) (by omega) ((rn_cell (l := m) (i := k) (k := 7) (by omega) (by decide)).trans rfl)) (.kv rfl (.add rfl rfl (by omega)) (.kv rfl (.to (v' := .agg (ptC (⟨2, z.1, [], .slice none 0 0, [], 0, m[k].2.2.st.cver + 1, 0, .slice none 0 0⟩ : Pt)).toArray) (.build (us := [(0, _), (1, _), (5, _)]) fl_37 ze_37 rfl rfl (by simp [isCell])) rfl) (.hh rfl (.storeA rfl rfl ?c269 sz_37 ?c272 ?c270 (nfz0 _ _)) ?_))))))))))))))
  case c269 => exact pt_cells rfl rfl
  case c272 => rfl
  case c270 => simp [ptC]
  rintro v L' rfl
  refine D.ph (.g0 (.kv rfl (.assign rfl) (.pf (.ret (.blk_r (.then_r (.add (p := rdO 2 (.slice none 0 0) 0 []) (fun h => rd_none 2 h) (.ptCast (b := b0) (l' := ptC (⟨2, z.1, [], .slice none 0 0, [], 0, m[k].2.2.st.cver + 1, 0, .slice none 0 0⟩ : Pt)) (by repeat' constructor) rfl (.rtFold (x := x) (τ := τ) (l := m) hm (by repeat' constructor) rfl rfl rfl rfl rfl ?_)))))))))
  exact .d2 rfl (.cellA rfl ag_37 (by repeat' constructor) (by simp [ptC]) rfl) (.tmp rfl) ⟨(⟨2, z.1, [], .slice none 0 0, [], 0, m[k].2.2.st.cver + 1, 0, .slice none 0 0⟩ : Pt), _, rfl, fun _ => ⟨⟨by show (0 : Int) ≤ 2; decide, by show (2 : Int) ≤ 4; decide⟩, by show z.1.length ≤ 62; omega, by simp, .inl rfl, .inl rfl, ⟨by show 0 ≤ m[k].2.2.st.cver + 1; omega, by show m[k].2.2.st.cver + 1 ≤ K + 1; omega⟩, rfl, (fun e => by cases e)⟩, ⟨rfl, rfl, by simp, by first | exact hpl62 | (simp; done) | (show z.1.length ≤ 62; omega)⟩, rfl⟩
 refine .sr (.ui rfl rfl rfl (.an rfl (.condD rfl (fun h129 => ?_) (fun h129 => ?_))))
 ·refine .sr (.u (.fieldAddr rfl fo_129_0) (.u (.ld rfl ag_9) (.u (.fieldAddr rfl fo_82_3) (.u (.ld rfl ag_9) (.u (.fieldAddr rfl fo_129_3) (.u (.fieldAddr rfl fo_92_3) (.u (.ld rfl ag_3) (.q (.add rfl rfl (by omega)) rfl (.q (.to (v' := .agg (ptC (⟨3, z.1, a.2.2.2.1, .slice none 0 0, [], 0, z.2.2.st.ver + 1, 0, .slice none 0 0⟩ : Pt)).toArray) (.build (us := [(0, _), (1, _), (2, _), (5, _)]) fl_37 ze_37 rfl rfl (by simp [isCell])) rfl) rfl (.oq (.storeA rfl rfl ?c285 sz_37 ?c288 ?c286 (nfz0 _ _)) ?_))))))))))
  case c285 => exact pt_cells rfl rfl
  case c288 => rfl
  case c286 => simp [ptC]
  rintro v L' rfl
  refine .an rfl (.ret (.blk_r (.then_r (.add (p := rdO 2 (.slice none 0 0) 0 []) (fun h => rd_none 2 h) (.ptCast (b := b0) (l' := ptC (⟨3, z.1, a.2.2.2.1, .slice none 0 0, [], 0, z.2.2.st.ver + 1, 0, .slice none 0 0⟩ : Pt)) (by repeat' constructor) rfl (.rtFold (x := x) (τ := τ) (l := m) hm (by repeat' constructor) rfl rfl rfl rfl rfl ?_))))))
  exact .d2 rfl (.cellA rfl ag_37 (by repeat' constructor) (by simp [ptC]) rfl) (.tmp rfl) ⟨(⟨3, z.1, a.2.2.2.1, .slice none 0 0, [], 0, z.2.2.st.ver + 1, 0, .slice none 0 0⟩ : Pt), _, rfl, fun _ => ⟨⟨by show (0 : Int) ≤ 3; decide, by show (3 : Int) ≤ 4; decide⟩, by show z.1.length ≤ 62; omega, hd, .inl rfl, .inl rfl, ⟨by show 0 ≤ z.2.2.st.ver + 1; omega, by show z.2.2.st.ver + 1 ≤ K + 1; omega⟩, rfl, (fun e => by cases e)⟩, ⟨rfl, rfl, by simp, by first | exact hpl62 | (simp; done) | (show z.1.length ≤ 62; omega)⟩, rfl⟩
 refine .skip (.blk_n (.then_n (.seq (.draw [7, 13] [[0, 1, 2, 3, 4, 5, 6, 8, 9, 10, 11, 7], [12, 13], [14]] mixed (by kernel_rfl) (.go [ptc ba _ _, ptc bN _ _] (by repeat' constructor) (.k rfl (.fieldAddr rfl fo_129_0) (.k rfl (.ld rfl ag_9) (.kv rfl (.fieldAddr rfl fo_82_2) (.kv rfl (.ld rfl ag_3) (.m rfl (by kernel_rfl) (.call Tryz.func35 rfl rfl (vs := [_, _]) rfl (pick7_spec _ _ ha.h3 (by decide))) (by repeat' constructor) ?_))))))))))
 refine D.kv rfl (.add rfl rfl (by omega)) (.kv rfl (.to (v' := .agg (acC (1 + pickZ a.2.2.1 31, wldZ)).toArray) (.build (us := [(0, _), (1, _)]) fl_90 ze_90 rfl rfl (by simp [isCell])) rfl) (.k rfl (.fieldAddr rfl fo_129_3) (.k rfl (.fieldAddr rfl fo_92_5) (.k rfl (.ld rfl ag_3) (.k rfl (.add rfl rfl (by omega)) (.hh rfl (.buildSlice (vs := [_]) el_34 ze_90 rfl rfl rfl rfl (by first | (simp [Value.cells]; done) | (intro v hv; simp only [List.mem_cons, List.not_mem_nil, or_false] at hv; (repeat (first | (subst hv; rfl) | (rcases hv with hv | hv; (subst hv; rfl)))))) (by decide)) ?_))))))
 rintro v L' ⟨b19, rfl, rfl⟩
 refine D.ph (.g0 (.kv rfl (.to (v' := .agg (ptC (⟨4, z.1, [], (.slice (some ⟨b19, 0, none⟩) 1 1), [(1 + pickZ a.2.2.1 31, wldZ)], 0, z.2.2.st.av + 1, 0, .slice none 0 0⟩ : Pt)).toArray) (.build (us := [(0, _), (1, _), (3, _), (5, _)]) fl_37 ze_37 rfl rfl (by simp [isCell])) rfl) (.hh rfl (.storeA rfl rfl ?c306 sz_37 ?c309 ?c307 (nfz0 _ _)) ?_)))
 case c306 => exact pt_cells rfl rfl
 case c309 => rfl
 case c307 => simp [ptC]
 rintro v L' rfl
 refine D.ph (.g0 (.kv rfl (.assign rfl) (.pf (.ret (.slMakeN 2 1 (b := b19) (xs := ([(1 + pickZ a.2.2.1 31, wldZ)] : List Ac).flatMap acC) (by repeat' constructor) rfl rfl (.toRd (m := 1) (by repeat' constructor) (.ptCast (b := b0) (l' := ptC (⟨4, z.1, [], (.slice (some ⟨b19, 0, none⟩) 1 1), [(1 + pickZ a.2.2.1 31, wldZ)], 0, z.2.2.st.av + 1, 0, .slice none 0 0⟩ : Pt)) (by repeat' constructor) rfl (.rtFold (x := x) (τ := τ) (l := m) hm (by repeat' constructor) rfl rfl rfl rfl rfl ?_))))))))
 exact .d2 rfl (.cellA rfl ag_37 (by repeat' constructor) (by simp [ptC]) rfl) (.tmp rfl) ⟨(⟨4, z.1, [], (.slice (some ⟨b19, 0, none⟩) 1 1), [(1 + pickZ a.2.2.1 31, wldZ)], 0, z.2.2.st.av + 1, 0, .slice none 0 0⟩ : Pt), _, rfl, fun _ => ⟨⟨by show (0 : Int) ≤ 4; decide, by show (4 : Int) ≤ 4; decide⟩, by show z.1.length ≤ 62; omega, by simp, .inr ⟨_, by omega, by omega, rfl⟩, .inl rfl, ⟨by show 0 ≤ z.2.2.st.av + 1; omega, by show z.2.2.st.av + 1 ≤ K + 1; omega⟩, rfl, (fun e => by cases e)⟩, ⟨rfl, rfl, by simp, by first | exact hpl62 | (simp; done) | (show z.1.length ≤ 62; omega)⟩, rfl⟩
theorem take_min (l : Bs) : l.take (min (l.length : Int) 100).toNat = l.take 100 := by
 by_cases h : l.length ≤ 100
 ·rw [show (min (l.length : Int) 100).toNat = l.length by omega, List.take_length, List.take_of_length_le h]
 ·rw [show (min (l.length : Int) 100).toNat = 100 by omega]
def smA (s : Ac0) : Ac0 := (s.1, (s.2.1, (s.2.2.1, (s.2.2.2.1.take 100, .slice none 0 0))))
theorem ac0_cells {a : Ac0} (h : isCell a.2.2.2.2 = true) : ∀ v ∈ ac0C a, isCell v = true := by
 intro v hv
 simp only [ac0C, List.mem_cons, List.not_mem_nil, or_false] at hv
 rcases hv with rfl | rfl | rfl | rfl | rfl
 case inr.inr.inr.inr => exact h
 all_goals rfl
structure Smalls (ss : List Ac0) : Prop where
 few : ss.length ≤ 6
 ok : ∀ s ∈ ss, IntsOk s ∧ s.2.2.2.1.length ≤ 100
theorem smalls_of {p : HP} {v : Value} {ss : List Ac0} (h : Acts0 p v ss) {i : Nat} (hi : i ≤ 6) : Smalls ((ss.take i).map smA) := by
 refine ⟨by rw [List.length_map, List.length_take]; omega, fun s hs => ?_⟩
 obtain ⟨y, hy, rfl⟩ := List.mem_map.1 hs
 obtain ⟨g1, g2, g3, -⟩ := h.ok y (List.mem_of_mem_take hy)
 exact ⟨⟨g1, g2, g3⟩, by show (y.2.2.2.1.take 100).length ≤ 100; rw [List.length_take]; omega⟩
theorem acts0_own {v : Value} {ss : List Ac0} (h : Smalls ss) : Acts0 (rdO 5 v ss.length (ss.flatMap ac0C)) v ss :=
 ⟨fun _ hp => hp, by have := h.few; omega, fun s hs => by obtain ⟨⟨g1, g2, g3⟩, g4⟩ := h.ok s hs; exact ⟨g1, g2, g3, by omega⟩⟩
theorem small7_spec (a : Ac0) (q : HP) (ss : List Ac0) (hs : Acts0 q a.2.2.2.2 ss) (hc : ∀ s ∈ ss, isCell s.2.2.2.2 = true) (hd : a.2.2.2.1.length ≤ 1048576) : Fn Tryz.prog 37 #[.agg (ac0C a).toArray] [q] fun v L => ∃ u us, v = .agg (ac0C (a.1, (a.2.1, (a.2.2.1, (a.2.2.2.1.take 100, u))))).toArray ∧ Smalls us ∧ L = [q, rdO 5 u us.length (us.flatMap ac0C)] := by
 refine Fn.intro Tryz.func37 rfl rfl fun F W => ?_
 refine .rdAny (p := q) hs.cells (by repeat' constructor) fun ab cb eab _ => ?_
 have hrd := hs.cells
 rw [eab] at hrd
 have hlen := hs.len
 have hca : isCell a.2.2.2.2 = true := by rw [eab]; rfl
 refine .sr (.oq (.box rfl) ?_)
 rintro v L' ⟨ba, rfl, rfl⟩
 refine .oq (.allocA ze_82) ?_
 rintro v L' ⟨b0, rfl, rfl⟩
 refine .nil (.ptCast (b := ba) (l' := ac0C a) (by repeat' constructor) rfl (.then_n (.sr (.u (.fieldAddr rfl fo_82_3) (.u (.ld rfl ag_9) (.u (.fieldAddr rfl fo_82_3) (.u (.ld rfl ag_9) (.q (.strlen rfl Tryz.underlying9 rfl) rfl (.u (.min2 rfl rfl) (.q (.to (v' := vstr (a.2.2.2.1.take 100)) (.strTo rfl rfl Tryz.underlying9 (by omega)) (by rw [take_min])) rfl (.u (.fieldAddr rfl fo_82_3) (.oq (.store rfl rfl rfl sz_9 ?c13 (nfz0 _ _)) ?_))))))))))))
 case c13 => simp [ac0C]
 rintro v L' rfl
 refine .nil (.ptCast (b := ba) (l' := ac0C (a.1, (a.2.1, (a.2.2.1, (a.2.2.2.1.take 100, a.2.2.2.2))))) (by repeat' constructor) rfl (.then_n (.sr (.an rfl (.seq (.seq (.add (slR_nil 82 5) (.region (.an rfl (.block (.loopK (ι := Nat × Value) (fun q E => (4, vint q.1) :: (3, q.2) :: E) (fun q => [slR 82 5 q.2 ((ss.take q.1).map smA).length (((ss.take q.1).map smA).flatMap ac0C)]) (fun q => q.1 ≤ ss.length ∧ q.1 ≤ 6 ∧ ∃ a c, q.2 = .slice a ((ss.take q.1).map smA).length c) (fun q => ss.length - q.1) (0, .slice none 0 0) (ts := [1, 2]) (.cons rfl (.cons rfl (.nil))) (⟨Nat.zero_le _, Nat.zero_le _, none, 0, rfl⟩) ⟨rfl, rfl, rfl, rfl, trivial⟩ (by repeat' constructor) ?_)))))))))))
 rintro ⟨i, u⟩ ⟨hi, hi6, au, cu, hu⟩
 dsimp only
 dsimp only at hi hi6 hu
 subst hu
 have hal : ((ss.take i).map smA).length = i := by rw [List.length_map, List.length_take]; omega
 refine .seq (.sm rfl (.u (.fieldAddr rfl fo_82_4) (.q (.as (v' := .slice ab ss.length cb) (by exact eab) (.ld rfl ag_22)) rfl (.q (.slen rfl Tryz.underlying22 rfl) rfl (.ui rfl rfl rfl (.m rfl (.dec (t := 19) rfl (fun h4_19 => ?_) (fun h4_19 => ?_))))))))
 ·refine .kDT (t := 18) rfl h4_19 (.grun (t := 19) rfl rfl rfl (.m rfl (.grun (t := 19) rfl rfl rfl (.ui rfl rfl rfl (.u (.pickT rfl rfl) (.nt (.condD rfl (fun h22 => ?_) (fun h22 => ?_))))))))
  ·have hi2 : i < ss.length := by omega
   refine .rdShape (p := q) hrd (by repeat' constructor) (by omega) fun bb ob e1 => ?_
   subst e1
   obtain ⟨hk1, hk2, hk3, hk4⟩ := hs.ok _ (List.getElem_mem hi2)
   have hcs := hc _ (List.getElem_mem hi2)
   refine .sk (.seq (.block (.sr (.u (.fieldAddr rfl fo_82_4) (.q (.as (v' := .slice (some ⟨bb, ob, none⟩) ss.length cb) (by exact eab) (.ld rfl ag_22)) rfl (.m rfl (.q (.indexAddr rfl rfl el_22 (by omega)) rfl (.q (.loadRdA (sz := 5) (j := i * 5) (k := 5) (p := q) (vs := ac0C ss[i]) rfl ag_82 (by repeat' constructor) hrd (by simp) (by omega) (by omega) (flatMap_at (f := ac0C) (sz := 5) (fun _ _ => rfl) (by omega))) rfl (.oq (.allocA ze_82) ?_)))))))))
   rintro v L' ⟨bk, rfl, rfl⟩
   refine .oq (.storeA rfl rfl ?c32 sz_82 ?c35 ?c33 (nfz0 _ _)) ?_
   case c32 => exact ac0_cells hcs
   case c35 => rfl
   case c33 => simp [ac0C]
   rintro v L' rfl
   refine .nil (.ptCast (b := bk) (l' := ac0C ss[i]) (by repeat' constructor) rfl (.then_n (.sr (.u (.fieldAddr rfl fo_82_3) (.u (.ld rfl ag_9) (.u (.fieldAddr rfl fo_82_3) (.u (.ld rfl ag_9) (.q (.strlen rfl Tryz.underlying9 rfl) rfl (.u (.min2 rfl rfl) (.q (.to (v' := vstr (ss[i].2.2.2.1.take 100)) (.strTo rfl rfl Tryz.underlying9 (by omega)) (by rw [take_min])) rfl (.u (.fieldAddr rfl fo_82_3) (.oq (.store rfl rfl rfl sz_9 ?c45 (nfz0 _ _)) ?_))))))))))))
   case c45 => simp [ac0C]
   rintro v L' rfl
   refine .nil (.ptCast (b := bk) (l' := ac0C (ss[i].1, (ss[i].2.1, (ss[i].2.2.1, (ss[i].2.2.2.1.take 100, ss[i].2.2.2.2))))) (by repeat' constructor) rfl (.then_n (.sr (.u (.fieldAddr rfl fo_82_4) (.oq (.store rfl rfl rfl sz_22 ?c49 (nfz0 _ _)) ?_)))))
   case c49 => simp [ac0C]
   rintro v L' rfl
   refine .nil (.ptCast (b := bk) (l' := ac0C (smA ss[i])) (by repeat' constructor) rfl (.then_n (.region (.m rfl (.q (.loadAs (vs := ac0C (smA ss[i])) rfl ag_82 (by repeat' constructor) (by simp [ac0C]) rfl) rfl (.oq (.buildSlice (vs := [_]) el_22 ze_82 rfl rfl rfl rfl (by first | (simp [Value.cells]; done) | (intro v hv; simp only [List.mem_cons, List.not_mem_nil, or_false] at hv; (repeat (first | (subst hv; rfl) | (rcases hv with hv | hv; (subst hv; rfl)))))) (by decide)) ?_))))))
   rintro v L' ⟨bo, rfl, rfl⟩
   refine .oq (.append1 rfl rfl rfl el_22 ze_82 rfl rfl ?c56 ?c57 (Nat.le_refl _) ?c58 (by decide)) ?_
   case c56 => first | exact ac0_cells rfl | (simp only [List.map_cons, List.map_nil, List.flatten_cons, List.flatten_nil, List.append_nil]; exact ac0_cells rfl)
   case c57 => rfl
   case c58 => first | omega | (simp; omega)
   rintro v L' ⟨⟨a9_3, c9_3, rfl⟩, rfl⟩
   refine .a rfl (.nil (.blk_n (.then_n (.region (.m rfl (.q (.add rfl rfl (by omega)) rfl (.an rfl ?_)))))))
   have hst : ((ss.take (i + 1)).map smA) = ((ss.take i).map smA) ++ [smA ss[i]] := by rw [List.take_succ_eq_append_getElem hi2, List.map_append]; rfl
   rw [show ((ss.take i).map smA).length + 1 = ((ss.take (i + 1)).map smA).length by rw [hst, List.length_append]; rfl]
   refine .slCast (T := 82) (sz := 5) (m' := ((ss.take (i + 1)).map smA).length) (xs' := ((ss.take (i + 1)).map smA).flatMap ac0C) (by repeat' constructor) rfl (by rw [hst, List.flatMap_append]; simp; rfl) ?_
   exact .rk ((i + 1, .slice a9_3 ((ss.take (i + 1)).map smA).length c9_3)) (⟨by dsimp only; omega, by dsimp only; omega, _, _, rfl⟩) (by dsimp only; omega) ⟨rfl, rfl, rfl, rfl, trivial⟩
  refine .exit (.then_e (.then_e (.blk_e (.then_n (.sm rfl (.u (.fieldAddr rfl fo_82_4) (.oq (.store rfl rfl rfl sz_22 ?c65 (nfz0 _ _)) ?_)))))))
  case c65 => simp [ac0C]
  rintro v L' rfl
  refine .nil (.ptCast (b := ba) (l' := ac0C (a.1, (a.2.1, (a.2.2.1, (a.2.2.2.1.take 100, (.slice au ((ss.take i).map smA).length cu)))))) (by repeat' constructor) rfl (.then_n (.sr (.q (.loadAs (vs := ac0C (a.1, (a.2.1, (a.2.2.1, (a.2.2.2.1.take 100, (.slice au ((ss.take i).map smA).length cu)))))) rfl ag_82 (by repeat' constructor) (by simp [ac0C]) rfl) rfl (.oq (.storeA rfl rfl ?c69 sz_82 ?c72 ?c70 (nfz0 _ _)) ?_)))))
  case c69 => exact ac0_cells rfl
  case c72 => rfl
  case c70 => simp [ac0C]
  rintro v L' rfl
  refine .nt (.ret (.toRd (T := 82) (sz := 5) (m := ((ss.take i).map smA).length) (by repeat' constructor) (.ptCast (b := b0) (l' := ac0C (a.1, (a.2.1, (a.2.2.1, (a.2.2.2.1.take 100, (.slice au ((ss.take i).map smA).length cu)))))) (by repeat' constructor) rfl ?_)))
  exact .d1 rfl (.cellA rfl ag_82 (by repeat' constructor) (by simp [ac0C]) rfl) ⟨_, _, rfl, smalls_of hs (i := i) hi6, rfl⟩
 refine .kDF (t := 18) rfl h4_19 (.gk (.gk (.u (.pickF rfl rfl) (.nt (.condF rfl (.exit (.then_e (.then_e (.blk_e (.then_n (.sm rfl (.u (.fieldAddr rfl fo_82_4) (.oq (.store rfl rfl rfl sz_22 ?c77 (nfz0 _ _)) ?_)))))))))))))
 case c77 => simp [ac0C]
 rintro v L' rfl
 refine .nil (.ptCast (b := ba) (l' := ac0C (a.1, (a.2.1, (a.2.2.1, (a.2.2.2.1.take 100, (.slice au ((ss.take i).map smA).length cu)))))) (by repeat' constructor) rfl (.then_n (.sr (.q (.loadAs (vs := ac0C (a.1, (a.2.1, (a.2.2.1, (a.2.2.2.1.take 100, (.slice au ((ss.take i).map smA).length cu)))))) rfl ag_82 (by repeat' constructor) (by simp [ac0C]) rfl) rfl (.oq (.storeA rfl rfl ?c81 sz_82 ?c84 ?c82 (nfz0 _ _)) ?_)))))
 case c81 => exact ac0_cells rfl
 case c84 => rfl
 case c82 => simp [ac0C]
 rintro v L' rfl
 refine .nt (.ret (.toRd (T := 82) (sz := 5) (m := ((ss.take i).map smA).length) (by repeat' constructor) (.ptCast (b := b0) (l' := ac0C (a.1, (a.2.1, (a.2.2.1, (a.2.2.2.1.take 100, (.slice au ((ss.take i).map smA).length cu)))))) (by repeat' constructor) rfl ?_)))
 exact .d1 rfl (.cellA rfl ag_82 (by repeat' constructor) (by simp [ac0C]) rfl) ⟨_, _, rfl, smalls_of hs (i := i) hi6, rfl⟩
theorem small7_ro (a : Ac0) (q : HP) (ss : List Ac0) (hs : Acts0 q a.2.2.2.2 ss) (hc : ∀ s ∈ ss, isCell s.2.2.2.2 = true) (hd : a.2.2.2.1.length ≤ 1048576) : Fn Tryz.prog 37 #[.agg (ac0C a).toArray] ([q] ++ []) fun v L => ∃ L', L = [q] ++ L' ∧ (∃ u us, v = .agg (ac0C (a.1, (a.2.1, (a.2.2.1, (a.2.2.2.1.take 100, u))))).toArray ∧ Smalls us ∧ L' = [rdO 5 u us.length (us.flatMap ac0C)]) :=
 (small7_spec a q ss hs hc hd).mono fun v L ⟨u, us, e1, e2, e3⟩ => ⟨_, e3, u, us, e1, e2, rfl⟩
def applyZ0 (τ : Tr) (zx : Int) (x : Pt) (subs : List Pt) : Tr × (List Ev × Int) :=
 if x.kind = 5 then (if 0 < x.own then openS τ x.own x.num x.data else τ, ([], 0))
 else if x.kind = 6 then (dropS (partsZ τ zx (subs.filter isDel)).1 x.own, ((partsZ τ zx (subs.filter isDel)).2, 0))
 else if x.kind = 7 then ((partsZ τ zx subs).1, ((partsZ τ zx subs).2, 0))
 else if x.kind = 8 then (τ, ([], x.err))
 else ((partZ τ x zx).1, ((partZ τ x zx).2, 0))
theorem part_zx (τ : Tr) (x : Pt) (zx z : Int) : partZ (zxT τ z) x zx = (zxT (partZ τ x zx).1 z, (partZ τ x zx).2) := by
 unfold partZ createZ eraseZ
 have h : ∀ p, thereT (zxT τ z) p ↔ thereT τ p := fun p => Iff.rfl
 simp only [h]
 repeat' split
 all_goals first | rfl | contradiction
theorem parts_zx (τ : Tr) (zx z : Int) (l : List Pt) : partsZ (zxT τ z) zx l = (zxT (partsZ τ zx l).1 z, (partsZ τ zx l).2) := by
 have key : ∀ (l : List Pt) (r : Tr × List Ev), l.foldl (fun r x => ((partZ r.1 x zx).1, r.2 ++ (partZ r.1 x zx).2)) (zxT r.1 z, r.2) = (zxT (l.foldl (fun r x => ((partZ r.1 x zx).1, r.2 ++ (partZ r.1 x zx).2)) r).1 z, (l.foldl (fun r x => ((partZ r.1 x zx).1, r.2 ++ (partZ r.1 x zx).2)) r).2) := by
  intro l
  induction l with
  | nil => intro r; rfl
  | cons x l ih =>
   intro r
   rw [List.foldl_cons, List.foldl_cons]
   dsimp only
   rw [part_zx]
   exact ih ((partZ r.1 x zx).1, r.2 ++ (partZ r.1 x zx).2)
 exact key l (τ, [])
theorem apply_zx (τ : Tr) (zx : Int) (x : Pt) (subs : List Pt) : applyZ τ zx x subs = (zxT (applyZ0 τ zx x subs).1 zx, (applyZ0 τ zx x subs).2) := by
 unfold applyZ applyZ0
 dsimp only
 rw [part_zx, parts_zx, parts_zx]
 repeat' split
 all_goals rfl
theorem rapply_spec (x : Nat) (τ : Tr) (zx ses xid : Int) (y : Pt) (subs : List Pt) (p : HP) (hx : TxA p y subs) (N : Nat) (ho : τ.Ok N) (hN : N + subs.length + 1 ≤ 1073741824) : Fn Tryz.prog 30 #[vptr x, .agg ([vint zx, vint ses, vint xid] ++ ptC y).toArray] [refR x τ, p] fun v L => ∃ u e, v = .tuple #[u, vint e] ∧ e = (applyZ τ zx y subs).2.2 ∧ (∃ a c, u = .slice a (applyZ τ zx y subs).2.1.length c) ∧ L = [refR x (applyZ τ zx y subs).1, p, slR 150 3 u (applyZ τ zx y subs).2.1.length ((applyZ τ zx y subs).2.1.flatMap evC)] := by
 refine Fn.intro Tryz.func30 rfl rfl fun F W => ?_
 refine .rdAny (p := p) hx.rd (by repeat' constructor) fun asb csb esub _ => ?_
 have hrd := hx.rd
 rw [esub] at hrd
 have hfs := hx.few
 have hosf := ho.sfew
 refine .sr (.oq (.box rfl) ?_)
 rintro v L' ⟨be, rfl, rfl⟩
 refine .a rfl (.a rfl (.nil (.ptCast (b := be) (l' := ([vint zx, vint ses, vint xid] ++ ptC y)) (by repeat' constructor) rfl (.then_n (.sr (.u (.fieldAddr rfl fo_39_3) (.q (.loadAs (vs := ptC y) rfl ag_37 (by repeat' constructor) (by simp [ptC]) rfl) rfl (.oq (.allocA ze_37) ?_))))))))
 rintro v L' ⟨bx, rfl, rfl⟩
 refine .oq (.storeA rfl rfl ?c9 sz_37 ?c12 ?c10 (nfz0 _ _)) ?_
 case c9 => exact hx.own.all
 case c12 => rfl
 case c10 => simp [ptC]
 rintro v L' rfl
 refine .nil (.ptCast (b := bx) (l' := ptC y) (by repeat' constructor) rfl (.then_n (.sr (.an rfl (.sr (.an rfl (.seq (.sr (.u (.fieldAddr rfl fo_37_0) (.u (.ld rfl ag_3) (.nt (.block (.sr (.ui rfl rfl rfl (.an rfl (.condD rfl (fun h20 => ?_) (fun h20 => ?_)))))))))))))))))
 ·refine .sr (.u (.fieldAddr rfl fo_37_4) (.u (.ld rfl ag_3) (.ui rfl rfl rfl (.nt (.condD rfl (fun h24 => ?_) (fun h24 => ?_))))))
  ·refine .region (.m rfl (.u (.fieldAddr rfl fo_37_4) (.u (.ld rfl ag_3) (.u (.fieldAddr rfl fo_37_5) (.u (.ld rfl ag_3) (.u (.fieldAddr rfl fo_37_2) (.u (.ld rfl ag_9) (.q (.to (v' := .agg (rsC (y.own, (y.num, y.data))).toArray) (.build (us := [(0, _), (1, _), (2, _)]) fl_127 ze_127 rfl rfl (by simp [isCell])) rfl) rfl (.cv Tryz.func78 [_, _] (ropen_spec x τ y.own y.num y.data N ho (by omega)) ?_)))))))))
   refine .nil (.blk_n (.then_n (.seq (.add (slR_nil 150 3) ?_))))
   have hz : (applyZ τ zx y subs) = (zxT (openS τ y.own y.num y.data) zx, ([], 0)) := by rw [apply_zx]; unfold applyZ0; rw [if_pos h20, if_pos (show 0 < y.own by omega)]
   refine .rtOpen (x := x) (τ := (openS τ y.own y.num y.data)) (by repeat' constructor) fun an cn as1 cs l hl => (.region (.m rfl (.u (.fieldAddr rfl fo_39_0) (.u (.ld rfl ag_3) (.nf rfl fo_87_2 (.st rfl rfl rfl sz_3 ?_))))))
   refine .nil (.rtFold (x := x) (τ := (zxT (openS τ y.own y.num y.data) zx)) (l := l) hl (by repeat' constructor) rfl rfl rfl rfl rfl (.then_n (.sm rfl (.m rfl (.a rfl (.an rfl (.ret (.rfCast (x := x) (τ' := (applyZ τ zx y subs).1) (by repeat' constructor) (by rw [hz]) (.slCast (T := 150) (sz := 3) (m' := (applyZ τ zx y subs).2.1.length) (xs' := (applyZ τ zx y subs).2.1.flatMap evC) (by repeat' constructor) (by (rw [hz]; try rfl)) (by (rw [hz]; try rfl)) ?_)))))))))
   exact .dn rfl rfl ⟨_, _, rfl, by rw [hz], ⟨_, _, by (rw [hz]; try rfl)⟩, rfl⟩
  refine .skip (.blk_n (.then_n (.seq (.add (slR_nil 150 3) ?_))))
  have hz : (applyZ τ zx y subs) = (zxT (τ) zx, ([], 0)) := by rw [apply_zx]; unfold applyZ0; rw [if_pos h20, if_neg (show ¬ 0 < y.own by omega)]
  refine .rtOpen (x := x) (τ := (τ)) (by repeat' constructor) fun an cn as1 cs l hl => (.region (.m rfl (.u (.fieldAddr rfl fo_39_0) (.u (.ld rfl ag_3) (.nf rfl fo_87_2 (.st rfl rfl rfl sz_3 ?_))))))
  refine .nil (.rtFold (x := x) (τ := (zxT (τ) zx)) (l := l) hl (by repeat' constructor) rfl rfl rfl rfl rfl (.then_n (.sm rfl (.m rfl (.a rfl (.an rfl (.ret (.rfCast (x := x) (τ' := (applyZ τ zx y subs).1) (by repeat' constructor) (by rw [hz]) (.slCast (T := 150) (sz := 3) (m' := (applyZ τ zx y subs).2.1.length) (xs' := (applyZ τ zx y subs).2.1.flatMap evC) (by repeat' constructor) (by (rw [hz]; try rfl)) (by (rw [hz]; try rfl)) ?_)))))))))
  exact .dn rfl rfl ⟨_, _, rfl, by rw [hz], ⟨_, _, by (rw [hz]; try rfl)⟩, rfl⟩
 refine .seq (.sr ?_)
 rcases Decidable.em (y.kind = 6) with hk6 | hk6
 ·refine .q (.as (v' := .bool true) (by exact congrArg Value.bool (decide_eq_true hk6)) (.int rfl rfl rfl)) rfl (.an rfl (.condT rfl (.sk (.condT rfl (.seq (.sr (.an rfl (.block (.add (slR_nil 150 3) (.rfCast (x := x) (τ' := (partsZ τ zx ((subs.take 0).filter isDel)).1) (by repeat' constructor) (by rw [List.take_zero]; rfl) (.slCast (T := 150) (sz := 3) (m' := (partsZ τ zx ((subs.take 0).filter isDel)).2.length) (xs' := (partsZ τ zx ((subs.take 0).filter isDel)).2.flatMap evC) (by repeat' constructor) (by rw [List.take_zero]; rfl) (by rw [List.take_zero]; rfl) (.loopK (ι := Nat × Value) (fun q E => (9, vint q.1) :: (7, q.2) :: E) (fun q => [refR x (partsZ τ zx ((subs.take q.1).filter isDel)).1, slR 150 3 q.2 (partsZ τ zx ((subs.take q.1).filter isDel)).2.length ((partsZ τ zx ((subs.take q.1).filter isDel)).2.flatMap evC)]) (fun q => q.1 ≤ subs.length ∧ ∃ a c, q.2 = .slice a (partsZ τ zx ((subs.take q.1).filter isDel)).2.length c) (fun q => subs.length - q.1) (0, .slice none 0 0) (ts := [0, 3, 4, 5, 6, 8]) (.cons rfl (.cons rfl (.cons rfl (.cons rfl (.cons rfl (.cons rfl (.nil))))))) (⟨Nat.zero_le _, none, 0, by rw [List.take_zero]; rfl⟩) ⟨rfl, rfl, rfl, rfl, rfl, rfl, rfl, rfl, trivial⟩ (by repeat' constructor) ?_))))))))))))
  rintro ⟨i, u⟩ ⟨hi, au, cu, hu⟩
  dsimp only
  dsimp only at hi hu
  subst hu
  have hev := parts_ev τ zx ((subs.take i).filter isDel)
  have hfl := List.length_filter_le isDel (subs.take i)
  rw [List.length_take] at hfl
  have hok : (partsZ τ zx ((subs.take i).filter isDel)).1.Ok (N + subs.length) := (ho.parts zx _ (fun w hw => (hx.each w (List.mem_of_mem_take (List.mem_filter.1 hw).1)).few)).more (by omega)
  refine .seq (.sm rfl (.u (.fieldAddr rfl fo_37_7) (.q (.as (v' := .slice asb subs.length csb) (by exact esub) (.ld rfl ag_35)) rfl (.q (.slen rfl Tryz.underlying35 rfl) rfl (.ui rfl rfl rfl (.nt (.condD rfl (fun h41 => ?_) (fun h41 => ?_))))))))
  ·have hi2 : i < subs.length := by omega
   refine .rdShape (p := p) hrd (by repeat' constructor) (by omega) fun bs os e1 => ?_
   subst e1
   have hys := hx.each _ (List.getElem_mem hi2)
   refine .sk (.seq (.block (.sr (.u (.fieldAddr rfl fo_37_0) (.u (.ld rfl ag_3) (.q (.as (v' := .bool false) (by exact congrArg Value.bool (decide_eq_false (by omega))) (.int rfl rfl rfl)) rfl (.m rfl (.grun (t := 47) rfl rfl rfl (.u (.fieldAddr rfl fo_37_7) (.grun (t := 47) rfl rfl rfl (.q (.as (v' := .slice (some ⟨bs, os, none⟩) subs.length csb) (by exact esub) (.ld rfl ag_35)) rfl (.grun (t := 47) rfl rfl rfl (.m rfl (.grun (t := 47) rfl rfl rfl (.q (.indexAddr rfl rfl el_35 (by omega)) rfl (.grun (t := 47) rfl rfl rfl (.u (.fieldAddr rfl fo_37_0) (.grun (t := 47) rfl rfl rfl (.q (.loadRd (sz := 8) (j := i * 8 + 0) (p := p) rfl ag_3 (by repeat' constructor) hrd (by omega) ((flatMap_cell (f := ptC) (sz := 8) (l := subs) (i := i) (k := 0) (fun _ _ => rfl) (by omega) (by decide)).trans rfl)) rfl ?_)))))))))))))))))))
   refine .grun (t := 47) rfl rfl rfl (.ui rfl rfl rfl (.u (.pickF rfl rfl) (.nt (.condD rfl (fun h55 => ?_) (fun h55 => ?_)))))
   ·refine .seq (.draw [8] [[0, 1, 2, 3, 4, 5, 6, 7, 8], [9]] mixed (by kernel_rfl) (.g0 (.mv rfl rfl (.kv rfl (.fieldAddr rfl fo_37_7) (.kv rfl (.as (v' := .slice (some ⟨bs, os, none⟩) subs.length csb) (by exact esub) (.ld rfl ag_35)) (.mv rfl rfl (.kv rfl (.indexAddr rfl rfl el_35 (by omega)) (.kv rfl (.loadRdA (sz := 8) (j := i * 8) (k := 8) (p := p) (vs := ptC subs[i]) rfl ag_37 (by repeat' constructor) hrd (by simp) (by omega) (by omega) (flatMap_at (f := ptC) (sz := 8) (fun _ _ => rfl) (by omega))) (.kv rfl (.fieldAddr rfl fo_39_0) (.kv rfl (.ld rfl ag_3) (.hh rfl (.c Tryz.func79 [_, _, _] (rpart_spec x (partsZ τ zx ((subs.take i).filter isDel)).1 subs[i] zx p hys (N + subs.length) hok (by omega))) ?_)))))))))))
    rintro v L' ⟨a15, c15, rfl, rfl⟩
    refine D.ph (.g0 (.kv rfl (.assign rfl) (.pf (.region (.m rfl (.m rfl (.oq (.append (n := (partsZ τ zx ((subs.take i).filter isDel)).2.length) (m := (partZ (partsZ τ zx ((subs.take i).filter isDel)).1 subs[i] zx).2.length) (ys := (partZ (partsZ τ zx ((subs.take i).filter isDel)).1 subs[i] zx).2.flatMap evC) (p := slR 150 3 (.slice a15 (partZ (partsZ τ zx ((subs.take i).filter isDel)).1 subs[i] zx).2.length c15) (partZ (partsZ τ zx ((subs.take i).filter isDel)).1 subs[i] zx).2.length ((partZ (partsZ τ zx ((subs.take i).filter isDel)).1 subs[i] zx).2.flatMap evC)) rfl rfl rfl el_30 (.inl ⟨_, Tryz.underlying30⟩) ze_150 rfl rfl ?hc76 ?hr77 ?hb78 (by decide)) ?_)))))))
    case hc76 => exact evC_cells _
    case hr77 => exact fun h hp => slR_rd hp
    case hb78 => have := part_ev (partsZ τ zx ((subs.take i).filter isDel)).1 subs[i] zx; omega
    rintro v L' ⟨⟨a16_2, c16_2, rfl⟩, rfl⟩
    refine .a rfl (.nil (.blk_n (.then_n (.region (.m rfl (.q (.add rfl rfl (by omega)) rfl (.an rfl ?_)))))))
    have hst := filter_take_yes (f := isDel) hi2 (by unfold isDel; rw [decide_eq_true h55])
    refine .rfCast (x := x) (τ' := (partsZ τ zx ((subs.take (i + 1)).filter isDel)).1) (by repeat' constructor) (by rw [hst, parts_snoc]) (.slCast (T := 150) (sz := 3) (m' := (partsZ τ zx ((subs.take (i + 1)).filter isDel)).2.length) (xs' := (partsZ τ zx ((subs.take (i + 1)).filter isDel)).2.flatMap evC) (by repeat' constructor) (by rw [hst, parts_snoc]; simp) (by rw [hst, parts_snoc]; simp) ?_)
    exact .rk ((i + 1, .slice a16_2 ((partsZ τ zx ((subs.take i).filter isDel)).2.length + (partZ (partsZ τ zx ((subs.take i).filter isDel)).1 subs[i] zx).2.length) c16_2)) (⟨by dsimp only; omega, _, _, by rw [hst, parts_snoc, List.length_append]⟩) (by dsimp only; omega) ⟨rfl, rfl, rfl, rfl, rfl, rfl, rfl, rfl, trivial⟩
   refine .skip (.blk_n (.then_n (.region (.m rfl (.q (.add rfl rfl (by omega)) rfl (.an rfl ?_))))))
   have hst := filter_take_no (f := isDel) hi2 (by unfold isDel; rw [decide_eq_false h55])
   refine .rfCast (x := x) (τ' := (partsZ τ zx ((subs.take (i + 1)).filter isDel)).1) (by repeat' constructor) (by rw [hst]) (.slCast (T := 150) (sz := 3) (m' := (partsZ τ zx ((subs.take (i + 1)).filter isDel)).2.length) (xs' := (partsZ τ zx ((subs.take (i + 1)).filter isDel)).2.flatMap evC) (by repeat' constructor) (by rw [hst]) (by rw [hst]) ?_)
   exact .rk ((i + 1, .slice au (partsZ τ zx ((subs.take i).filter isDel)).2.length cu)) (⟨by dsimp only; omega, _, _, by rw [hst]⟩) (by dsimp only; omega) ⟨rfl, rfl, rfl, rfl, rfl, rfl, rfl, rfl, trivial⟩
  have hii : i = subs.length := by omega
  rw [hii, List.take_length]
  refine .exit (.then_e (.then_e (.blk_e (.then_n (.sr (.u (.fieldAddr rfl fo_37_0) (.u (.ld rfl ag_3) (.q (.as (v' := .bool true) (by exact congrArg Value.bool (decide_eq_true hk6)) (.int rfl rfl rfl)) rfl (.nt (.condT rfl (.region (.m rfl (.u (.fieldAddr rfl fo_37_4) (.u (.ld rfl ag_3) (.cv Tryz.func80 [_, _] (rdrop_spec x (partsZ τ zx (subs.filter isDel)).1 y.own (by have := (ho.parts zx (subs.filter isDel) (fun w hw => (hx.each w (List.mem_filter.1 hw).1).few)).sfew; have := List.length_filter_le isDel subs; omega)) ?_)))))))))))))))
  refine .nil (.blk_n (.then_n (.seq ?_)))
  have hz : (applyZ τ zx y subs) = (zxT (dropS (partsZ τ zx (subs.filter isDel)).1 y.own) zx, ((partsZ τ zx (subs.filter isDel)).2, 0)) := by rw [apply_zx]; unfold applyZ0; rw [if_neg h20, if_pos hk6]
  refine .rtOpen (x := x) (τ := (dropS (partsZ τ zx (subs.filter isDel)).1 y.own)) (by repeat' constructor) fun an cn as1 cs l hl => (.region (.m rfl (.u (.fieldAddr rfl fo_39_0) (.u (.ld rfl ag_3) (.nf rfl fo_87_2 (.st rfl rfl rfl sz_3 ?_))))))
  refine .nil (.rtFold (x := x) (τ := (zxT (dropS (partsZ τ zx (subs.filter isDel)).1 y.own) zx)) (l := l) hl (by repeat' constructor) rfl rfl rfl rfl rfl (.then_n (.sm rfl (.m rfl (.a rfl (.an rfl (.ret (.rfCast (x := x) (τ' := (applyZ τ zx y subs).1) (by repeat' constructor) (by rw [hz]) (.slCast (T := 150) (sz := 3) (m' := (applyZ τ zx y subs).2.1.length) (xs' := (applyZ τ zx y subs).2.1.flatMap evC) (by repeat' constructor) (by (rw [hz]; try rfl)) (by (rw [hz]; try rfl)) ?_)))))))))
  exact .dn rfl rfl ⟨_, _, rfl, by rw [hz], ⟨_, _, by (rw [hz]; try rfl)⟩, rfl⟩
 refine .q (.as (v' := .bool false) (by exact congrArg Value.bool (decide_eq_false hk6)) (.int rfl rfl rfl)) rfl (.an rfl (.condF rfl (.region ?_)))
 rcases Decidable.em (y.kind = 7) with hk7 | hk7
 ·refine .q (.as (v' := .bool true) (by exact congrArg Value.bool (decide_eq_true hk7)) (.int rfl rfl rfl)) rfl (.an rfl (.condT rfl (.seq (.sr (.an rfl (.block (.add (slR_nil 150 3) (.rfCast (x := x) (τ' := (partsZ τ zx (subs.take 0)).1) (by repeat' constructor) (by rw [List.take_zero]; rfl) (.slCast (T := 150) (sz := 3) (m' := (partsZ τ zx (subs.take 0)).2.length) (xs' := (partsZ τ zx (subs.take 0)).2.flatMap evC) (by repeat' constructor) (by rw [List.take_zero]; rfl) (by rw [List.take_zero]; rfl) (.loopK (ι := Nat × Value) (fun q E => (9, vint q.1) :: (7, q.2) :: E) (fun q => [refR x (partsZ τ zx (subs.take q.1)).1, slR 150 3 q.2 (partsZ τ zx (subs.take q.1)).2.length ((partsZ τ zx (subs.take q.1)).2.flatMap evC)]) (fun q => q.1 ≤ subs.length ∧ ∃ a c, q.2 = .slice a (partsZ τ zx (subs.take q.1)).2.length c) (fun q => subs.length - q.1) (0, .slice none 0 0) (ts := [0, 3, 4, 5, 6, 8]) (.cons rfl (.cons rfl (.cons rfl (.cons rfl (.cons rfl (.cons rfl (.nil))))))) (⟨Nat.zero_le _, none, 0, by rw [List.take_zero]; rfl⟩) ⟨rfl, rfl, rfl, rfl, rfl, rfl, rfl, rfl, trivial⟩ (by repeat' constructor) ?_))))))))))
  rintro ⟨i, u⟩ ⟨hi, au, cu, hu⟩
  dsimp only
  dsimp only at hi hu
  subst hu
  have hev := parts_ev τ zx (subs.take i)
  have hfl := List.length_take_le i subs
  have hok : (partsZ τ zx (subs.take i)).1.Ok (N + subs.length) := (ho.parts zx _ (fun w hw => (hx.each w (List.mem_of_mem_take hw)).few)).more (by rw [List.length_take]; omega)
  refine .seq (.sm rfl (.u (.fieldAddr rfl fo_37_7) (.q (.as (v' := .slice asb subs.length csb) (by exact esub) (.ld rfl ag_35)) rfl (.q (.slen rfl Tryz.underlying35 rfl) rfl (.ui rfl rfl rfl (.nt (.condD rfl (fun h41 => ?_) (fun h41 => ?_))))))))
  ·have hi2 : i < subs.length := by omega
   refine .rdShape (p := p) hrd (by repeat' constructor) (by omega) fun bs os e1 => ?_
   subst e1
   have hys := hx.each _ (List.getElem_mem hi2)
   refine .sk (.seq (.block (.sr (.u (.fieldAddr rfl fo_37_0) (.u (.ld rfl ag_3) (.q (.as (v' := .bool true) (by exact congrArg Value.bool (decide_eq_true hk7)) (.int rfl rfl rfl)) rfl (.m rfl (.gk (.gk (.gk (.gk (.gk (.gk (.gk (.u (.pickT rfl rfl) (.nt (.condT rfl (.seq (.draw [8] [[0, 1, 2, 3, 4, 5, 6, 7, 8], [9]] mixed (by kernel_rfl) (.g0 (.mv rfl rfl (.kv rfl (.fieldAddr rfl fo_37_7) (.kv rfl (.as (v' := .slice (some ⟨bs, os, none⟩) subs.length csb) (by exact esub) (.ld rfl ag_35)) (.mv rfl rfl (.kv rfl (.indexAddr rfl rfl el_35 (by omega)) (.kv rfl (.loadRdA (sz := 8) (j := i * 8) (k := 8) (p := p) (vs := ptC subs[i]) rfl ag_37 (by repeat' constructor) hrd (by simp) (by omega) (by omega) (flatMap_at (f := ptC) (sz := 8) (fun _ _ => rfl) (by omega))) ?_))))))))))))))))))))))))))
   refine D.kv rfl (.fieldAddr rfl fo_39_0) (.kv rfl (.ld rfl ag_3) (.hh rfl (.c Tryz.func79 [_, _, _] (rpart_spec x (partsZ τ zx (subs.take i)).1 subs[i] zx p hys (N + subs.length) hok (by omega))) ?_))
   rintro v L' ⟨a15, c15, rfl, rfl⟩
   refine D.ph (.g0 (.kv rfl (.assign rfl) (.pf (.region (.m rfl (.m rfl (.oq (.append (n := (partsZ τ zx (subs.take i)).2.length) (m := (partZ (partsZ τ zx (subs.take i)).1 subs[i] zx).2.length) (ys := (partZ (partsZ τ zx (subs.take i)).1 subs[i] zx).2.flatMap evC) (p := slR 150 3 (.slice a15 (partZ (partsZ τ zx (subs.take i)).1 subs[i] zx).2.length c15) (partZ (partsZ τ zx (subs.take i)).1 subs[i] zx).2.length ((partZ (partsZ τ zx (subs.take i)).1 subs[i] zx).2.flatMap evC)) rfl rfl rfl el_30 (.inl ⟨_, Tryz.underlying30⟩) ze_150 rfl rfl ?hc126 ?hr127 ?hb128 (by decide)) ?_)))))))
   case hc126 => exact evC_cells _
   case hr127 => exact fun h hp => slR_rd hp
   case hb128 => have := part_ev (partsZ τ zx (subs.take i)).1 subs[i] zx; omega
   rintro v L' ⟨⟨a16_2, c16_2, rfl⟩, rfl⟩
   refine .a rfl (.nil (.blk_n (.then_n (.region (.m rfl (.q (.add rfl rfl (by omega)) rfl (.an rfl ?_)))))))
   have hst := List.take_succ_eq_append_getElem hi2
   refine .rfCast (x := x) (τ' := (partsZ τ zx (subs.take (i + 1))).1) (by repeat' constructor) (by rw [hst, parts_snoc]) (.slCast (T := 150) (sz := 3) (m' := (partsZ τ zx (subs.take (i + 1))).2.length) (xs' := (partsZ τ zx (subs.take (i + 1))).2.flatMap evC) (by repeat' constructor) (by rw [hst, parts_snoc]; simp) (by rw [hst, parts_snoc]; simp) ?_)
   exact .rk ((i + 1, .slice a16_2 ((partsZ τ zx (subs.take i)).2.length + (partZ (partsZ τ zx (subs.take i)).1 subs[i] zx).2.length) c16_2)) (⟨by dsimp only; omega, _, _, by rw [hst, parts_snoc, List.length_append]⟩) (by dsimp only; omega) ⟨rfl, rfl, rfl, rfl, rfl, rfl, rfl, rfl, trivial⟩
  have hii : i = subs.length := by omega
  rw [hii, List.take_length]
  refine .exit (.then_e (.then_e (.blk_e (.then_n (.sr (.u (.fieldAddr rfl fo_37_0) (.u (.ld rfl ag_3) (.q (.as (v' := .bool false) (by exact congrArg Value.bool (decide_eq_false (by omega))) (.int rfl rfl rfl)) rfl (.nt (.condF rfl (.skip (.blk_n (.then_n (.seq ?_))))))))))))))
  have hz : (applyZ τ zx y subs) = (zxT ((partsZ τ zx subs).1) zx, ((partsZ τ zx subs).2, 0)) := by rw [apply_zx]; unfold applyZ0; rw [if_neg h20, if_neg hk6, if_pos hk7]
  refine .rtOpen (x := x) (τ := ((partsZ τ zx subs).1)) (by repeat' constructor) fun an cn as1 cs l hl => (.region (.m rfl (.u (.fieldAddr rfl fo_39_0) (.u (.ld rfl ag_3) (.nf rfl fo_87_2 (.st rfl rfl rfl sz_3 ?_))))))
  refine .nil (.rtFold (x := x) (τ := (zxT ((partsZ τ zx subs).1) zx)) (l := l) hl (by repeat' constructor) rfl rfl rfl rfl rfl (.then_n (.sm rfl (.m rfl (.a rfl (.an rfl (.ret (.rfCast (x := x) (τ' := (applyZ τ zx y subs).1) (by repeat' constructor) (by rw [hz]) (.slCast (T := 150) (sz := 3) (m' := (applyZ τ zx y subs).2.1.length) (xs' := (applyZ τ zx y subs).2.1.flatMap evC) (by repeat' constructor) (by (rw [hz]; try rfl)) (by (rw [hz]; try rfl)) ?_)))))))))
  exact .dn rfl rfl ⟨_, _, rfl, by rw [hz], ⟨_, _, by (rw [hz]; try rfl)⟩, rfl⟩
 refine .q (.as (v' := .bool false) (by exact congrArg Value.bool (decide_eq_false hk7)) (.int rfl rfl rfl)) rfl (.an rfl (.condF rfl (.sr (.ui rfl rfl rfl (.an rfl (.condD rfl (fun h75 => ?_) (fun h75 => ?_)))))))
 ·refine .region (.u (.fieldAddr rfl fo_37_6) (.u (.ld rfl ag_31) (.a rfl (.nil (.blk_n (.then_n (.seq (.add (slR_nil 150 3) ?_))))))))
  have hz : (applyZ τ zx y subs) = (zxT (τ) zx, ([], y.err)) := by rw [apply_zx]; unfold applyZ0; rw [if_neg h20, if_neg hk6, if_neg hk7, if_pos h75]
  refine .rtOpen (x := x) (τ := (τ)) (by repeat' constructor) fun an cn as1 cs l hl => (.region (.m rfl (.u (.fieldAddr rfl fo_39_0) (.u (.ld rfl ag_3) (.nf rfl fo_87_2 (.st rfl rfl rfl sz_3 ?_))))))
  refine .nil (.rtFold (x := x) (τ := (zxT (τ) zx)) (l := l) hl (by repeat' constructor) rfl rfl rfl rfl rfl (.then_n (.sm rfl (.m rfl (.a rfl (.an rfl (.ret (.rfCast (x := x) (τ' := (applyZ τ zx y subs).1) (by repeat' constructor) (by rw [hz]) (.slCast (T := 150) (sz := 3) (m' := (applyZ τ zx y subs).2.1.length) (xs' := (applyZ τ zx y subs).2.1.flatMap evC) (by repeat' constructor) (by (rw [hz]; try rfl)) (by (rw [hz]; try rfl)) ?_)))))))))
  exact .dn rfl rfl ⟨_, _, rfl, by rw [hz], ⟨_, _, by (rw [hz]; try rfl)⟩, rfl⟩
 refine .region (.m rfl (.q (.loadAs (vs := ptC y) rfl ag_37 (by repeat' constructor) (by simp [ptC]) rfl) rfl (.u (.fieldAddr rfl fo_39_0) (.u (.ld rfl ag_3) (.oq (.c Tryz.func79 [_, _, _] (rpart_spec x τ y zx p hx.own N ho (by omega))) ?_)))))
 rintro v L' ⟨a5, c5, rfl, rfl⟩
 refine .a rfl (.nil (.blk_n (.then_n (.seq ?_))))
 have hz : (applyZ τ zx y subs) = (zxT ((partZ τ y zx).1) zx, ((partZ τ y zx).2, 0)) := by rw [apply_zx]; unfold applyZ0; rw [if_neg h20, if_neg hk6, if_neg hk7, if_neg h75]
 refine .rtOpen (x := x) (τ := ((partZ τ y zx).1)) (by repeat' constructor) fun an cn as1 cs l hl => (.region (.m rfl (.u (.fieldAddr rfl fo_39_0) (.u (.ld rfl ag_3) (.nf rfl fo_87_2 (.st rfl rfl rfl sz_3 ?_))))))
 refine .nil (.rtFold (x := x) (τ := (zxT ((partZ τ y zx).1) zx)) (l := l) hl (by repeat' constructor) rfl rfl rfl rfl rfl (.then_n (.sm rfl (.m rfl (.a rfl (.an rfl (.ret (.rfCast (x := x) (τ' := (applyZ τ zx y subs).1) (by repeat' constructor) (by rw [hz]) (.slCast (T := 150) (sz := 3) (m' := (applyZ τ zx y subs).2.1.length) (xs' := (applyZ τ zx y subs).2.1.flatMap evC) (by repeat' constructor) (by (rw [hz]; try rfl)) (by (rw [hz]; try rfl)) ?_)))))))))
 exact .dn rfl rfl ⟨_, _, rfl, by rw [hz], ⟨_, _, by (rw [hz]; try rfl)⟩, rfl⟩
set_option maxHeartbeats 1000000 in
theorem txn7_spec (x : Nat) (τ : Tr) (a : Ac0) (q : HP) (ss : List Ac0) (zx K : Int) (hinv : HInv τ K) (hK : K ≤ 1099511620000) (ha : IntsOk a) (hd : a.2.2.2.1.length ≤ 100) (hq : Acts0 q a.2.2.2.2 ss) (hsm : Smalls ss) : Fn Tryz.prog 36 #[vptr x, .agg (ac0C a).toArray, vint zx] [refR x τ, q] fun v L => ∃ (y : Pt) (subs : List Pt), v = .agg (ptC y).toArray ∧ ShapeH τ zx y subs K ∧ TxC y subs ∧ L = [refR x τ, q, txRd y subs] := by
 refine Fn.intro Tryz.func36 rfl rfl fun F W => ?_
 refine .rdAny (p := q) hq.cells (by repeat' constructor) fun ab cb eab _ => ?_
 have hrd := hq.cells
 rw [eab] at hrd
 have hfew := hinv.ok.few
 have hsf := hinv.ok.sfew
 have hs6 := hsm.few
 have hca : isCell a.2.2.2.2 = true := by rw [eab]; rfl
 have hp5 := pickZ_range a.2.1 (n := 5) (by decide)
 have hp50 := pickZ_range a.2.2.1 (n := 50) (by decide)
 have hp99 := pickZ_range a.2.1 (n := 99) (by decide)
 have hwl : (ownedZ τ (1 + pickZ a.2.1 5)).length ≤ 60 := Nat.le_trans (owned_len τ (1 + pickZ a.2.1 5)) hfew
 refine .sr (.oq (.box rfl) ?_)
 rintro v L' ⟨ba, rfl, rfl⟩
 refine .oq (.allocA ze_37) ?_
 rintro v L' ⟨b6, rfl, rfl⟩
 refine .nil (.ptCast (b := ba) (l' := ac0C a) (by repeat' constructor) rfl (.then_n (.seq (.sr (.u (.fieldAddr rfl fo_82_0) (.u (.ld rfl ag_3) (.oq (.call Tryz.func35 rfl rfl (vs := [_, _]) rfl (pick7_spec _ _ ha.h1 (by decide))) ?_)))))))
 rintro v L' ⟨rfl, rfl⟩
 refine .nt (.block (.sr (.ui rfl rfl rfl (.an rfl (.condD rfl (fun h23 => ?_) (fun h23 => ?_))))))
 ·refine .seq (.draw [11] [[0, 1, 2, 3, 4, 5, 6, 7, 8, 9, 10, 11]] mixed (by kernel_rfl) (.go [ptc ba _ _] (by repeat' constructor) (.kv rfl (.fieldAddr rfl fo_82_1) (.kv rfl (.ld rfl ag_3) (.m rfl (by kernel_rfl) (.call Tryz.func35 rfl rfl (vs := [_, _]) rfl (pick7_spec _ _ ha.h2 (by decide))) (by repeat' constructor) ?_)))))
  refine D.kv rfl (.add rfl rfl (by omega)) (.kv rfl (.fieldAddr rfl fo_82_2) (.kv rfl (.ld rfl ag_3) (.m rfl (by kernel_rfl) (.call Tryz.func35 rfl rfl (vs := [_, _]) rfl (pick7_spec _ _ ha.h3 (by decide))) (by repeat' constructor) ?_)))
  refine D.kv rfl (.add rfl rfl (by omega)) (.kv rfl (.fieldAddr rfl fo_82_3) (.kv rfl (.ld rfl ag_9) (.kv rfl (.to (v' := .agg (ptC (⟨5, [], a.2.2.2.1, .slice none 0 0, [], (1 + pickZ a.2.1 5), 4 + pickZ a.2.2.1 50, 0, .slice none 0 0⟩ : Pt)).toArray) (.build (us := [(0, _), (4, _), (5, _), (2, _)]) fl_37 ze_37 rfl rfl (by simp [isCell])) rfl) (.hh rfl (.storeA rfl rfl ?c23 sz_37 ?c26 ?c24 (nfz0 _ _)) ?_))))
  case c23 => exact pt_cells rfl rfl
  case c26 => rfl
  case c24 => simp [ptC]
  rintro v L' rfl
  refine D.pf (.ret (.blk_r (.then_r (.ptCast (b := b6) (l' := ptC (⟨5, [], a.2.2.2.1, .slice none 0 0, [], (1 + pickZ a.2.1 5), 4 + pickZ a.2.2.1 50, 0, .slice none 0 0⟩ : Pt)) (by repeat' constructor) rfl (.add (p := txRd (⟨5, [], a.2.2.2.1, .slice none 0 0, [], (1 + pickZ a.2.1 5), 4 + pickZ a.2.2.1 50, 0, .slice none 0 0⟩ : Pt) []) (txRd_none rfl rfl rfl) ?_)))))
  exact .d1 rfl (.cellA rfl ag_37 (by repeat' constructor) (by simp [ptC]) rfl) ⟨(⟨5, [], a.2.2.2.1, .slice none 0 0, [], (1 + pickZ a.2.1 5), 4 + pickZ a.2.2.1 50, 0, .slice none 0 0⟩ : Pt), [], rfl, .opens rfl rfl ⟨by show 1 ≤ (1 + pickZ a.2.1 5); omega, by show (1 + pickZ a.2.1 5) ≤ 5; omega⟩ ⟨by show 4 ≤ 4 + pickZ a.2.2.1 50; omega, by show 4 + pickZ a.2.2.1 50 ≤ 53; omega⟩ hd rfl rfl, ⟨rfl, rfl, (fun w hw => by cases hw)⟩, rfl⟩
 refine .sr (.ui rfl rfl rfl (.an rfl (.condD rfl (fun h36 => ?_) (fun h36 => ?_))))
 ·refine .sr (.u (.fieldAddr rfl fo_82_1) (.u (.ld rfl ag_3) (.oq (.call Tryz.func35 rfl rfl (vs := [_, _]) rfl (pick7_spec _ _ ha.h2 (by decide))) ?_)))
  rintro v L' ⟨rfl, rfl⟩
  refine .q (.add rfl rfl (by omega)) rfl (.q (.to (v' := .agg (ptC (⟨6, [], [], .slice none 0 0, [], (1 + pickZ a.2.1 5), 0, 0, (.slice none 0 0)⟩ : Pt)).toArray) (.build (us := [(0, _), (4, _)]) fl_37 ze_37 rfl rfl (by simp [isCell])) rfl) rfl (.oq (.allocA ze_37) ?_))
  rintro v L' ⟨bT, rfl, rfl⟩
  refine .oq (.storeA rfl rfl ?c37 sz_37 ?c40 ?c38 (nfz0 _ _)) ?_
  case c37 => exact pt_cells rfl rfl
  case c40 => rfl
  case c38 => simp [ptC]
  rintro v L' rfl
  refine .nil (.ptCast (b := bT) (l' := ptC (⟨6, [], [], .slice none 0 0, [], (1 + pickZ a.2.1 5), 0, 0, (.slice none 0 0)⟩ : Pt)) (by repeat' constructor) rfl (.then_n (.sm rfl (.oq (.c Tryz.func81 [_] (rclone_spec x τ 60 hinv.ok (by omega))) ?_))))
  rintro v L' ⟨u, rfl, rfl⟩
  refine .an rfl (.sm rfl (.u (.fieldAddr rfl fo_37_4) (.u (.ld rfl ag_3) (.oq (.c Tryz.func72 [_, _] (rowned_spec x τ (1 + pickZ a.2.1 5) 60 hinv.ok (by omega))) ?_))))
  rintro v L' ⟨⟨ao, co, rfl⟩, rfl⟩
  refine .an rfl (.seq (.seq (.add (slR_nil 37 8) (.region (.m rfl (.q (.slen rfl Tryz.underlying54 rfl) rfl (.q (.sub rfl rfl (by omega)) rfl (.an rfl (.block (.rfCast (x := u) (τ' := (zxT (partsZ τ zx []).1 τ.zx)) (by repeat' constructor) (rfl) (.loopK (ι := Nat × (List Pt) × Int × Value) (fun q E => (10, vint ((q.1 : Int) - 1)) :: E) (fun q => [ptc bT (ptC (⟨6, [], [], .slice none 0 0, [], (1 + pickZ a.2.1 5), 0, 0, q.2.2.2⟩ : Pt)) 37, refR u (zxT (partsZ τ zx q.2.1).1 q.2.2.1), slR 37 8 q.2.2.2 q.2.1.length (q.2.1.flatMap ptC)]) (fun q => DelI τ zx K (1 + pickZ a.2.1 5) q.1 q.2.1 ∧ ∃ a c, q.2.2.2 = .slice a q.2.1.length c) (fun q => q.1) ((ownedZ τ (1 + pickZ a.2.1 5)).length, [], τ.zx, .slice none 0 0) (ts := [0, 2, 4, 6, 7, 8, 9]) (.cons rfl (.cons rfl (.cons rfl (.cons rfl (.cons rfl (.cons rfl (.cons rfl (.nil)))))))) (⟨DelI.init hinv _, none, 0, rfl⟩) ⟨rfl, rfl, rfl, rfl, rfl, rfl, rfl, rfl, trivial⟩ (by repeat' constructor) ?_)))))))))))
  rintro ⟨j, acc, z, w⟩ ⟨hdel, aw, cw, hw⟩
  dsimp only
  dsimp only at hdel hw
  subst hw
  have hdl := hdel.len
  have hal : ∀ w ∈ acc, w.acl.length ≤ 1 := fun w hw => by rw [(hdel.kinds w hw).2.2.1]; simp
  have hok := parts_ok hinv.ok zx hal z
  refine .seq (.sm rfl (.ui rfl rfl rfl (.nt (.condD rfl (fun h53 => ?_) (fun h53 => ?_)))))
  ·obtain ⟨k, rfl⟩ : ∃ k, j = k + 1 := ⟨j - 1, by omega⟩
   rw [show (((k + 1 : Nat) : Int) - 1) = (k : Int) by omega]
   have hk2 : k < (ownedZ τ (1 + pickZ a.2.1 5)).length := by omega
   refine .slShape (T := 9) (sz := 1) (v := .slice ao (ownedZ τ (1 + pickZ a.2.1 5)).length co) (xs := strs (ownedZ τ (1 + pickZ a.2.1 5))) (by repeat' constructor) (by omega) fun bo bo' e0 mbo _ => ?_
   simp only [Value.slice.injEq, true_and] at e0
   obtain ⟨rfl, rfl⟩ := e0
   have hth := hdel.parent hinv
   have hpl := able_len (.inr (owned_able hinv (List.getElem_mem hk2)).1)
   refine .sk (.seq (.block (.sm rfl (.m rfl (.m rfl (.q (.indexAddr rfl rfl el_54 (by omega)) rfl (.q (.loadRd (sz := 1) (j := k * 1) (p := slR 9 1 _ (ownedZ τ (1 + pickZ a.2.1 5)).length (strs (ownedZ τ (1 + pickZ a.2.1 5)))) rfl ag_9 (by repeat' constructor) (fun h hp => slR_rd hp) (by omega) (strs_at hk2)) rfl (.oq (.c Tryz.func83 [_] (rparent_spec _ ?hs59)) ?_))))))))
   case hs59 => first | assumption | omega
   rintro v L' ⟨rfl, rfl⟩
   refine .cv Tryz.func82 [_, _] (rplace_spec u (zxT (partsZ τ zx acc).1 z) (parentZ (ownedZ τ (1 + pickZ a.2.1 5))[k]) (by have := hok.few; omega)) ?_
   refine .a rfl (.nil ?_)
   obtain ⟨n, hn, hpn, hkn⟩ := place_get (l := (partsZ τ zx acc).1.nodes) (p := parentZ (ownedZ τ (1 + pickZ a.2.1 5))[k]) (place_iff.2 hth)
   have hpz : placeZ (zxT (partsZ τ zx acc).1 z) (parentZ (ownedZ τ (1 + pickZ a.2.1 5))[k]) = n := hpn
   rw [hpz]
   refine .rtOpen (x := u) (τ := (zxT (partsZ τ zx acc).1 z)) (by repeat' constructor) fun am cm as2 cs2 m hm => ?_
   have hml := nds_len hm
   have hml2 : m.length = (partsZ τ zx acc).1.nodes.length := hml
   have hnm : n < m.length := by omega
   refine .slShape (T := 129) (sz := 12) (v := .slice am m.length cm) (xs := m.flatMap rnC) (by repeat' constructor) (by omega) fun bm bm' e0 mbm _ => ?_
   simp only [Value.slice.injEq, true_and] at e0
   obtain ⟨rfl, rfl⟩ := e0
   have hlk : alook (partsZ τ zx acc).1.nodes (parentZ (ownedZ τ (1 + pickZ a.2.1 5))[k]) = some m[n].2.2 := by have g := nds_get hm (i := n) hnm; have g2 : alook (partsZ τ zx acc).1.nodes ((partsZ τ zx acc).1.nodes[n]).1 = some ((partsZ τ zx acc).1.nodes[n]).2 := al_get (hok.sorted.nodup linB) (i := n) hn; rw [hkn, show (partsZ τ zx acc).1.nodes[n] = (m[n].1, m[n].2.2) from g] at g2; exact g2
   have hv := hdel.ver _ _ hlk
   have hdel2 := hdel.step hinv hlk
   refine .then_n (.seq (.draw [15, 16] [[0, 1, 2, 3, 4, 5, 6, 7, 8, 9, 10, 11, 12, 13, 14, 15], [16]] mixed (by kernel_rfl) (.go [rnR _ _, ptc u _ _, slR 9 1 _ _ _] (by repeat' constructor) (.k rfl (.move rfl) (.k rfl (.move rfl) (.k rfl (.indexAddr rfl rfl el_54 (by omega)) (.k rfl (.loadRd (sz := 1) (j := k * 1) (p := slR 9 1 _ (ownedZ τ (1 + pickZ a.2.1 5)).length (strs (ownedZ τ (1 + pickZ a.2.1 5)))) rfl ag_9 (by repeat' constructor) (fun h hp => slR_rd hp) (by omega) (strs_at hk2)) (.k rfl (.move rfl) (.k rfl (.nilp rfl) (.k rfl (.fieldAddr rfl fo_87_0) (.k rfl (.ld rfl ag_73) (.k rfl (.move rfl) (.k rfl (.indexAddr rfl rfl el_73 (by omega)) (.k rfl (.fieldAddr rfl fo_129_3) (.k rfl (.fieldAddr rfl fo_92_4) (.k rfl (.loadRd (sz := 12) (j := n * 12 + 7) (p := rnR _ m) rfl ag_3 (by repeat' constructor) (fun h hp => slR_rd hp) (by omega) ((rn_cell (l := m) (i := n) (k := 7) (by omega) (by decide)).trans rfl)) ?_))))))))))))))))
   refine D.k rfl (.add rfl rfl (by omega)) (.k rfl (.to (v' := .agg (ptC (⟨2, (ownedZ τ (1 + pickZ a.2.1 5))[k], [], .slice none 0 0, [], 0, m[n].2.2.st.cver + 1, 0, .slice none 0 0⟩ : Pt)).toArray) (.build (us := [(0, _), (1, _), (5, _)]) fl_37 ze_37 rfl rfl (by simp [isCell])) rfl) (.hh rfl (.allocA ze_37) ?_))
   rintro v L' ⟨b12, rfl, rfl⟩
   refine D.ph (.g0 (.hh rfl (.storeA rfl rfl ?c80 sz_37 ?c83 ?c81 (nfz0 _ _)) ?_))
   case c80 => exact pt_cells rfl rfl
   case c83 => rfl
   case c81 => simp [ptC]
   rintro v L' rfl
   refine D.ph (.fin (.ptCast (b := b12) (l' := ptC (⟨2, (ownedZ τ (1 + pickZ a.2.1 5))[k], [], .slice none 0 0, [], 0, m[n].2.2.st.cver + 1, 0, .slice none 0 0⟩ : Pt)) (by repeat' constructor) rfl (.rtFold (x := u) (τ := (zxT (partsZ τ zx acc).1 z)) (l := m) hm (by repeat' constructor) rfl rfl rfl rfl rfl (.then_n (.sr (.u (.fieldAddr rfl fo_37_7) (.u (.ld rfl ag_35) (.q (.loadAs (vs := ptC (⟨2, (ownedZ τ (1 + pickZ a.2.1 5))[k], [], .slice none 0 0, [], 0, m[n].2.2.st.cver + 1, 0, .slice none 0 0⟩ : Pt)) rfl ag_37 (by repeat' constructor) (by simp [ptC]) rfl) rfl (.oq (.buildSlice (vs := [_]) el_35 ze_37 rfl rfl rfl rfl (by first | (simp [Value.cells]; done) | (intro v hv; simp only [List.mem_cons, List.not_mem_nil, or_false] at hv; (repeat (first | (subst hv; rfl) | (rcases hv with hv | hv; (subst hv; rfl)))))) (by decide)) ?_)))))))))
   rintro v L' ⟨b13, rfl, rfl⟩
   refine .oq (.append1 rfl rfl rfl el_35 ze_37 rfl rfl ?c90 ?c91 (Nat.le_refl _) ?c92 (by decide)) ?_
   case c90 => simp only [List.map_cons, List.map_nil, List.flatten_cons, List.flatten_nil, List.append_nil]; exact pt_cells rfl rfl
   case c91 => rfl
   case c92 => first | omega | (simp; omega)
   rintro v L' ⟨⟨a13_4, c13_4, rfl⟩, rfl⟩
   refine .u (.fieldAddr rfl fo_37_7) (.oq (.store rfl rfl rfl sz_35 ?c96 (nfz0 _ _)) ?_)
   case c96 => simp [ptC]
   rintro v L' rfl
   refine .nil (.slCast (T := 37) (sz := 8) (m' := (acc ++ [(⟨2, (ownedZ τ (1 + pickZ a.2.1 5))[k], [], .slice none 0 0, [], 0, m[n].2.2.st.cver + 1, 0, .slice none 0 0⟩ : Pt)]).length) (xs' := (acc ++ [(⟨2, (ownedZ τ (1 + pickZ a.2.1 5))[k], [], .slice none 0 0, [], 0, m[n].2.2.st.cver + 1, 0, .slice none 0 0⟩ : Pt)]).flatMap ptC) (by repeat' constructor) (by rw [List.length_append]; rfl) (by rw [List.flatMap_append]; simp; rfl) ?_)
   rw [show acc.length + 1 = (acc ++ [(⟨2, (ownedZ τ (1 + pickZ a.2.1 5))[k], [], .slice none 0 0, [], 0, m[n].2.2.st.cver + 1, 0, .slice none 0 0⟩ : Pt)]).length by rw [List.length_append]; rfl]
   refine .then_n (.add (p := nilA) nilA_ok (.region (.m rfl (.m rfl (.q (.loadAs (vs := ptC (⟨2, (ownedZ τ (1 + pickZ a.2.1 5))[k], [], .slice none 0 0, [], 0, m[n].2.2.st.cver + 1, 0, .slice none 0 0⟩ : Pt)) rfl ag_37 (by repeat' constructor) (by simp [ptC]) rfl) rfl (.q (.buildN (pl := [(0, 1), (1, 1), (2, 1), (3, 8)]) (us := [(0, vint zx), (3, .agg (ptC (⟨2, (ownedZ τ (1 + pickZ a.2.1 5))[k], [], .slice none 0 0, [], 0, m[n].2.2.st.cver + 1, 0, .slice none 0 0⟩ : Pt)).toArray)]) (cells := [vint zx, vint 0, vint 0] ++ ptC (⟨2, (ownedZ τ (1 + pickZ a.2.1 5))[k], [], .slice none 0 0, [], 0, m[n].2.2.st.cver + 1, 0, .slice none 0 0⟩ : Pt)) Tryz.underlying39 (by kernel_rfl) ze_39 rfl (fill_entry _ _ _ _ _ _ _ _ _)) rfl (.oq (.call Tryz.func30 rfl rfl (vs := [_, _]) rfl (rapply_spec u (zxT (partsZ τ zx acc).1 z) zx 0 0 (⟨2, (ownedZ τ (1 + pickZ a.2.1 5))[k], [], .slice none 0 0, [], 0, m[n].2.2.st.cver + 1, 0, .slice none 0 0⟩ : Pt) [] nilA ⟨⟨fun h _ => rd_none 2 h, by simp, by show ((ownedZ τ (1 + pickZ a.2.1 5))[k]).length ≤ 1048576; omega, rfl, rfl⟩, fun h _ => rd_none 8 h, by simp, fun w hw => by cases hw⟩ (60 + acc.length) hok (by simp; omega))) ?_)))))))
   rintro v L' ⟨ue, ee, rfl, he, hue, rfl⟩
   refine .nil (.rfCast (x := u) (τ' := (zxT (partsZ τ zx (acc ++ [(⟨2, (ownedZ τ (1 + pickZ a.2.1 5))[k], [], .slice none 0 0, [], 0, m[n].2.2.st.cver + 1, 0, .slice none 0 0⟩ : Pt)])).1 zx)) (by repeat' constructor) (by have h1 := app_part (τ := (zxT (partsZ τ zx acc).1 z)) (e := ⟨zx, 0, 0, (⟨2, (ownedZ τ (1 + pickZ a.2.1 5))[k], [], .slice none 0 0, [], 0, m[n].2.2.st.cver + 1, 0, .slice none 0 0⟩ : Pt), []⟩) (.inl (by show (2 : Int) ≤ 4; decide)); rw [parts_snoc]; dsimp only; rw [part_zx'] at h1; exact h1.symm) (.blk_n (.then_n (.region (.m rfl (.q (.sub rfl rfl (by omega)) rfl (.an rfl (.ptCast (b := bT) (l' := ptC (⟨6, [], [], .slice none 0 0, [], (1 + pickZ a.2.1 5), 0, 0, (.slice a13_4 (acc ++ [(⟨2, (ownedZ τ (1 + pickZ a.2.1 5))[k], [], .slice none 0 0, [], 0, m[n].2.2.st.cver + 1, 0, .slice none 0 0⟩ : Pt)]).length c13_4)⟩ : Pt)) (by repeat' constructor) rfl ?_))))))))
   exact .rk ((k, acc ++ [(⟨2, (ownedZ τ (1 + pickZ a.2.1 5))[k], [], .slice none 0 0, [], 0, m[n].2.2.st.cver + 1, 0, .slice none 0 0⟩ : Pt)], zx, .slice a13_4 (acc ++ [(⟨2, (ownedZ τ (1 + pickZ a.2.1 5))[k], [], .slice none 0 0, [], 0, m[n].2.2.st.cver + 1, 0, .slice none 0 0⟩ : Pt)]).length c13_4)) (⟨hdel2, _, _, rfl⟩) (by dsimp only; omega) ⟨rfl, rfl, rfl, rfl, rfl, rfl, rfl, rfl, trivial⟩
  have hj0 : j = 0 := by omega
  subst hj0
  refine .exit (.then_e (.then_e (.blk_e (.then_n (.sr (.q (.loadAs (vs := ptC (⟨6, [], [], .slice none 0 0, [], (1 + pickZ a.2.1 5), 0, 0, (.slice aw acc.length cw)⟩ : Pt)) rfl ag_37 (by repeat' constructor) (by simp [ptC]) rfl) rfl (.oq (.storeA rfl rfl ?c108 sz_37 ?c111 ?c109 (nfz0 _ _)) ?_)))))))
  case c108 => exact pt_cells rfl rfl
  case c111 => rfl
  case c109 => simp [ptC]
  rintro v L' rfl
  refine .nt (.ret (.blk_r (.then_r (.add (p := aclsA acc) (fun h w hw => by obtain ⟨-, e1, e2, -⟩ := hdel.kinds w hw; rw [e1, e2]; exact rd_none 2 h) (.ptCast (b := b6) (l' := ptC (⟨6, [], [], .slice none 0 0, [], (1 + pickZ a.2.1 5), 0, 0, (.slice aw acc.length cw)⟩ : Pt)) (by repeat' constructor) rfl (.fold (p := txRd (⟨6, [], [], .slice none 0 0, [], (1 + pickZ a.2.1 5), 0, 0, (.slice aw acc.length cw)⟩ : Pt) acc) (by repeat' constructor) (fun _ hp => txRd_of (T := 37) (x := (⟨6, [], [], .slice none 0 0, [], (1 + pickZ a.2.1 5), 0, 0, (.slice aw acc.length cw)⟩ : Pt)) rfl rfl hp) ?_))))))
  exact .d1 rfl (.cellA rfl ag_37 (by repeat' constructor) (by simp [ptC]) rfl) ⟨(⟨6, [], [], .slice none 0 0, [], (1 + pickZ a.2.1 5), 0, 0, (.slice aw acc.length cw)⟩ : Pt), acc, rfl, .close rfl (DelI.closeH (x := (⟨6, [], [], .slice none 0 0, [], (1 + pickZ a.2.1 5), 0, 0, (.slice aw acc.length cw)⟩ : Pt)) hdel ⟨by show 1 ≤ (1 + pickZ a.2.1 5); omega, by show (1 + pickZ a.2.1 5) ≤ 5; omega⟩) hdel.parts rfl rfl (by have := hdel.len; omega) rfl, ⟨rfl, rfl, (fun w hw => by obtain ⟨-, e1, -, e2⟩ := hdel.kinds w hw; rw [e1, e2]; exact ⟨rfl, rfl⟩)⟩, rfl⟩
 refine .sr (.ui rfl rfl rfl (.an rfl (.condD rfl (fun h90 => ?_) (fun h90 => ?_))))
 ·refine .sr (.q (.to (v' := .agg (ptC (⟨7, [], [], .slice none 0 0, [], 0, 0, 0, (.slice none 0 0)⟩ : Pt)).toArray) (.build (us := [(0, _)]) fl_37 ze_37 rfl rfl (by simp [isCell])) rfl) rfl (.oq (.allocA ze_37) ?_))
  rintro v L' ⟨bT, rfl, rfl⟩
  refine .oq (.storeA rfl rfl ?c117 sz_37 ?c120 ?c118 (nfz0 _ _)) ?_
  case c117 => exact pt_cells rfl rfl
  case c120 => rfl
  case c118 => simp [ptC]
  rintro v L' rfl
  refine .nil (.ptCast (b := bT) (l' := ptC (⟨7, [], [], .slice none 0 0, [], 0, 0, 0, (.slice none 0 0)⟩ : Pt)) (by repeat' constructor) rfl (.then_n (.sm rfl (.oq (.c Tryz.func81 [_] (rclone_spec x τ 60 hinv.ok (by omega))) ?_))))
  rintro v L' ⟨u, rfl, rfl⟩
  refine .an rfl (.seq (.seq (.add (slR_nil 37 8) (.add (p := aclsA []) aclsA_nil (.region (.an rfl (.block (.rfCast (x := u) (τ' := (zxT (partsZ τ zx []).1 τ.zx)) (by repeat' constructor) (rfl) (.loopK (ι := Nat × (List Pt) × Int × Value) (fun q E => (15, vint q.1) :: E) (fun q => [ptc bT (ptC (⟨7, [], [], .slice none 0 0, [], 0, 0, 0, q.2.2.2⟩ : Pt)) 37, refR u (zxT (partsZ τ zx q.2.1).1 q.2.2.1), slR 37 8 q.2.2.2 q.2.1.length (q.2.1.flatMap ptC), aclsA q.2.1]) (fun q => (q.1 ≤ ss.length ∧ q.1 ≤ 6 ∧ q.2.1.length ≤ q.1) ∧ PartsH τ zx q.2.1 K ∧ HInv (partsZ τ zx q.2.1).1 (K + q.2.1.length) ∧ (∀ y ∈ q.2.1, isCell y.aclV = true ∧ isCell y.subsV = true) ∧ ∃ a c, q.2.2.2 = .slice a q.2.1.length c) (fun q => ss.length - q.1) (0, [], τ.zx, .slice none 0 0) (ts := [0, 2, 4, 6, 13, 14]) (.cons rfl (.cons rfl (.cons rfl (.cons rfl (.cons rfl (.cons rfl (.nil))))))) (⟨⟨Nat.zero_le _, Nat.zero_le _, Nat.le_refl _⟩, (fun i hi => by simp at hi), hinv.more (by simp), (fun w hw => by cases hw), none, 0, rfl⟩) ⟨rfl, rfl, rfl, rfl, rfl, rfl, rfl, trivial⟩ (by repeat' constructor) ?_)))))))))
  rintro ⟨i, acc, z, w⟩ ⟨⟨hi, hi6, hai⟩, hps, hiv, hcs, aw, cw, hw⟩
  dsimp only
  dsimp only at hi hi6 hai hps hiv hcs hw
  subst hw
  have hivz := hiv.zx z
  refine .seq (.sm rfl (.u (.fieldAddr rfl fo_82_4) (.q (.as (v' := .slice ab ss.length cb) (by exact eab) (.ld rfl ag_22)) rfl (.q (.slen rfl Tryz.underlying22 rfl) rfl (.ui rfl rfl rfl (.m rfl (.dec (t := 100) rfl (fun h20_100 => ?_) (fun h20_100 => ?_))))))))
  ·refine .kDT (t := 99) rfl h20_100 (.grun (t := 100) rfl rfl rfl (.m rfl (.grun (t := 100) rfl rfl rfl (.ui rfl rfl rfl (.u (.pickT rfl rfl) (.nt (.condD rfl (fun h103 => ?_) (fun h103 => ?_))))))))
   ·have hi2 : i < ss.length := by omega
    refine .rdShape (p := q) hrd (by repeat' constructor) (by omega) fun bb ob e1 => ?_
    subst e1
    obtain ⟨hio, hdo⟩ := hsm.ok _ (List.getElem_mem hi2)
    refine .sk (.seq (.block (.sm rfl (.u (.fieldAddr rfl fo_82_4) (.q (.as (v' := .slice (some ⟨bb, ob, none⟩) ss.length cb) (by exact eab) (.ld rfl ag_22)) rfl (.m rfl (.q (.indexAddr rfl rfl el_22 (by omega)) rfl (.q (.loadRdA (sz := 5) (j := i * 5) (k := 5) (p := q) (vs := ac0C ss[i]) rfl ag_82 (by repeat' constructor) hrd (by simp) (by omega) (by omega) (flatMap_at (f := ac0C) (sz := 5) (fun _ _ => rfl) (by omega))) rfl (.oq (.c Tryz.func84 [_, _, _] (part7_spec u (zxT (partsZ τ zx acc).1 z) ss[i] (K + acc.length) hivz (by omega) hio hdo)) ?_)))))))))
    rintro v L' ⟨y, b, rfl, hP, hB, rfl⟩
    refine .m rfl (.u (.extract rfl rfl) (.u (.extract rfl rfl) (.oq (.allocA ze_37) ?_)))
    rintro v L' ⟨b16, rfl, rfl⟩
    refine .oq (.storeA rfl rfl ?c145 sz_37 ?c148 ?c146 (nfz0 _ _)) ?_
    case c145 => exact pt_cells hB.cell (by rw [hB.subs]; rfl)
    case c148 => rfl
    case c146 => simp [ptC]
    rintro v L' rfl
    refine .a rfl (.nil (.ptCast (b := b16) (l' := ptC y) (by repeat' constructor) rfl ?_))
    have htx : TxA (rdO 2 y.aclV y.acl.length (y.acl.flatMap acC)) y [] := ⟨⟨fun h hp => hp, by have := hB.acl; omega, by have := hB.path; omega, by rw [hB.subs]; rfl, hB.cell⟩, fun h _ => by rw [hB.subs]; exact rd_none 8 h, by simp, fun w hw => by cases hw⟩
    refine .then_n (.sm rfl (.m rfl (.bool (t := 117) rfl (fun h23_117 => ?_) (fun h23_117 => ?_))))
    ·have hb1 : b = true := h23_117
     have hPH := (hP hb1).congr (υ := (partsZ τ zx acc).1) rfl (by rfl)
     refine .kB (t := 115) rfl h23_117 (.kB (t := 17) rfl h23_117 (.kB (t := 116) rfl h23_117 (.grun (t := 117) rfl rfl rfl (.m rfl (.grun (t := 117) rfl rfl rfl (.m rfl (.grun (t := 117) rfl rfl rfl (.q (.loadAs (vs := ptC y) rfl ag_37 (by repeat' constructor) (by simp [ptC]) rfl) rfl (.grun (t := 117) rfl rfl rfl (.q (.buildN (pl := [(0, 1), (1, 1), (2, 1), (3, 8)]) (us := [(0, vint zx), (3, .agg (ptC y).toArray)]) (cells := [vint zx, vint 0, vint 0] ++ ptC y) Tryz.underlying39 (by kernel_rfl) ze_39 rfl (fill_entry _ _ _ _ _ _ _ _ _)) rfl (.grun (t := 117) rfl rfl rfl (.oq (.call Tryz.func38 rfl rfl (vs := [_, _]) rfl (rsound_spec u (zxT (partsZ τ zx acc).1 z) zx 0 0 y [] _ htx 60 hivz.ok (by simp))) ?_))))))))))))
     rintro v L' ⟨rfl, rfl⟩
     refine .u (.pickT rfl rfl) (.nt (.condB rfl (fun h123 => ?_) (fun h123 => ?_)))
     ·have hsd : soundZ (partsZ τ zx acc).1 zx y [] = true := (sound_zx hPH.kind.2).symm.trans h123
      have hiv2 : HInv (partsZ τ zx (acc ++ [y])).1 (K + (acc ++ [y]).length) := by rw [parts_snoc, List.length_append]; exact (hiv.part' hsd hPH).more (by simp; omega)
      have hps2 := hps.snoc hPH
      refine .sr (.u (.fieldAddr rfl fo_37_7) (.u (.ld rfl ag_35) (.q (.loadAs (vs := ptC y) rfl ag_37 (by repeat' constructor) (by simp [ptC]) rfl) rfl (.oq (.buildSlice (vs := [_]) el_35 ze_37 rfl rfl rfl rfl (by first | (simp [Value.cells]; done) | (intro v hv; simp only [List.mem_cons, List.not_mem_nil, or_false] at hv; (repeat (first | (subst hv; rfl) | (rcases hv with hv | hv; (subst hv; rfl)))))) (by decide)) ?_))))
      rintro v L' ⟨b24, rfl, rfl⟩
      refine .oq (.append1 rfl rfl rfl el_35 ze_37 rfl rfl ?c161 ?c162 (Nat.le_refl _) ?c163 (by decide)) ?_
      case c161 => simp only [List.map_cons, List.map_nil, List.flatten_cons, List.flatten_nil, List.append_nil]; exact pt_cells hB.cell (by rw [hB.subs]; rfl)
      case c162 => rfl
      case c163 => first | omega | (simp; omega)
      rintro v L' ⟨⟨a24_4, c24_4, rfl⟩, rfl⟩
      refine .u (.fieldAddr rfl fo_37_7) (.oq (.store rfl rfl rfl sz_35 ?c167 (nfz0 _ _)) ?_)
      case c167 => simp [ptC]
      rintro v L' rfl
      refine .nil (.slCast (T := 37) (sz := 8) (m' := (acc ++ [y]).length) (xs' := (acc ++ [y]).flatMap ptC) (by repeat' constructor) (by rw [List.length_append]; rfl) (by rw [List.flatMap_append]; simp; rfl) ?_)
      rw [show acc.length + 1 = (acc ++ [y]).length by rw [List.length_append]; rfl]
      refine .then_n (.region (.m rfl (.m rfl (.q (.loadAs (vs := ptC y) rfl ag_37 (by repeat' constructor) (by simp [ptC]) rfl) rfl (.q (.buildN (pl := [(0, 1), (1, 1), (2, 1), (3, 8)]) (us := [(0, vint zx), (3, .agg (ptC y).toArray)]) (cells := [vint zx, vint 0, vint 0] ++ ptC y) Tryz.underlying39 (by kernel_rfl) ze_39 rfl (fill_entry _ _ _ _ _ _ _ _ _)) rfl (.oq (.call Tryz.func30 rfl rfl (vs := [_, _]) rfl (rapply_spec u (zxT (partsZ τ zx acc).1 z) zx 0 0 y [] _ htx 60 hivz.ok (by simp))) ?_))))))
      rintro v L' ⟨ue, ee, rfl, he, hue, rfl⟩
      refine .nil (.rfCast (x := u) (τ' := (zxT (partsZ τ zx (acc ++ [y])).1 zx)) (by repeat' constructor) (by have h1 := app_part (τ := (zxT (partsZ τ zx acc).1 z)) (e := ⟨zx, 0, 0, y, []⟩) (.inl hPH.kind.2); rw [parts_snoc]; dsimp only; rw [part_zx'] at h1; exact h1.symm) (.fold (p := aclsA (acc ++ [y])) (by repeat' constructor) (fun _ hp => aclsA_snoc hp) (.blk_n (.then_n (.region (.m rfl (.q (.add rfl rfl (by omega)) rfl (.an rfl (.ptCast (b := bT) (l' := ptC (⟨7, [], [], .slice none 0 0, [], 0, 0, 0, (.slice a24_4 (acc ++ [y]).length c24_4)⟩ : Pt)) (by repeat' constructor) rfl ?_)))))))))
      exact .rk ((i + 1, acc ++ [y], zx, .slice a24_4 (acc ++ [y]).length c24_4)) (⟨⟨by dsimp only; omega, by dsimp only; omega, by dsimp only; rw [List.length_append]; simp; omega⟩, hps2, hiv2, (fun w hw => by rcases List.mem_append.1 hw with hw | hw; exact hcs w hw; rw [List.mem_singleton] at hw; subst hw; exact ⟨hB.cell, by rw [hB.subs]; rfl⟩), _, _, rfl⟩) (by dsimp only; omega) ⟨rfl, rfl, rfl, rfl, rfl, rfl, rfl, trivial⟩
     refine .skip (.blk_n (.then_n (.region (.m rfl (.q (.add rfl rfl (by omega)) rfl (.an rfl ?_))))))
     exact .rk ((i + 1, acc, z, .slice aw acc.length cw)) (⟨⟨by dsimp only; omega, by dsimp only; omega, by dsimp only; omega⟩, hps, hiv, hcs, _, _, rfl⟩) (by dsimp only; omega) ⟨rfl, rfl, rfl, rfl, rfl, rfl, rfl, trivial⟩
    refine .kB (t := 115) rfl h23_117 (.kB (t := 17) rfl h23_117 (.kB (t := 116) rfl h23_117 (.gk (.gk (.gk (.gk (.gk (.u (.pickF rfl rfl) (.nt (.condF rfl (.skip (.blk_n (.then_n (.region (.m rfl (.q (.add rfl rfl (by omega)) rfl (.an rfl ?_)))))))))))))))))
    exact .rk ((i + 1, acc, z, .slice aw acc.length cw)) (⟨⟨by dsimp only; omega, by dsimp only; omega, by dsimp only; omega⟩, hps, hiv, hcs, _, _, rfl⟩) (by dsimp only; omega) ⟨rfl, rfl, rfl, rfl, rfl, rfl, rfl, trivial⟩
   refine .exit (.then_e (.then_e (.blk_e (.then_n (.sr (.q (.loadAs (vs := ptC (⟨7, [], [], .slice none 0 0, [], 0, 0, 0, (.slice aw acc.length cw)⟩ : Pt)) rfl ag_37 (by repeat' constructor) (by simp [ptC]) rfl) rfl (.oq (.storeA rfl rfl ?c184 sz_37 ?c187 ?c185 (nfz0 _ _)) ?_)))))))
   case c184 => exact pt_cells rfl rfl
   case c187 => rfl
   case c185 => simp [ptC]
   rintro v L' rfl
   refine .nt (.ret (.blk_r (.then_r (.ptCast (b := b6) (l' := ptC (⟨7, [], [], .slice none 0 0, [], 0, 0, 0, (.slice aw acc.length cw)⟩ : Pt)) (by repeat' constructor) rfl (.fold (p := txRd (⟨7, [], [], .slice none 0 0, [], 0, 0, 0, (.slice aw acc.length cw)⟩ : Pt) acc) (by repeat' constructor) (fun _ hp => txRd_of (T := 37) (x := (⟨7, [], [], .slice none 0 0, [], 0, 0, 0, (.slice aw acc.length cw)⟩ : Pt)) rfl rfl hp) ?_)))))
   exact .d1 rfl (.cellA rfl ag_37 (by repeat' constructor) (by simp [ptC]) rfl) ⟨(⟨7, [], [], .slice none 0 0, [], 0, 0, 0, (.slice aw acc.length cw)⟩ : Pt), acc, rfl, .multi rfl hps rfl rfl (by omega) rfl, ⟨rfl, rfl, hcs⟩, rfl⟩
  refine .kDF (t := 99) rfl h20_100 (.gk (.gk (.u (.pickF rfl rfl) (.nt (.condF rfl (.exit (.then_e (.then_e (.blk_e (.then_n (.sr (.q (.loadAs (vs := ptC (⟨7, [], [], .slice none 0 0, [], 0, 0, 0, (.slice aw acc.length cw)⟩ : Pt)) rfl ag_37 (by repeat' constructor) (by simp [ptC]) rfl) rfl (.oq (.storeA rfl rfl ?c191 sz_37 ?c194 ?c192 (nfz0 _ _)) ?_)))))))))))))
  case c191 => exact pt_cells rfl rfl
  case c194 => rfl
  case c192 => simp [ptC]
  rintro v L' rfl
  refine .nt (.ret (.blk_r (.then_r (.ptCast (b := b6) (l' := ptC (⟨7, [], [], .slice none 0 0, [], 0, 0, 0, (.slice aw acc.length cw)⟩ : Pt)) (by repeat' constructor) rfl (.fold (p := txRd (⟨7, [], [], .slice none 0 0, [], 0, 0, 0, (.slice aw acc.length cw)⟩ : Pt) acc) (by repeat' constructor) (fun _ hp => txRd_of (T := 37) (x := (⟨7, [], [], .slice none 0 0, [], 0, 0, 0, (.slice aw acc.length cw)⟩ : Pt)) rfl rfl hp) ?_)))))
  exact .d1 rfl (.cellA rfl ag_37 (by repeat' constructor) (by simp [ptC]) rfl) ⟨(⟨7, [], [], .slice none 0 0, [], 0, 0, 0, (.slice aw acc.length cw)⟩ : Pt), acc, rfl, .multi rfl hps rfl rfl (by omega) rfl, ⟨rfl, rfl, hcs⟩, rfl⟩
 refine .sr (.ui rfl rfl rfl (.an rfl (.condD rfl (fun h136 => ?_) (fun h136 => ?_))))
 ·refine .sr (.u (.fieldAddr rfl fo_82_1) (.u (.ld rfl ag_3) (.oq (.call Tryz.func35 rfl rfl (vs := [_, _]) rfl (pick7_spec _ _ ha.h2 (by decide))) ?_)))
  rintro v L' ⟨rfl, rfl⟩
  refine .q (.to (v' := .agg (ptC (⟨8, [], [], .slice none 0 0, [], 0, -1, pickZ a.2.1 99, .slice none 0 0⟩ : Pt)).toArray) (.build (us := [(0, _), (6, _), (5, _)]) fl_37 ze_37 rfl rfl (by simp [isCell])) rfl) rfl (.oq (.storeA rfl rfl ?c202 sz_37 ?c205 ?c203 (nfz0 _ _)) ?_)
  case c202 => exact pt_cells rfl rfl
  case c205 => rfl
  case c203 => simp [ptC]
  rintro v L' rfl
  refine .nt (.ret (.blk_r (.then_r (.ptCast (b := b6) (l' := ptC (⟨8, [], [], .slice none 0 0, [], 0, -1, pickZ a.2.1 99, .slice none 0 0⟩ : Pt)) (by repeat' constructor) rfl (.add (p := txRd (⟨8, [], [], .slice none 0 0, [], 0, -1, pickZ a.2.1 99, .slice none 0 0⟩ : Pt) []) (txRd_none rfl rfl rfl) ?_)))))
  exact .d1 rfl (.cellA rfl ag_37 (by repeat' constructor) (by simp [ptC]) rfl) ⟨(⟨8, [], [], .slice none 0 0, [], 0, -1, pickZ a.2.1 99, .slice none 0 0⟩ : Pt), [], rfl, .error rfl rfl ⟨by show 0 ≤ pickZ a.2.1 99; omega, by show pickZ a.2.1 99 < 99; omega⟩ rfl rfl rfl rfl, ⟨rfl, rfl, (fun w hw => by cases hw)⟩, rfl⟩
 refine .sr (.ui rfl rfl rfl (.an rfl (.condD rfl (fun h142 => ?_) (fun h142 => ?_))))
 ·refine .sr (.q (.to (v' := .agg (ptC (⟨0, [], [], .slice none 0 0, [], 0, 0, 0, .slice none 0 0⟩ : Pt)).toArray) (.build (us := [(0, _)]) fl_37 ze_37 rfl rfl (by simp [isCell])) rfl) rfl (.oq (.storeA rfl rfl ?c209 sz_37 ?c212 ?c210 (nfz0 _ _)) ?_))
  case c209 => exact pt_cells rfl rfl
  case c212 => rfl
  case c210 => simp [ptC]
  rintro v L' rfl
  refine .nt (.ret (.blk_r (.then_r (.ptCast (b := b6) (l' := ptC (⟨0, [], [], .slice none 0 0, [], 0, 0, 0, .slice none 0 0⟩ : Pt)) (by repeat' constructor) rfl (.add (p := txRd (⟨0, [], [], .slice none 0 0, [], 0, 0, 0, .slice none 0 0⟩ : Pt) []) (txRd_none rfl rfl rfl) ?_)))))
  exact .d1 rfl (.cellA rfl ag_37 (by repeat' constructor) (by simp [ptC]) rfl) ⟨(⟨0, [], [], .slice none 0 0, [], 0, 0, 0, .slice none 0 0⟩ : Pt), [], rfl, .part rfl ⟨⟨by show (0 : Int) ≤ 0; decide, by show (0 : Int) ≤ 4; decide⟩, by simp, by simp, .inl rfl, .inl rfl, ⟨by show (0 : Int) ≤ 0; decide, by show (0 : Int) ≤ K + 1; have := hinv.zx0; omega⟩, rfl, (fun e => by cases e)⟩, ⟨rfl, rfl, (fun w hw => by cases hw)⟩, rfl⟩
 refine .skip (.blk_n (.then_n (.sm rfl (.q (.loadAs (vs := ac0C a) rfl ag_82 (by repeat' constructor) (by simp [ac0C]) rfl) rfl (.oq (.c Tryz.func84 [_, _, _] (part7_spec x τ a K hinv (by omega) ha hd)) ?_)))))
 rintro v L' ⟨y, b, rfl, hP, hB, rfl⟩
 refine .m rfl (.u (.extract rfl rfl) (.u (.extract rfl rfl) (.oq (.allocA ze_37) ?_)))
 rintro v L' ⟨b18, rfl, rfl⟩
 refine .oq (.storeA rfl rfl ?c222 sz_37 ?c225 ?c223 (nfz0 _ _)) ?_
 case c222 => exact pt_cells hB.cell (by rw [hB.subs]; rfl)
 case c225 => rfl
 case c223 => simp [ptC]
 rintro v L' rfl
 refine .a rfl (.nil (.ptCast (b := b18) (l' := ptC y) (by repeat' constructor) rfl (.then_n (.seq (.sm rfl (.u (.not rfl) (.nt (.condB rfl (fun h152 => ?_) (fun h152 => ?_)))))))))
 ·refine .sr (.q (.to (v' := .agg (ptC (⟨0, [], [], .slice none 0 0, [], 0, 0, 0, .slice none 0 0⟩ : Pt)).toArray) (.build (us := []) fl_37 ze_37 rfl rfl (by simp [isCell])) rfl) rfl (.oq (.storeA rfl rfl ?c229 sz_37 ?c232 ?c230 (nfz0 _ _)) ?_))
  case c229 => exact pt_cells rfl rfl
  case c232 => rfl
  case c230 => simp [ptC]
  rintro v L' rfl
  refine .nt (.rt (.ptCast (b := b6) (l' := ptC (⟨0, [], [], .slice none 0 0, [], 0, 0, 0, .slice none 0 0⟩ : Pt)) (by repeat' constructor) rfl (.add (p := txRd (⟨0, [], [], .slice none 0 0, [], 0, 0, 0, .slice none 0 0⟩ : Pt) []) (txRd_none rfl rfl rfl) ?_)))
  exact .d1 rfl (.cellA rfl ag_37 (by repeat' constructor) (by simp [ptC]) rfl) ⟨(⟨0, [], [], .slice none 0 0, [], 0, 0, 0, .slice none 0 0⟩ : Pt), [], rfl, .part rfl ⟨⟨by show (0 : Int) ≤ 0; decide, by show (0 : Int) ≤ 4; decide⟩, by simp, by simp, .inl rfl, .inl rfl, ⟨by show (0 : Int) ≤ 0; decide, by show (0 : Int) ≤ K + 1; have := hinv.zx0; omega⟩, rfl, (fun e => by cases e)⟩, ⟨rfl, rfl, (fun w hw => by cases hw)⟩, rfl⟩
 refine .sk (.sr (.q (.loadAs (vs := ptC y) rfl ag_37 (by repeat' constructor) (by simp [ptC]) rfl) rfl (.oq (.storeA rfl rfl ?c235 sz_37 ?c238 ?c236 (nfz0 _ _)) ?_)))
 case c235 => exact pt_cells hB.cell (by rw [hB.subs]; rfl)
 case c238 => rfl
 case c236 => simp [ptC]
 rintro v L' rfl
 refine .nt (.ret (.ptCast (b := b6) (l' := ptC y) (by repeat' constructor) rfl (.fold (p := txRd y []) (L := _) (by repeat' constructor) (fun _ hp => txRd_one hB.subs hp) ?_)))
 exact .d1 rfl (.cellA rfl ag_37 (by repeat' constructor) (by simp [ptC]) rfl) ⟨y, [], rfl, .part rfl (hP (by simpa using h152)), ⟨hB.cell, by rw [hB.subs]; rfl, (fun w hw => by cases hw)⟩, rfl⟩
theorem fill_entry4 (zx ss xi : Int) (s0 s1 s2 s3 s4 s5 s6 s7 : Value) : Instr.fill (fun i => [(0, 1), (1, 1), (2, 1), (3, 8)].toArray[i]?) ([.int .i64 0, .int .i64 0, .int .i64 0, .int .i64 0, .string (bs []), .string (bs []), .slice none 0 0, .int .i64 0, .int .i64 0, .int .i64 0, .slice none 0 0] : List Value).toArray [(0, vint zx), (1, vint ss), (2, vint xi), (3, .agg ([s0, s1, s2, s3, s4, s5, s6, s7] : List Value).toArray)] = some (([vint zx, vint ss, vint xi] ++ [s0, s1, s2, s3, s4, s5, s6, s7] : List Value).toArray) := by kernel_rfl
theorem en_cells {e : En} (h : TxC e.x e.subs) : ∀ v ∈ enC e, isCell v = true := by
 intro v hv
 unfold enC at hv
 rcases List.mem_append.1 hv with hv | hv
 ·simp only [List.mem_cons, List.not_mem_nil, or_false] at hv
  rcases hv with rfl | rfl | rfl <;> rfl
 ·exact pt_cells h.1 h.2.1 v hv
set_option maxHeartbeats 1000000 in
theorem history7_spec (v : Value) (xs : List Ac0) (z0 : Int) (p : HP) (hx : Acts1 p v xs) (hz : 0 ≤ z0 ∧ z0 ≤ 2199023255552) : Fn Tryz.prog 10 #[v, vint z0] [p] fun v L => ∃ (es : List En) (τ : Tr) (x : Nat) (u : Value), v = .tuple #[u, vptr x] ∧ Hist z0 es τ ∧ (es.length ≤ 150 ∧ ∃ a c, u = .slice a es.length c) ∧ L = [p, refR x τ, slR 39 11 u es.length (es.flatMap enC), ensA es] := by
 refine Fn.intro Tryz.func10 rfl rfl fun F W => ?_
 refine .rdAny (p := p) hx.own.cells (by repeat' constructor) fun av cv ev0 _ => ?_
 subst ev0
 have hrd := hx.own.cells
 have hlen := hx.own.len
 refine .sr (.a rfl (.an rfl (.sr (.oq (.c Tryz.func34 [] (rfnew_spec)) ?_))))
 rintro v L' ⟨x, rfl, rfl⟩
 refine .an rfl (.seq (.add (slR_nil 39 11) (.add (p := ensA []) (fun h e he => by cases he) (.region (.an rfl (.seq (.sr (.an rfl (.block (.loopK (ι := Nat × (List En) × Tr × Value) (fun q E => (8, vint q.1) :: (7, q.2.2.2) :: E) (fun q => [refR x q.2.2.1, slR 39 11 q.2.2.2 q.2.1.length (q.2.1.flatMap enC), ensA q.2.1]) (fun q => (q.1 ≤ xs.length ∧ q.1 ≤ 150 ∧ q.2.1.length ≤ q.1) ∧ Hist z0 q.2.1 q.2.2.1 ∧ ∃ a c, q.2.2.2 = .slice a q.2.1.length c) (fun q => xs.length - q.1) (0, [], newT, .slice none 0 0) (ts := [0, 1, 4, 5, 6]) (.cons rfl (.cons rfl (.cons rfl (.cons rfl (.cons rfl (.nil)))))) (⟨⟨Nat.zero_le _, Nat.zero_le _, Nat.le_refl _⟩, .nil, none, 0, rfl⟩) ⟨rfl, rfl, rfl, rfl, rfl, rfl, rfl, trivial⟩ (by repeat' constructor) ?_))))))))))
 rintro ⟨i, es, τ, u⟩ ⟨⟨hi, hi150, hei⟩, hh, au, cu, hu⟩
 dsimp only
 dsimp only at hi hi150 hei hh hu
 subst hu
 have hinv := hh.inv
 have hfew := hinv.ok.few
 refine .seq (.sm rfl (.m rfl (.q (.slen rfl Tryz.underlying22 rfl) rfl (.ui rfl rfl rfl (.m rfl (.dec (t := 16) rfl (fun h4_16 => ?_) (fun h4_16 => ?_)))))))
 ·refine .kDT (t := 15) rfl h4_16 (.grun (t := 16) rfl rfl rfl (.m rfl (.grun (t := 16) rfl rfl rfl (.ui rfl rfl rfl (.u (.pickT rfl rfl) (.nt (.condD rfl (fun h19 => ?_) (fun h19 => ?_))))))))
  ·have hi2 : i < xs.length := by omega
   refine .rdShape (p := p) hrd (by repeat' constructor) (by omega) fun bv ov e1 => ?_
   subst e1
   obtain ⟨hk1, hk2, hk3, hk4⟩ := hx.own.ok _ (List.getElem_mem hi2)
   obtain ⟨ss, hss, hcs⟩ := hx.subs _ (List.getElem_mem hi2)
   have hp9 := pickZ_range xs[i].2.1 (n := 9) (by decide)
   refine .sk (.seq (.block (.seq (.draw [16, 21, 23, 24] [[0, 1, 2, 3, 4, 5, 6, 7, 8, 9, 10, 11, 12, 13, 14, 15, 17, 18, 19, 20, 16, 21, 22, 23], [24]] mixed (by kernel_rfl) (.go [p] (by repeat' constructor) (.k rfl (.move rfl) (.k rfl (.move rfl) (.k rfl (.slen rfl Tryz.underlying24 rfl) (.k rfl (.add rfl rfl (by omega)) (.k rfl (.move rfl) (.k rfl (.move rfl) (.k rfl (.indexAddr rfl rfl el_22 (by omega)) (.k rfl (.fieldAddr rfl fo_82_1) (.k rfl (.loadRd (sz := 5) (j := i * 5 + 1) (p := p) rfl ag_3 (by repeat' constructor) hrd (by omega) ((ac0_cell (l := xs) (i := i) (k := 1) (by omega) (by decide)).trans rfl)) (.m rfl (by kernel_rfl) (.call Tryz.func35 rfl rfl (vs := [_, _]) rfl (pick7_spec _ _ hk2 (by decide))) (by repeat' constructor) ?_)))))))))))))))
   refine D.k rfl (.move rfl) (.k rfl (.move rfl) (.k rfl (.move rfl) (.k rfl (.move rfl) (.k rfl (.indexAddr rfl rfl el_22 (by omega)) (.k rfl (.loadRdA (sz := 5) (j := i * 5) (k := 5) (p := p) (vs := ac0C xs[i]) rfl ag_82 (by repeat' constructor) hrd (by simp) (by omega) (by omega) (flatMap_at (f := ac0C) (sz := 5) (fun _ _ => rfl) (by omega))) (.k rfl (.move rfl) (.k rfl (.move rfl) (.k rfl (.slen rfl Tryz.underlying24 rfl) (.k rfl (.add rfl rfl (by omega)) (.h2R (k := 23) rfl rfl (by kernel_rfl) rfl (SpecR.ro [p] (.c Tryz.func37 [_] (small7_ro xs[i] p ss hss hcs (by omega))) (by repeat' constructor)) (by repeat' constructor) (SpecR.own (.allocA ze_39)) (by repeat' constructor) ?_ ?_))))))))))
   ·rintro v L' ⟨uv, us, rfl, hsm, rfl⟩
    refine D.h2 (k := 23) rfl rfl (by kernel_rfl) rfl (.call Tryz.func36 rfl rfl (vs := [_, _, _]) rfl (txn7_spec x τ (xs[i].1, (xs[i].2.1, (xs[i].2.2.1, (xs[i].2.2.2.1.take 100, uv)))) _ us (z0 + es.length) (60 * es.length) hinv (by omega) ⟨hk1, hk2, hk3⟩ (by rw [List.length_take]; omega) (acts0_own hsm) hsm)) (by repeat' constructor) (.allocA ze_39) (by repeat' constructor) ?_ ?_
    ·rintro v L' ⟨y, subs, rfl, hsh, hcc, rfl⟩
     refine D.k rfl (.buildN (pl := [(0, 1), (1, 1), (2, 1), (3, 8)]) (us := [(0, vint (z0 + es.length)), (1, vint (pickZ xs[i].2.1 9)), (2, vint i), (3, .agg (ptC y).toArray)]) (cells := enC (⟨z0 + es.length, pickZ xs[i].2.1 9, i, y, subs⟩ : En)) Tryz.underlying39 (by kernel_rfl) ze_39 rfl (fill_entry4 _ _ _ _ _ _ _ _ _ _ _)) (.hh rfl (.allocA ze_39) ?_)
     rintro v L' ⟨b9, rfl, rfl⟩
     refine D.ph (.g0 (.hh rfl (.storeA rfl rfl ?c43 sz_39 ?c46 ?c44 (nfz0 _ _)) ?_))
     case c43 => exact en_cells (e := (⟨z0 + es.length, pickZ xs[i].2.1 9, i, y, subs⟩ : En)) hcc
     case c46 => rfl
     case c44 => simp [enC, ptC]
     rintro v L' rfl
     refine D.ph (.fin (.ptCast (b := b9) (l' := enC (⟨z0 + es.length, pickZ xs[i].2.1 9, i, y, subs⟩ : En)) (by repeat' constructor) rfl ?_))
     have htx := ShapeH.tx (e := (⟨z0 + es.length, pickZ xs[i].2.1 9, i, y, subs⟩ : En)) hsh hcc (p := txRd y subs) (fun h hp => hp)
     have hfs := (ShapeH.sz (e := (⟨z0 + es.length, pickZ xs[i].2.1 9, i, y, subs⟩ : En)) hsh).few
     have hfs2 : subs.length ≤ 60 := hfs
     refine .then_n (.sm rfl (.q (.loadAs (vs := enC (⟨z0 + es.length, pickZ xs[i].2.1 9, i, y, subs⟩ : En)) rfl ag_39 (by repeat' constructor) (by simp [enC, ptC]) rfl) rfl (.oq (.call Tryz.func38 rfl rfl (vs := [_, _]) rfl (rsound_spec x τ (z0 + es.length) (pickZ xs[i].2.1 9) i y subs _ htx 60 hinv.ok (by omega))) ?_)))
     rintro v L' ⟨rfl, rfl⟩
     refine .an rfl (.seq (.seq (.rtOpen (x := x) (τ := τ) (by repeat' constructor) fun an cn as1 cs l hl => ?_)))
     have hll := nds_len hl
     refine .region (.m rfl (.u (.not rfl) (.m rfl (.bool (t := 50) rfl (fun h8_50 => ?_) (fun h8_50 => ?_)))))
     ·refine .kB (t := 49) rfl h8_50 (.gk (.gk (.gk (.gk (.gk (.gk (.gk (.gskipU (t := 57) rfl rfl rfl (.gskipU (t := 57) rfl rfl rfl (.gskipU (t := 57) rfl rfl rfl (.gskipU (t := 57) rfl rfl rfl (.gskipU (t := 57) rfl rfl rfl (.gskipU (t := 62) rfl rfl rfl (.gskipU (t := 62) rfl rfl rfl (.gskipU (t := 62) rfl rfl rfl (.gskipU (t := 62) rfl rfl rfl (.gskipU (t := 57) rfl rfl rfl (.gk (.u (.pickT rfl rfl) (.nil (.rtFold (x := x) (τ := τ) (l := l) hl (by repeat' constructor) rfl rfl rfl rfl rfl (.then_n (.condT rfl (.exit (.then_e (.blk_e (.then_n (.region (.m rfl (.q (.add rfl rfl (by omega)) rfl (.an rfl ?_)))))))))))))))))))))))))))))))
      exact .rk ((i + 1, es, τ, .slice au es.length cu)) (⟨⟨by dsimp only; omega, by dsimp only; omega, by dsimp only; omega⟩, hh, _, _, rfl⟩) (by dsimp only; omega) ⟨rfl, rfl, rfl, rfl, rfl, rfl, rfl, trivial⟩
     refine .kB (t := 49) rfl h8_50 (.grun (t := 50) rfl rfl rfl (.m rfl (.grun (t := 50) rfl rfl rfl (.u (.nilp rfl) (.grun (t := 50) rfl rfl rfl (.u (.fieldAddr rfl fo_87_0) (.grun (t := 50) rfl rfl rfl (.u (.ld rfl ag_73) (.grun (t := 50) rfl rfl rfl (.q (.slen rfl Tryz.underlying73 rfl) rfl (.grun (t := 50) rfl rfl rfl (.q (.as (v' := .bool false) (by exact congrArg Value.bool (decide_eq_false (by omega))) (.int rfl rfl rfl)) rfl (.grun (t := 50) rfl rfl rfl (.m rfl (.gk (.gk (.gk (.gk (.gk (.gskipU (t := 62) rfl rfl rfl (.gskipU (t := 62) rfl rfl rfl (.gskipU (t := 62) rfl rfl rfl (.gskipU (t := 62) rfl rfl rfl (.gk (.grun (t := 50) rfl rfl rfl (.u (.pickF rfl rfl) (.u (.pickF rfl rfl) (.nil (.rtFold (x := x) (τ := τ) (l := l) hl (by repeat' constructor) rfl rfl rfl rfl rfl (.then_n (.condF rfl (.sk (.seq ?_)))))))))))))))))))))))))))))))))
     have hsd : soundZ τ (z0 + es.length) y subs = true := by simpa using h8_50
     have hE : EntH τ (⟨z0 + es.length, pickZ xs[i].2.1 9, i, y, subs⟩ : En) (60 * es.length) := ⟨hsd, hsh, ⟨hp9.1, hp9.2⟩, hcc⟩
     refine .region (.m rfl (.q (.loadAs (vs := enC (⟨z0 + es.length, pickZ xs[i].2.1 9, i, y, subs⟩ : En)) rfl ag_39 (by repeat' constructor) (by simp [enC, ptC]) rfl) rfl (.oq (.call Tryz.func30 rfl rfl (vs := [_, _]) rfl (rapply_spec x τ (z0 + es.length) (pickZ xs[i].2.1 9) i y subs _ htx 60 hinv.ok (by omega))) ?_)))
     rintro v L' ⟨ue, ee, rfl, he, hue, rfl⟩
     refine .nil (.rfCast (x := x) (τ' := (appE τ (⟨z0 + es.length, pickZ xs[i].2.1 9, i, y, subs⟩ : En))) (by repeat' constructor) (rfl) (.fold (p := ensA (es ++ [(⟨z0 + es.length, pickZ xs[i].2.1 9, i, y, subs⟩ : En)])) (.cons (p := ensA es) (by repeat' constructor) (.cons (p := txRd y subs) (by repeat' constructor) .nil)) (fun _ hp => ensA_snoc hp) (.then_n (.region (.m rfl (.q (.loadAs (vs := enC (⟨z0 + es.length, pickZ xs[i].2.1 9, i, y, subs⟩ : En)) rfl ag_39 (by repeat' constructor) (by simp [enC, ptC]) rfl) rfl (.oq (.buildSlice (vs := [_]) el_24 ze_39 rfl rfl rfl rfl (by first | (simp [Value.cells]; done) | (intro v hv; simp only [List.mem_cons, List.not_mem_nil, or_false] at hv; (repeat (first | (subst hv; rfl) | (rcases hv with hv | hv; (subst hv; rfl)))))) (by decide)) ?_)))))))
     rintro v L' ⟨b10, rfl, rfl⟩
     refine .oq (.append1 rfl rfl rfl el_24 ze_39 rfl rfl ?c71 ?c72 (Nat.le_refl _) ?c73 (by decide)) ?_
     case c71 => simp only [List.map_cons, List.map_nil, List.flatten_cons, List.flatten_nil, List.append_nil]; exact en_cells (e := (⟨z0 + es.length, pickZ xs[i].2.1 9, i, y, subs⟩ : En)) hcc
     case c72 => rfl
     case c73 => first | omega | (simp; omega)
     rintro v L' ⟨⟨a10_3, c10_3, rfl⟩, rfl⟩
     refine .a rfl (.nil (.blk_n (.then_n (.region (.m rfl (.q (.add rfl rfl (by omega)) rfl (.an rfl (.slCast (T := 39) (sz := 11) (m' := (es ++ [(⟨z0 + es.length, pickZ xs[i].2.1 9, i, y, subs⟩ : En)]).length) (xs' := (es ++ [(⟨z0 + es.length, pickZ xs[i].2.1 9, i, y, subs⟩ : En)]).flatMap enC) (by repeat' constructor) (by rw [List.length_append]; rfl) (by rw [List.flatMap_append]; simp; rfl) ?_))))))))
     exact .rk ((i + 1, es ++ [(⟨z0 + es.length, pickZ xs[i].2.1 9, i, y, subs⟩ : En)], appE τ (⟨z0 + es.length, pickZ xs[i].2.1 9, i, y, subs⟩ : En), .slice a10_3 (es.length + 1) c10_3)) (⟨⟨by dsimp only; omega, by dsimp only; omega, by dsimp only; rw [List.length_append]; simp; omega⟩, .snoc hh hE rfl ⟨by show (0 : Int) ≤ (i : Int); omega, by show (i : Int) < 150; omega⟩, _, _, by rw [List.length_append]; rfl⟩) (by dsimp only; omega) ⟨rfl, rfl, rfl, rfl, rfl, rfl, rfl, trivial⟩
    rintro v L' ⟨b9, rfl, rfl⟩
    refine D.hh rfl (.call Tryz.func36 rfl rfl (vs := [_, _, _]) rfl (txn7_spec x τ (xs[i].1, (xs[i].2.1, (xs[i].2.2.1, (xs[i].2.2.2.1.take 100, uv)))) _ us (z0 + es.length) (60 * es.length) hinv (by omega) ⟨hk1, hk2, hk3⟩ (by rw [List.length_take]; omega) (acts0_own hsm) hsm)) ?_
    rintro v L' ⟨y, subs, rfl, hsh, hcc, rfl⟩
    refine D.kv rfl (.buildN (pl := [(0, 1), (1, 1), (2, 1), (3, 8)]) (us := [(0, vint (z0 + es.length)), (1, vint (pickZ xs[i].2.1 9)), (2, vint i), (3, .agg (ptC y).toArray)]) (cells := enC (⟨z0 + es.length, pickZ xs[i].2.1 9, i, y, subs⟩ : En)) Tryz.underlying39 (by kernel_rfl) ze_39 rfl (fill_entry4 _ _ _ _ _ _ _ _ _ _ _)) (.ph (.g0 (.hh rfl (.storeA rfl rfl ?c82 sz_39 ?c85 ?c83 (nfz0 _ _)) ?_)))
    case c82 => exact en_cells (e := (⟨z0 + es.length, pickZ xs[i].2.1 9, i, y, subs⟩ : En)) hcc
    case c85 => rfl
    case c83 => simp [enC, ptC]
    rintro v L' rfl
    refine D.ph (.fin (.ptCast (b := b9) (l' := enC (⟨z0 + es.length, pickZ xs[i].2.1 9, i, y, subs⟩ : En)) (by repeat' constructor) rfl ?_))
    have htx := ShapeH.tx (e := (⟨z0 + es.length, pickZ xs[i].2.1 9, i, y, subs⟩ : En)) hsh hcc (p := txRd y subs) (fun h hp => hp)
    have hfs := (ShapeH.sz (e := (⟨z0 + es.length, pickZ xs[i].2.1 9, i, y, subs⟩ : En)) hsh).few
    have hfs2 : subs.length ≤ 60 := hfs
    refine .then_n (.sm rfl (.q (.loadAs (vs := enC (⟨z0 + es.length, pickZ xs[i].2.1 9, i, y, subs⟩ : En)) rfl ag_39 (by repeat' constructor) (by simp [enC, ptC]) rfl) rfl (.oq (.call Tryz.func38 rfl rfl (vs := [_, _]) rfl (rsound_spec x τ (z0 + es.length) (pickZ xs[i].2.1 9) i y subs _ htx 60 hinv.ok (by omega))) ?_)))
    rintro v L' ⟨rfl, rfl⟩
    refine .an rfl (.seq (.seq (.rtOpen (x := x) (τ := τ) (by repeat' constructor) fun an cn as1 cs l hl => ?_)))
    have hll := nds_len hl
    refine .region (.m rfl (.u (.not rfl) (.m rfl (.bool (t := 50) rfl (fun h8_50 => ?_) (fun h8_50 => ?_)))))
    ·refine .kB (t := 49) rfl h8_50 (.gk (.gk (.gk (.gk (.gk (.gk (.gk (.gskipU (t := 57) rfl rfl rfl (.gskipU (t := 57) rfl rfl rfl (.gskipU (t := 57) rfl rfl rfl (.gskipU (t := 57) rfl rfl rfl (.gskipU (t := 57) rfl rfl rfl (.gskipU (t := 62) rfl rfl rfl (.gskipU (t := 62) rfl rfl rfl (.gskipU (t := 62) rfl rfl rfl (.gskipU (t := 62) rfl rfl rfl (.gskipU (t := 57) rfl rfl rfl (.gk (.u (.pickT rfl rfl) (.nil (.rtFold (x := x) (τ := τ) (l := l) hl (by repeat' constructor) rfl rfl rfl rfl rfl (.then_n (.condT rfl (.exit (.then_e (.blk_e (.then_n (.region (.m rfl (.q (.add rfl rfl (by omega)) rfl (.an rfl ?_)))))))))))))))))))))))))))))))
     exact .rk ((i + 1, es, τ, .slice au es.length cu)) (⟨⟨by dsimp only; omega, by dsimp only; omega, by dsimp only; omega⟩, hh, _, _, rfl⟩) (by dsimp only; omega) ⟨rfl, rfl, rfl, rfl, rfl, rfl, rfl, trivial⟩
    refine .kB (t := 49) rfl h8_50 (.grun (t := 50) rfl rfl rfl (.m rfl (.grun (t := 50) rfl rfl rfl (.u (.nilp rfl) (.grun (t := 50) rfl rfl rfl (.u (.fieldAddr rfl fo_87_0) (.grun (t := 50) rfl rfl rfl (.u (.ld rfl ag_73) (.grun (t := 50) rfl rfl rfl (.q (.slen rfl Tryz.underlying73 rfl) rfl (.grun (t := 50) rfl rfl rfl (.q (.as (v' := .bool false) (by exact congrArg Value.bool (decide_eq_false (by omega))) (.int rfl rfl rfl)) rfl (.grun (t := 50) rfl rfl rfl (.m rfl (.gk (.gk (.gk (.gk (.gk (.gskipU (t := 62) rfl rfl rfl (.gskipU (t := 62) rfl rfl rfl (.gskipU (t := 62) rfl rfl rfl (.gskipU (t := 62) rfl rfl rfl (.gk (.grun (t := 50) rfl rfl rfl (.u (.pickF rfl rfl) (.u (.pickF rfl rfl) (.nil (.rtFold (x := x) (τ := τ) (l := l) hl (by repeat' constructor) rfl rfl rfl rfl rfl (.then_n (.condF rfl (.sk (.seq ?_)))))))))))))))))))))))))))))))))
    have hsd : soundZ τ (z0 + es.length) y subs = true := by simpa using h8_50
    have hE : EntH τ (⟨z0 + es.length, pickZ xs[i].2.1 9, i, y, subs⟩ : En) (60 * es.length) := ⟨hsd, hsh, ⟨hp9.1, hp9.2⟩, hcc⟩
    refine .region (.m rfl (.q (.loadAs (vs := enC (⟨z0 + es.length, pickZ xs[i].2.1 9, i, y, subs⟩ : En)) rfl ag_39 (by repeat' constructor) (by simp [enC, ptC]) rfl) rfl (.oq (.call Tryz.func30 rfl rfl (vs := [_, _]) rfl (rapply_spec x τ (z0 + es.length) (pickZ xs[i].2.1 9) i y subs _ htx 60 hinv.ok (by omega))) ?_)))
    rintro v L' ⟨ue, ee, rfl, he, hue, rfl⟩
    refine .nil (.rfCast (x := x) (τ' := (appE τ (⟨z0 + es.length, pickZ xs[i].2.1 9, i, y, subs⟩ : En))) (by repeat' constructor) (rfl) (.fold (p := ensA (es ++ [(⟨z0 + es.length, pickZ xs[i].2.1 9, i, y, subs⟩ : En)])) (.cons (p := ensA es) (by repeat' constructor) (.cons (p := txRd y subs) (by repeat' constructor) .nil)) (fun _ hp => ensA_snoc hp) (.then_n (.region (.m rfl (.q (.loadAs (vs := enC (⟨z0 + es.length, pickZ xs[i].2.1 9, i, y, subs⟩ : En)) rfl ag_39 (by repeat' constructor) (by simp [enC, ptC]) rfl) rfl (.oq (.buildSlice (vs := [_]) el_24 ze_39 rfl rfl rfl rfl (by first | (simp [Value.cells]; done) | (intro v hv; simp only [List.mem_cons, List.not_mem_nil, or_false] at hv; (repeat (first | (subst hv; rfl) | (rcases hv with hv | hv; (subst hv; rfl)))))) (by decide)) ?_)))))))
    rintro v L' ⟨b10, rfl, rfl⟩
    refine .oq (.append1 rfl rfl rfl el_24 ze_39 rfl rfl ?c110 ?c111 (Nat.le_refl _) ?c112 (by decide)) ?_
    case c110 => simp only [List.map_cons, List.map_nil, List.flatten_cons, List.flatten_nil, List.append_nil]; exact en_cells (e := (⟨z0 + es.length, pickZ xs[i].2.1 9, i, y, subs⟩ : En)) hcc
    case c111 => rfl
    case c112 => first | omega | (simp; omega)
    rintro v L' ⟨⟨a10_3, c10_3, rfl⟩, rfl⟩
    refine .a rfl (.nil (.blk_n (.then_n (.region (.m rfl (.q (.add rfl rfl (by omega)) rfl (.an rfl (.slCast (T := 39) (sz := 11) (m' := (es ++ [(⟨z0 + es.length, pickZ xs[i].2.1 9, i, y, subs⟩ : En)]).length) (xs' := (es ++ [(⟨z0 + es.length, pickZ xs[i].2.1 9, i, y, subs⟩ : En)]).flatMap enC) (by repeat' constructor) (by rw [List.length_append]; rfl) (by rw [List.flatMap_append]; simp; rfl) ?_))))))))
    exact .rk ((i + 1, es ++ [(⟨z0 + es.length, pickZ xs[i].2.1 9, i, y, subs⟩ : En)], appE τ (⟨z0 + es.length, pickZ xs[i].2.1 9, i, y, subs⟩ : En), .slice a10_3 (es.length + 1) c10_3)) (⟨⟨by dsimp only; omega, by dsimp only; omega, by dsimp only; rw [List.length_append]; simp; omega⟩, .snoc hh hE rfl ⟨by show (0 : Int) ≤ (i : Int); omega, by show (i : Int) < 150; omega⟩, _, _, by rw [List.length_append]; rfl⟩) (by dsimp only; omega) ⟨rfl, rfl, rfl, rfl, rfl, rfl, rfl, trivial⟩
   rintro v L' ⟨b9, rfl, rfl⟩
   refine D.hR rfl (by kernel_rfl) (SpecR.ro [p] (.c Tryz.func37 [_] (small7_ro xs[i] p ss hss hcs (by omega))) (by repeat' constructor)) (by repeat' constructor) ?_
   rintro v L' ⟨uv, us, rfl, hsm, rfl⟩
   refine D.hh rfl (.call Tryz.func36 rfl rfl (vs := [_, _, _]) rfl (txn7_spec x τ (xs[i].1, (xs[i].2.1, (xs[i].2.2.1, (xs[i].2.2.2.1.take 100, uv)))) _ us (z0 + es.length) (60 * es.length) hinv (by omega) ⟨hk1, hk2, hk3⟩ (by rw [List.length_take]; omega) (acts0_own hsm) hsm)) ?_
   rintro v L' ⟨y, subs, rfl, hsh, hcc, rfl⟩
   refine D.kv rfl (.buildN (pl := [(0, 1), (1, 1), (2, 1), (3, 8)]) (us := [(0, vint (z0 + es.length)), (1, vint (pickZ xs[i].2.1 9)), (2, vint i), (3, .agg (ptC y).toArray)]) (cells := enC (⟨z0 + es.length, pickZ xs[i].2.1 9, i, y, subs⟩ : En)) Tryz.underlying39 (by kernel_rfl) ze_39 rfl (fill_entry4 _ _ _ _ _ _ _ _ _ _ _)) (.ph (.g0 (.hh rfl (.storeA rfl rfl ?c123 sz_39 ?c126 ?c124 (nfz0 _ _)) ?_)))
   case c123 => exact en_cells (e := (⟨z0 + es.length, pickZ xs[i].2.1 9, i, y, subs⟩ : En)) hcc
   case c126 => rfl
   case c124 => simp [enC, ptC]
   rintro v L' rfl
   refine D.ph (.fin (.ptCast (b := b9) (l' := enC (⟨z0 + es.length, pickZ xs[i].2.1 9, i, y, subs⟩ : En)) (by repeat' constructor) rfl ?_))
   have htx := ShapeH.tx (e := (⟨z0 + es.length, pickZ xs[i].2.1 9, i, y, subs⟩ : En)) hsh hcc (p := txRd y subs) (fun h hp => hp)
   have hfs := (ShapeH.sz (e := (⟨z0 + es.length, pickZ xs[i].2.1 9, i, y, subs⟩ : En)) hsh).few
   have hfs2 : subs.length ≤ 60 := hfs
   refine .then_n (.sm rfl (.q (.loadAs (vs := enC (⟨z0 + es.length, pickZ xs[i].2.1 9, i, y, subs⟩ : En)) rfl ag_39 (by repeat' constructor) (by simp [enC, ptC]) rfl) rfl (.oq (.call Tryz.func38 rfl rfl (vs := [_, _]) rfl (rsound_spec x τ (z0 + es.length) (pickZ xs[i].2.1 9) i y subs _ htx 60 hinv.ok (by omega))) ?_)))
   rintro v L' ⟨rfl, rfl⟩
   refine .an rfl (.seq (.seq (.rtOpen (x := x) (τ := τ) (by repeat' constructor) fun an cn as1 cs l hl => ?_)))
   have hll := nds_len hl
   refine .region (.m rfl (.u (.not rfl) (.m rfl (.bool (t := 50) rfl (fun h8_50 => ?_) (fun h8_50 => ?_)))))
   ·refine .kB (t := 49) rfl h8_50 (.gk (.gk (.gk (.gk (.gk (.gk (.gk (.gskipU (t := 57) rfl rfl rfl (.gskipU (t := 57) rfl rfl rfl (.gskipU (t := 57) rfl rfl rfl (.gskipU (t := 57) rfl rfl rfl (.gskipU (t := 57) rfl rfl rfl (.gskipU (t := 62) rfl rfl rfl (.gskipU (t := 62) rfl rfl rfl (.gskipU (t := 62) rfl rfl rfl (.gskipU (t := 62) rfl rfl rfl (.gskipU (t := 57) rfl rfl rfl (.gk (.u (.pickT rfl rfl) (.nil (.rtFold (x := x) (τ := τ) (l := l) hl (by repeat' constructor) rfl rfl rfl rfl rfl (.then_n (.condT rfl (.exit (.then_e (.blk_e (.then_n (.region (.m rfl (.q (.add rfl rfl (by omega)) rfl (.an rfl ?_)))))))))))))))))))))))))))))))
    exact .rk ((i + 1, es, τ, .slice au es.length cu)) (⟨⟨by dsimp only; omega, by dsimp only; omega, by dsimp only; omega⟩, hh, _, _, rfl⟩) (by dsimp only; omega) ⟨rfl, rfl, rfl, rfl, rfl, rfl, rfl, trivial⟩
   refine .kB (t := 49) rfl h8_50 (.grun (t := 50) rfl rfl rfl (.m rfl (.grun (t := 50) rfl rfl rfl (.u (.nilp rfl) (.grun (t := 50) rfl rfl rfl (.u (.fieldAddr rfl fo_87_0) (.grun (t := 50) rfl rfl rfl (.u (.ld rfl ag_73) (.grun (t := 50) rfl rfl rfl (.q (.slen rfl Tryz.underlying73 rfl) rfl (.grun (t := 50) rfl rfl rfl (.q (.as (v' := .bool false) (by exact congrArg Value.bool (decide_eq_false (by omega))) (.int rfl rfl rfl)) rfl (.grun (t := 50) rfl rfl rfl (.m rfl (.gk (.gk (.gk (.gk (.gk (.gskipU (t := 62) rfl rfl rfl (.gskipU (t := 62) rfl rfl rfl (.gskipU (t := 62) rfl rfl rfl (.gskipU (t := 62) rfl rfl rfl (.gk (.grun (t := 50) rfl rfl rfl (.u (.pickF rfl rfl) (.u (.pickF rfl rfl) (.nil (.rtFold (x := x) (τ := τ) (l := l) hl (by repeat' constructor) rfl rfl rfl rfl rfl (.then_n (.condF rfl (.sk (.seq ?_)))))))))))))))))))))))))))))))))
   have hsd : soundZ τ (z0 + es.length) y subs = true := by simpa using h8_50
   have hE : EntH τ (⟨z0 + es.length, pickZ xs[i].2.1 9, i, y, subs⟩ : En) (60 * es.length) := ⟨hsd, hsh, ⟨hp9.1, hp9.2⟩, hcc⟩
   refine .region (.m rfl (.q (.loadAs (vs := enC (⟨z0 + es.length, pickZ xs[i].2.1 9, i, y, subs⟩ : En)) rfl ag_39 (by repeat' constructor) (by simp [enC, ptC]) rfl) rfl (.oq (.call Tryz.func30 rfl rfl (vs := [_, _]) rfl (rapply_spec x τ (z0 + es.length) (pickZ xs[i].2.1 9) i y subs _ htx 60 hinv.ok (by omega))) ?_)))
   rintro v L' ⟨ue, ee, rfl, he, hue, rfl⟩
   refine .nil (.rfCast (x := x) (τ' := (appE τ (⟨z0 + es.length, pickZ xs[i].2.1 9, i, y, subs⟩ : En))) (by repeat' constructor) (rfl) (.fold (p := ensA (es ++ [(⟨z0 + es.length, pickZ xs[i].2.1 9, i, y, subs⟩ : En)])) (.cons (p := ensA es) (by repeat' constructor) (.cons (p := txRd y subs) (by repeat' constructor) .nil)) (fun _ hp => ensA_snoc hp) (.then_n (.region (.m rfl (.q (.loadAs (vs := enC (⟨z0 + es.length, pickZ xs[i].2.1 9, i, y, subs⟩ : En)) rfl ag_39 (by repeat' constructor) (by simp [enC, ptC]) rfl) rfl (.oq (.buildSlice (vs := [_]) el_24 ze_39 rfl rfl rfl rfl (by first | (simp [Value.cells]; done) | (intro v hv; simp only [List.mem_cons, List.not_mem_nil, or_false] at hv; (repeat (first | (subst hv; rfl) | (rcases hv with hv | hv; (subst hv; rfl)))))) (by decide)) ?_)))))))
   rintro v L' ⟨b10, rfl, rfl⟩
   refine .oq (.append1 rfl rfl rfl el_24 ze_39 rfl rfl ?c151 ?c152 (Nat.le_refl _) ?c153 (by decide)) ?_
   case c151 => simp only [List.map_cons, List.map_nil, List.flatten_cons, List.flatten_nil, List.append_nil]; exact en_cells (e := (⟨z0 + es.length, pickZ xs[i].2.1 9, i, y, subs⟩ : En)) hcc
   case c152 => rfl
   case c153 => first | omega | (simp; omega)
   rintro v L' ⟨⟨a10_3, c10_3, rfl⟩, rfl⟩
   refine .a rfl (.nil (.blk_n (.then_n (.region (.m rfl (.q (.add rfl rfl (by omega)) rfl (.an rfl (.slCast (T := 39) (sz := 11) (m' := (es ++ [(⟨z0 + es.length, pickZ xs[i].2.1 9, i, y, subs⟩ : En)]).length) (xs' := (es ++ [(⟨z0 + es.length, pickZ xs[i].2.1 9, i, y, subs⟩ : En)]).flatMap enC) (by repeat' constructor) (by rw [List.length_append]; rfl) (by rw [List.flatMap_append]; simp; rfl) ?_))))))))
   exact .rk ((i + 1, es ++ [(⟨z0 + es.length, pickZ xs[i].2.1 9, i, y, subs⟩ : En)], appE τ (⟨z0 + es.length, pickZ xs[i].2.1 9, i, y, subs⟩ : En), .slice a10_3 (es.length + 1) c10_3)) (⟨⟨by dsimp only; omega, by dsimp only; omega, by dsimp only; rw [List.length_append]; simp; omega⟩, .snoc hh hE rfl ⟨by show (0 : Int) ≤ (i : Int); omega, by show (i : Int) < 150; omega⟩, _, _, by rw [List.length_append]; rfl⟩) (by dsimp only; omega) ⟨rfl, rfl, rfl, rfl, rfl, rfl, rfl, trivial⟩
  refine .exit (.then_e (.then_e (.blk_e (.then_n (.sm rfl (.m rfl (.a rfl (.an rfl (.ret ?_)))))))))
  exact .dn rfl rfl ⟨es, τ, x, _, rfl, hh, ⟨by omega, _, _, rfl⟩, rfl⟩
 refine .kDF (t := 15) rfl h4_16 (.gk (.gk (.u (.pickF rfl rfl) (.nt (.condF rfl (.exit (.then_e (.then_e (.blk_e (.then_n (.sm rfl (.m rfl (.a rfl (.an rfl (.ret ?_)))))))))))))))
 exact .dn rfl rfl ⟨es, τ, x, _, rfl, hh, ⟨by omega, _, _, rfl⟩, rfl⟩
theorem pick8_spec  (c n : Int) (hc : -9223372036854775808 ≤ c ∧ c ≤ 9223372036854775807) (hn : 0 < n) : Fn Tryz.prog 16 #[vint c, vint n] [] fun v L => v = vint (pickZ c n) ∧ L = [] := by
 refine Fn.intro Tryz.func16 rfl rfl fun F W => ?_
 refine .sr (.an rfl (.seq (.sm rfl (.ui rfl rfl rfl (.nt (.condD rfl (fun h6 => ?_) (fun h6 => ?_)))))))
 ·refine .region (.m rfl (.q (.add rfl rfl (by omega)) rfl (.q (.neg rfl (by omega)) rfl (.an rfl (.sm rfl (.m rfl (.q (.remE rfl rfl (by omega) (by omega)) rfl (.an rfl (.ret ?_)))))))))
  have e : pickZ c n = (-(c + 1)) % n := by unfold pickZ; rw [if_pos h6]
  rw [e]
  exact .vv
 refine .sk (.sm rfl (.m rfl (.q (.remE rfl rfl (by omega) (by omega)) rfl (.an rfl (.ret ?_)))))
 have e : pickZ c n = (c) % n := by unfold pickZ; rw [if_neg h6]
 rw [e]
 exact .vv
theorem sev_small {u : Nat} (h : u < 128) : sevZ u = [UInt8.ofNat u] := by rw [sevZ.eq_1, if_pos h]
def wantZ : Bs := [4, 84, 82, 69, 69, 0, 1, 1, 47, 0, 1, 62, 5, 119, 111, 114, 108, 100, 0, 0, 0, 0, 0, 0, 0, 0]
theorem num_zero : numB 0 = [0] := sev_small (u := 0) (by decide)
theorem enc_new : encZ newT = wantZ := by
 have h1 : txtB headB = [4, 84, 82, 69, 69] := by unfold txtB cntB; rw [sev_small (by decide)]; decide
 have h2 : nodesB newT.nodes = [1] ++ ([1, 47] ++ ([0] ++ ([1] ++ ([62] ++ [5, 119, 111, 114, 108, 100]) ++ [0, 0, 0, 0, 0, 0, 0]))) := by
  have e31 : numB 31 = [62] := sev_small (u := 62) (by decide)
  unfold nodesB newT ndB aclB txtB cntB
  simp only [List.length_cons, List.length_nil, List.flatMap_cons, List.flatMap_nil, List.append_nil]
  unfold acB txtB cntB nums7 st0
  simp only [List.length_cons, List.length_nil, List.flatMap_cons, List.flatMap_nil, List.append_nil, num_zero, e31]
  rw [sev_small (u := 0 + 1) (by decide), sev_small (u := 0) (by decide), sev_small (u := 0 + 1 + 1 + 1 + 1 + 1) (by decide)]
  decide
 have h3 : sessB newT.sess = [0] := by unfold sessB cntB newT; rw [sev_small (by decide)]; rfl
 unfold encZ layB
 rw [h1, h2, h3, show newT.zx = 0 from rfl, num_zero]
 decide
theorem newT_right : RightT newT := Hist.right (es := []) .nil (by decide)
theorem dec_new : decZ wantZ = some newT := by
 rw [← enc_new]
 exact dec_some (read_back newT_right) (Hist.whole (es := []) .nil)
theorem new_step (k : Nat) (h : 1 < k) : fzStep newT k (beginZ newT) = ⟨newT.zx, newT.nodes, newT.sess, true⟩ := still_end newT_ok (path_ne newT_ok) h
theorem awake8_spec : Fn Tryz.prog 9 #[] [] fun v L => v = .bool true ∧ L = [] := by
 refine Fn.intro Tryz.func9 rfl rfl fun F W => ?_
 have hz0 : FzN newT (beginZ newT) 1 := .begin TrW.new (by decide)
 have hz1 := FzN.step TrW.new newT_ok (M := 1) (by decide) 1 hz0
 have hz2 := FzN.step TrW.new newT_ok (M := 1) (by decide) 2 hz0
 refine .sr (.an rfl (.sr (.oq (.c Tryz.func11 [] (trnew_spec)) ?_)))
 rintro v L' ⟨t, rfl, rfl⟩
 refine .an rfl (.sm rfl (.oq (.c Tryz.func14 [_] (sencode_spec t newT 1 newT_ok (by decide) TrW.new)) ?_))
 rintro v L' ⟨rfl, rfl⟩; rw [enc_new]
 refine .an rfl (.sr (.an rfl (.sm rfl (.oq (.c Tryz.func13 [_] (sdecode_spec wantZ (by decide))) ?_))))
 rintro v L' (⟨g, -, -⟩ | ⟨υ, u, g, rfl, rfl⟩); (rw [dec_new] at g; cases g); obtain rfl : newT = υ := by rw [dec_new] at g; exact Option.some.inj g
 refine .m rfl (.u (.extract rfl rfl) (.u (.extract rfl rfl) (.a rfl (.an rfl (.sm rfl (.oq (.c Tryz.func17 [_] (sbegin_spec t newT)) ?_))))))
 rintro v L' ⟨f, rfl, rfl⟩
 refine .an rfl (.seq (.sm rfl (.q (.as (v' := .bool false) (by rfl) (.ptreq rfl rfl Tryz.underlying28)) rfl (.m rfl (.grun (t := 21) rfl rfl rfl (.m rfl (.grun (t := 21) rfl rfl rfl (.q (.as (v' := .bool false) (by rfl) (.ptreq rfl rfl Tryz.underlying28)) rfl (.u (.pickF rfl rfl) (.m rfl (.grun (t := 25) rfl rfl rfl (.m rfl (.grun (t := 25) rfl rfl rfl (.q (.as (v' := .bool false) (by rfl) (.ptreq rfl rfl Tryz.underlying47)) rfl (.u (.pickF rfl rfl) (.nt (.condF rfl (.sk (.sm rfl (.oq (.c Tryz.func18 [_, _] (sstep_spec f t newT (beginZ newT) 1 1 1 newT_ok (by decide) TrW.new hz0 (by decide) (by decide) (by decide))) ?_))))))))))))))))))))
 rintro v L' ⟨rfl, rfl⟩; rw [show fzStep newT (1 : Int).toNat (beginZ newT) = fzStep newT 1 (beginZ newT) from rfl, show (fzStep newT 1 (beginZ newT)).all = false by rw [still_at newT_ok (path_ne newT_ok) 1 (by decide)]]
 refine .an rfl (.sm rfl (.oq (.c Tryz.func18 [_, _] (sstep_spec f t newT (fzStep newT 1 (beginZ newT)) 1 1 1 newT_ok (by decide) TrW.new hz1 (by decide) (by decide) (by decide))) ?_))
 rintro v L' ⟨rfl, rfl⟩; rw [show fzStep newT (1 : Int).toNat (fzStep newT 1 (beginZ newT)) = fzStep newT 2 (beginZ newT) from (step_add newT 1 1 _).symm, show (fzStep newT 2 (beginZ newT)).all = true by rw [new_step 2 (by decide)]]
 refine .an rfl (.sm rfl (.m rfl (.q (.as (v' := .bool true) (by exact congrArg Value.bool (decide_eq_true (by rfl))) (.streq rfl rfl)) rfl (.m rfl (.grun (t := 36) rfl rfl rfl (.m rfl (.grun (t := 36) rfl rfl rfl (.q (.as (v' := .bool true) (by rfl) (.int rfl rfl rfl)) rfl (.u (.pickT rfl rfl) (.m rfl (.grun (t := 40) rfl rfl rfl (.m rfl (.grun (t := 40) rfl rfl rfl (.m rfl (.grun (t := 40) rfl rfl rfl (.oq (.c Tryz.func15 [_, _] (trsame_spec u t newT newT 1 1 newT_ok newT_ok)) ?_))))))))))))))))
 rintro v L' ⟨rfl, rfl⟩; rw [decide_eq_true rfl]
 refine .u (.pickT rfl rfl) (.m rfl (.grun (t := 45) rfl rfl rfl (.m rfl (.grun (t := 45) rfl rfl rfl (.u (.not rfl) (.u (.pickT rfl rfl) (.m rfl (.grun (t := 49) rfl rfl rfl (.m rfl (.u (.pickT rfl rfl) (.m rfl (.grun (t := 52) rfl rfl rfl (.m rfl (.grun (t := 52) rfl rfl rfl (.oq (.c Tryz.func20 [_] (stext_spec f t newT (fzStep newT 2 (beginZ newT)) 1 1 newT_ok (by decide) TrW.new hz2 (by decide))) ?_)))))))))))))))
 rintro v L' ⟨rfl, rfl⟩; rw [still_text newT_ok (path_ne newT_ok) (k := 2) (by decide), enc_new]
 refine .grun (t := 52) rfl rfl rfl (.m rfl (.grun (t := 52) rfl rfl rfl (.q (.as (v' := .bool true) (by exact congrArg Value.bool (decide_eq_true (by rfl))) (.streq rfl rfl)) rfl (.u (.pickT rfl rfl) (.an rfl (.ret ?_))))))
 exact .vv
/- not in this seat -/
def rfW (r : Nat) (s : Bs) (at' : Nat) (e : Int) : HP := fun h => ∃ _y : Unit, (at' ≤ s.length ∧ s.length ≤ 70368744177664) ∧ sep [ptc r [vstr s, vint at', vint e] 175] h
def rfR (r : Nat) (st : Rs) : HP := fun h => ∃ y : Bs × (Nat × Int), stW y.1 y.2.1 y.2.2 = st ∧ sep [rfW r y.1 y.2.1 y.2.2] h
section
variable {P : Program} {W : World} {n : Nat} {ds : List Deferred} {E : Env} {L R : List HP} {X : Act → World → Prop}
theorem G.rfOpen {r : Nat} {s : Bs} {k : Nat} {e : Int} (hL : Pick (rfW r s k e) L R) (h : k ≤ s.length → s.length ≤ 70368744177664 → G W n ds E (ptc r [vstr s, vint k, vint e] 175 :: R) X) : G W n ds E L X :=
 G.focus hL (G.open (q := fun _ : Unit => [ptc r [vstr s, vint k, vint e] 175]) (φ := fun _ => k ≤ s.length ∧ s.length ≤ 70368744177664) (fun _ hp => hp) fun _ hy => h hy.1 hy.2)
theorem G.rfFold {r : Nat} (s : Bs) (k : Nat) (e : Int) {l : List Value} (hL : Picks [ptc r l 175] L R) (hl : l = [vstr s, vint k, vint e]) (hk : k ≤ s.length) (hs : s.length ≤ 70368744177664) (h : G W n ds E (rfW r s k e :: R) X) : G W n ds E L X := by
 subst hl
 exact G.fold hL (fun _ hp => ⟨(), ⟨hk, hs⟩, hp⟩) h
theorem Fn.rfUp {f : FuncId} {args : Array Value} {r : Nat} {α : Type} {d : α} {p : Pa α} {v : α → Value} (h : ∀ s k e, Fn P f args [rfW r s k e] fun u L => ∃ k' e', stW s k' e' = (runP d p (stW s k e)).2 ∧ u = v (runP d p (stW s k e)).1 ∧ L = [rfW r s k' e']) (st : Rs) :
  Fn P f args [rfR r st] fun u L => u = v (runP d p st).1 ∧ L = [rfR r (runP d p st).2] := by
 intro F w hs
 obtain ⟨h1, h2, hd, a1, a2, ⟨y, hy, hp⟩, hF⟩ := hs
 subst hy
 have hs' : St ([rfW r y.1 y.2.1 y.2.2] ++ F) w := sep_flat ⟨h1, h2, hd, a1, a2, hp, hF⟩
 refine (h _ _ _ F w hs').mono ?_
 rintro e w' ⟨u, L, ⟨k', e', h3, rfl, rfl⟩, he, hs2, hk⟩
 refine ⟨_, _, ⟨rfl, rfl⟩, he, sep_imp (fun hh hq => ⟨(y.1, (k', e')), h3, hh, fun _ => none, fun _ => .inr rfl, fun _ _ e => e, fun _ _ e => (by cases e), hq, trivial⟩) hs2, hk⟩
theorem Fn.rfEnd {f : FuncId} {args : Array Value} {r : Nat} (h : ∀ s k e, Fn P f args [rfW r s k e] fun u L => ∃ e1, (e1 = 0 ↔ stW s k e = some []) ∧ u = vint e1 ∧ L = [rfW r s k e1]) (st : Rs) :
  Fn P f args [rfR r st] fun u L => ∃ e1, (e1 = 0 ↔ st = some []) ∧ u = vint e1 ∧ ∃ st', L = [rfR r st'] := by
 intro F w hs
 obtain ⟨h1, h2, hd, a1, a2, ⟨y, hy, hp⟩, hF⟩ := hs
 subst hy
 have hs' : St ([rfW r y.1 y.2.1 y.2.2] ++ F) w := sep_flat ⟨h1, h2, hd, a1, a2, hp, hF⟩
 refine (h _ _ _ F w hs').mono ?_
 rintro e w' ⟨u, L, ⟨e1, h3, rfl, rfl⟩, he, hs2, hk⟩
 refine ⟨_, _, ⟨e1, h3, rfl, _, rfl⟩, he, sep_imp (fun hh hq => ⟨(y.1, (y.2.1, e1)), rfl, hh, fun _ => none, fun _ => .inr rfl, fun _ _ e => e, fun _ _ e => (by cases e), hq, trivial⟩) hs2, hk⟩
theorem rfW_up {r : Nat} {s : Bs} {k : Nat} {e : Int} {h : Hp} (hp : sep [rfW r s k e] h) : rfR r (stW s k e) h := ⟨(s, (k, e)), rfl, hp⟩
theorem G.rfUpF {r : Nat} {s : Bs} {k : Nat} {e : Int} {st : Rs} (hL : Pick (rfW r s k e) L R) (hs : stW s k e = st) (h : G W n ds E (rfR r st :: R) X) : G W n ds E L X := by
 subst hs; exact G.fold (.cons hL .nil) (fun _ hp => rfW_up hp) h
theorem G.rfLook {r : Nat} {st : Rs} (hL : Pick (rfR r st) L R) (h : ∀ s k e, stW s k e = st → k ≤ s.length → s.length ≤ 70368744177664 → G W n ds E (ptc r [vstr s, vint k, vint e] 175 :: R) X) : G W n ds E L X :=
 G.focus hL (G.open (q := fun y : Bs × (Nat × Int) => [rfW r y.1 y.2.1 y.2.2]) (φ := fun y : Bs × (Nat × Int) => stW y.1 y.2.1 y.2.2 = st) (fun _ hp => hp) fun y hy => G.rfOpen .here fun h1 h2 => h _ _ _ hy h1 h2)
end
section
variable {P : Program} {E : Env} {L : List HP} {ty : TypeId}
theorem Quiet.remU8 {t t' : TypeId} {x y : Operand} {a b : Int} (hx : ev E x = some (.int .u8 a)) (hy : ev E y = some (.int .u8 b)) (h0 : 0 ≤ a) (hb : 0 < b) :
  Quiet P ⟨none, .binOp .rem t x y t', ty, "", #[], none⟩ E L (.int .u8 (a % b)) := by
 intro ρ w ha _
 have e : a.tmod b = a % b := Int.tmod_eq_emod_of_nonneg h0
 simp [execOp, ha x _ hx, ha y _ hy, eqGuard, binOp, Op.intDiv, Bind.bind, Sem.bind, Pure.pure, Sem.run, show b ≠ 0 by omega, e]
end
theorem sev_mul {k u x : Nat} (hk : k ≤ 9) (hu : u < 128 ^ k) (hx : x < 128) (h9 : k = 9 → x ≤ 1) : IntKind.u64.wrap ((u : Int) + IntKind.u64.wrap ((x : Int) * ((128 ^ k : Nat) : Int))) = ((u + x * 128 ^ k : Nat) : Int) := by
 have hb : x * 128 ^ k < 18446744073709551616 ∧ u + x * 128 ^ k < 18446744073709551616 := by
  rcases Nat.lt_or_ge k 9 with g | g
  ·have h4 : 128 ^ (k + 1) ≤ 128 ^ 9 := Nat.pow_le_pow_right (by decide) (by omega)
   have e9 : (128 : Nat) ^ 9 = 9223372036854775808 := by decide
   have : x * 128 ^ k ≤ 127 * 128 ^ k := Nat.mul_le_mul_right _ (by omega)
   rw [Nat.pow_succ] at h4
   omega
  ·have : k = 9 := by omega
   subst this
   have := h9 rfl
   have e9 : (128 : Nat) ^ 9 = 9223372036854775808 := by decide
   have : x * 128 ^ 9 ≤ 1 * 128 ^ 9 := Nat.mul_le_mul_right _ (by omega)
   omega
 have e1 : (x : Int) * ((128 ^ k : Nat) : Int) = ((x * 128 ^ k : Nat) : Int) := by simp
 rw [e1, u64wrap, u64wrap]
 omega
theorem unit_mul {k : Nat} (hk : k < 9) : IntKind.u64.wrap (((128 ^ k : Nat) : Int) * 128) = ((128 ^ (k + 1) : Nat) : Int) := by
 have h4 : 128 ^ (k + 1) ≤ 128 ^ 9 := Nat.pow_le_pow_right (by decide) (by omega)
 have e9 : (128 : Nat) ^ 9 = 9223372036854775808 := by decide
 rw [u64wrap, Nat.pow_succ]
 rw [Nat.pow_succ] at h4
 omega
section
variable {P : Program} {E : Env} {L : List HP} {ty : TypeId}
theorem Quiet.quoU {t t' : TypeId} {x y : Operand} {a b : Int} (hx : ev E x = some (.int .u64 a)) (hy : ev E y = some (.int .u64 b)) (h0 : 0 ≤ a ∧ a < 18446744073709551616) (hb : 0 < b) :
  Quiet P ⟨none, .binOp .quo t x y t', ty, "", #[], none⟩ E L (.int .u64 (a / b)) := by
 intro ρ w ha _
 have e : a.tdiv b = a / b := Int.tdiv_eq_ediv_of_nonneg h0.1
 have h1 : a / b ≤ a := Int.ediv_le_self b h0.1
 have h2 : 0 ≤ a / b := Int.ediv_nonneg h0.1 (by omega)
 have hw : IntKind.u64.wrap (a / b) = a / b := by rw [u64wrap]; omega
 simp [execOp, ha x _ hx, ha y _ hy, eqGuard, binOp, Op.intDiv, Bind.bind, Sem.bind, Pure.pure, Sem.run, show b ≠ 0 by omega, e, hw]
theorem Quiet.remU {t t' : TypeId} {x y : Operand} {a b : Int} (hx : ev E x = some (.int .u64 a)) (hy : ev E y = some (.int .u64 b)) (h0 : 0 ≤ a) (hb : 0 < b) :
  Quiet P ⟨none, .binOp .rem t x y t', ty, "", #[], none⟩ E L (.int .u64 (a % b)) := by
 intro ρ w ha _
 have e : a.tmod b = a % b := Int.tmod_eq_emod_of_nonneg h0
 simp [execOp, ha x _ hx, ha y _ hy, eqGuard, binOp, Op.intDiv, Bind.bind, Sem.bind, Pure.pure, Sem.run, show b ≠ 0 by omega, e]
end
theorem rfwrong_spec (r : Nat) (s : Bs) (k : Nat) (e e' : Int) : Fn Tryz.prog 134 #[vptr r, vint e'] [rfW r s k e] fun v L => v = .tuple #[] ∧ L = [rfW r s k (if e = 0 then e' else e)] := by
 refine Fn.intro Tryz.func134 rfl rfl fun F W => ?_
 refine .rfOpen (by repeat' constructor) fun hkl hsz => (.sm rfl (.nf rfl fo_175_2 (.u (.ld rfl ag_31) (.ui rfl rfl rfl (.nt (.condD rfl (fun h8 => ?_) (fun h8 => ?_)))))))
 ·refine .region (.m rfl (.m rfl (.nf rfl fo_175_2 (.st rfl rfl rfl sz_31 ?_))))
  refine .nil (.done_n ?_)
  rw [if_pos h8]
  refine .rfFold (r := r) s (k) (e') (by repeat' constructor) (by first | rfl | (simp only [List.set]; congr; omega)) (by omega) hsz ?_
  exact .vv
 refine .skip (.done_n ?_)
 rw [if_neg h8]
 refine .rfFold (r := r) s (k) (e) (by repeat' constructor) (by first | rfl | (simp only [List.set]; congr; omega)) (by omega) hsz ?_
 exact .vv
theorem rfsevens_spec (r : Nat) (s : Bs) (k : Nat) (e : Int) : Fn Tryz.prog 135 #[vptr r] [rfW r s k e] fun v L => ∃ u m e', SevA s k e u m e' ∧ v = .int .u64 (u : Nat) ∧ L = [rfW r s (k + m) e'] := by
 refine Fn.intro Tryz.func135 rfl rfl fun F W => ?_
 refine .rfOpen (by repeat' constructor) fun hkl hsz => (.sr (.an rfl (.seq (.sr ?_))))
 rcases Decidable.em (e = 0) with he0 | he0
 ·subst he0
  refine .m rfl (.nf rfl fo_175_2 (.u (.ld rfl ag_31) (.q (.as (v' := .bool false) (by rfl) (.int rfl rfl rfl)) rfl (.nt (.condF rfl (.sk (.sr (.an rfl (.sr (.an rfl (.sr (.an rfl (.block (.loopK (ι := Nat × Nat) (fun q E => (5, vint ((q.1 + 1 : Nat) : Int)) :: (3, .int .u64 q.2) :: (4, .int .u64 ((128 ^ q.1 : Nat) : Int)) :: E) (fun q => [ptc r [vstr s, vint k, vint 0] 175]) (fun q => k + q.1 ≤ s.length ∧ q.1 ≤ 9 ∧ q.2 < 128 ^ q.1 ∧ sevP q.1 q.2 (s.drop (k + q.1)) = sevP 0 0 (s.drop k)) (fun q => s.length - q.1) (0, 0) (ts := [0]) (.cons rfl (.nil)) (⟨by dsimp only; omega, by dsimp only; omega, by dsimp only; decide, rfl⟩) ⟨rfl, rfl, rfl, rfl, trivial⟩ (by repeat' constructor) ?_))))))))))))))
  rintro ⟨j, u⟩ ⟨hj, hj9, huj, hsv⟩
  dsimp only
  dsimp only at hj hj9 huj hsv
  refine .seq (.block (.seq (.seq (.draw [] [[0, 1, 2, 3, 4, 5, 6, 7, 8, 9, 10, 11]] mixed (by kernel_rfl) (.g0 (.mv rfl rfl (.nf rfl rfl rfl fo_175_1 (.kv rfl (.ld rfl ag_3) (.mv rfl rfl (.kv rfl (.add rfl rfl (by omega)) (.mv rfl rfl (.nf rfl rfl rfl fo_175_0 (.kv rfl (.ld rfl ag_9) (.kv rfl (.strlen rfl Tryz.underlying9 rfl) (.kv rfl (.int rfl rfl rfl) (.pf (.condD rfl (fun h25 => ?_) (fun h25 => ?_))))))))))))))))))
  ·refine .rfFold (r := r) s (k) (0) (by repeat' constructor) (by first | rfl | (simp only [List.set]; congr; omega)) (by omega) hsz (.sm rfl (.oq (.c Tryz.func134 [_, _] (rfwrong_spec r s k 0 10)) ?_))
   rintro v L' ⟨rfl, rfl⟩; rw [if_pos rfl]
   refine .nt (.sr (.an rfl (.rt (.blk_r (.then_r (.then_r (.blk_r ?_)))))))
   exact .dn rfl rfl ⟨0, 0, 10, .inl ⟨.inr (by rw [← hsv]; exact sevP_out (by omega)), rfl, rfl, by decide⟩, rfl, rfl⟩
  have hlt : k + j < s.length := by omega
  have hxl := s[k + j].toNat_lt
  refine .sk (.seq (.draw [] [[0, 1, 2, 3, 4, 5, 6, 7, 8, 9, 10, 11, 12]] mixed (by kernel_rfl) (.g0 (.mv rfl rfl (.nf rfl rfl rfl fo_175_0 (.kv rfl (.ld rfl ag_9) (.mv rfl rfl (.nf rfl rfl rfl fo_175_1 (.kv rfl (.ld rfl ag_3) (.mv rfl rfl (.kv rfl (.add rfl rfl (by omega)) (.kv rfl (.as (v' := vint ((k + j : Nat) : Int)) (by congr 1; omega) (.sub rfl rfl (by omega))) (.kv rfl (.to (v' := vbyte s[k + j]) (.strIndex rfl rfl Tryz.underlying9 (by omega) (by rw [Int.toNat_natCast]; exact List.getElem?_eq_getElem hlt)) rfl) ?_)))))))))))))
  refine D.kv rfl (.assign rfl) (.pf (.seq (.sm rfl (.ui rfl rfl rfl (.m rfl (.dec (t := 42) rfl (fun h11_42 => ?_) (fun h11_42 => ?_)))))))
  ·refine .kDT (t := 41) rfl h11_42 (.grun (t := 42) rfl rfl rfl (.m rfl (.grun (t := 42) rfl rfl rfl (.ui rfl rfl rfl (.u (.pickT rfl rfl) (.nt (.condD rfl (fun h45 => ?_) (fun h45 => ?_))))))))
   ·refine .rfFold (r := r) s (k) (0) (by repeat' constructor) (by first | rfl | (simp only [List.set]; congr; omega)) (by omega) hsz (.sm rfl (.oq (.c Tryz.func134 [_, _] (rfwrong_spec r s k 0 11)) ?_))
    rintro v L' ⟨rfl, rfl⟩; rw [if_pos rfl]
    refine .nt (.sr (.an rfl (.rt (.blk_r (.then_r (.then_r (.blk_r ?_)))))))
    exact .dn rfl rfl ⟨0, 0, 11, .inl ⟨.inr (by rw [← hsv, sevP_at hlt, if_pos (.inl ⟨by omega, by omega⟩)]), rfl, rfl, by decide⟩, rfl, rfl⟩
   refine .sk (.seq ?_)
   have h9 : j = 9 → s[k + j].toNat ≤ 1 := fun g => (by omega)
   refine .region (.m rfl (.m rfl (.q (.to (v' := .int .u8 ((s[k + j].toNat % 128 : Nat) : Int)) (.remU8 rfl rfl (by omega) (by decide)) (by rfl)) rfl (.q (.as (v' := .int .u64 ((s[k + j].toNat % 128 : Nat) : Int)) (by exact congrArg (Value.int .u64) (by rw [u64wrap]; omega)) (.conv rfl Tryz.underlying5 Tryz.underlying171)) rfl (.m rfl (.ui rfl rfl rfl (.q (.as (v' := .int .u64 ((u + s[k + j].toNat % 128 * 128 ^ j : Nat) : Int)) (by exact congrArg (Value.int .u64) (sev_mul hj9 huj (by omega) (fun g => by have := h9 g; omega))) (.int rfl rfl rfl)) rfl (.an rfl (.sm rfl (.ui rfl rfl rfl (.an rfl (.seq (.sm rfl (.ui rfl rfl rfl (.nt (.condD rfl (fun h58 => ?_) (fun h58 => ?_)))))))))))))))))
   ·have hnb : ¬ badB j s[k + j] := by rintro (⟨g1, g2⟩ | ⟨g1, g2⟩); have := h9 g1; omega; omega
    have hj8 : j < 9 := by rcases Nat.lt_or_ge j 9 with g | g; exact g; exact absurd (h9 (by omega)) (by omega)
    refine .exit (.then_e (.blk_e (.then_n (.region (.m rfl (.q (.as (v' := vint ((j + 1 + 1 : Nat) : Int)) (by congr 1) (.add rfl rfl (by omega))) rfl (.an rfl ?_)))))))
    rw [unit_mul hj8]
    exact .rk ((j + 1, u + s[k + j].toNat % 128 * 128 ^ j)) (⟨by dsimp only; omega, by dsimp only; omega, by dsimp only; rw [Nat.pow_succ]; have := Nat.mul_le_mul_right (128 ^ j) (show s[k + j].toNat % 128 ≤ 127 by omega); omega, by dsimp only; rw [← hsv, sevP_at hlt, if_neg hnb, if_neg (by omega)]; rfl⟩) (by dsimp only; omega) ⟨rfl, rfl, rfl, rfl, trivial⟩
   refine .sk (.seq (.sm rfl (.ui rfl rfl rfl (.m rfl (.dec (t := 61) rfl (fun h17_61 => ?_) (fun h17_61 => ?_))))))
   ·refine .kDT (t := 60) rfl h17_61 (.grun (t := 61) rfl rfl rfl (.m rfl (.grun (t := 61) rfl rfl rfl (.ui rfl rfl rfl (.u (.pickT rfl rfl) (.nt (.condD rfl (fun h64 => ?_) (fun h64 => ?_))))))))
    ·refine .rfFold (r := r) s (k) (0) (by repeat' constructor) (by first | rfl | (simp only [List.set]; congr; omega)) (by omega) hsz (.sm rfl (.oq (.c Tryz.func134 [_, _] (rfwrong_spec r s k 0 11)) ?_))
     rintro v L' ⟨rfl, rfl⟩; rw [if_pos rfl]
     refine .nt (.sr (.an rfl (.rt (.blk_r (.then_r (.then_r (.blk_r ?_)))))))
     exact .dn rfl rfl ⟨0, 0, 11, .inl ⟨.inr (by rw [← hsv, sevP_at hlt, if_pos (.inr ⟨by omega, by omega⟩)]), rfl, rfl, by decide⟩, rfl, rfl⟩
    refine .sk (.seq ?_)
    have hnb : ¬ badB j s[k + j] := by rintro (⟨g1, g2⟩ | ⟨g1, g2⟩); have := h9 g1; omega; omega
    refine .region (.m rfl (.m rfl (.nf rfl fo_175_1 (.u (.ld rfl ag_3) (.m rfl (.q (.add rfl rfl (by omega)) rfl (.nf rfl fo_175_1 (.st rfl rfl rfl sz_3 ?_))))))))
    refine .nt (.sm rfl (.an rfl (.ret (.blk_r (.then_r (.then_r (.blk_r (.rfFold (r := r) s (k + (j + 1)) (0) (by repeat' constructor) (by first | rfl | (simp only [List.set]; congr; omega)) (by omega) hsz ?_))))))))
    exact .dn rfl rfl ⟨_, j + 1, 0, .inr ⟨rfl, rfl, by omega, by rw [← hsv, sevP_at hlt, if_neg hnb, if_pos (by omega)]; rfl⟩, rfl, rfl⟩
   refine .kDF (t := 60) rfl h17_61 (.gk (.gk (.u (.pickF rfl rfl) (.nt (.condF rfl (.sk (.seq ?_)))))))
   have hnb : ¬ badB j s[k + j] := by rintro (⟨g1, g2⟩ | ⟨g1, g2⟩); have := h9 g1; omega; omega
   refine .region (.m rfl (.m rfl (.nf rfl fo_175_1 (.u (.ld rfl ag_3) (.m rfl (.q (.add rfl rfl (by omega)) rfl (.nf rfl fo_175_1 (.st rfl rfl rfl sz_3 ?_))))))))
   refine .nt (.sm rfl (.an rfl (.ret (.blk_r (.then_r (.then_r (.blk_r (.rfFold (r := r) s (k + (j + 1)) (0) (by repeat' constructor) (by first | rfl | (simp only [List.set]; congr; omega)) (by omega) hsz ?_))))))))
   exact .dn rfl rfl ⟨_, j + 1, 0, .inr ⟨rfl, rfl, by omega, by rw [← hsv, sevP_at hlt, if_neg hnb, if_pos (by omega)]; rfl⟩, rfl, rfl⟩
  refine .kDF (t := 41) rfl h11_42 (.gk (.gk (.u (.pickF rfl rfl) (.nt (.condF rfl (.sk (.seq ?_)))))))
  have h9 : j = 9 → s[k + j].toNat ≤ 1 := fun g => absurd g (by omega)
  refine .region (.m rfl (.m rfl (.q (.to (v' := .int .u8 ((s[k + j].toNat % 128 : Nat) : Int)) (.remU8 rfl rfl (by omega) (by decide)) (by rfl)) rfl (.q (.as (v' := .int .u64 ((s[k + j].toNat % 128 : Nat) : Int)) (by exact congrArg (Value.int .u64) (by rw [u64wrap]; omega)) (.conv rfl Tryz.underlying5 Tryz.underlying171)) rfl (.m rfl (.ui rfl rfl rfl (.q (.as (v' := .int .u64 ((u + s[k + j].toNat % 128 * 128 ^ j : Nat) : Int)) (by exact congrArg (Value.int .u64) (sev_mul hj9 huj (by omega) (fun g => by have := h9 g; omega))) (.int rfl rfl rfl)) rfl (.an rfl (.sm rfl (.ui rfl rfl rfl (.an rfl (.seq (.sm rfl (.ui rfl rfl rfl (.nt (.condD rfl (fun h58 => ?_) (fun h58 => ?_)))))))))))))))))
  ·have hnb : ¬ badB j s[k + j] := by rintro (⟨g1, g2⟩ | ⟨g1, g2⟩); have := h9 g1; omega; omega
   have hj8 : j < 9 := by rcases Nat.lt_or_ge j 9 with g | g; exact g; exact absurd (h9 (by omega)) (by omega)
   refine .exit (.then_e (.blk_e (.then_n (.region (.m rfl (.q (.as (v' := vint ((j + 1 + 1 : Nat) : Int)) (by congr 1) (.add rfl rfl (by omega))) rfl (.an rfl ?_)))))))
   rw [unit_mul hj8]
   exact .rk ((j + 1, u + s[k + j].toNat % 128 * 128 ^ j)) (⟨by dsimp only; omega, by dsimp only; omega, by dsimp only; rw [Nat.pow_succ]; have := Nat.mul_le_mul_right (128 ^ j) (show s[k + j].toNat % 128 ≤ 127 by omega); omega, by dsimp only; rw [← hsv, sevP_at hlt, if_neg hnb, if_neg (by omega)]; rfl⟩) (by dsimp only; omega) ⟨rfl, rfl, rfl, rfl, trivial⟩
  refine .sk (.seq (.sm rfl (.ui rfl rfl rfl (.m rfl (.dec (t := 61) rfl (fun h17_61 => ?_) (fun h17_61 => ?_))))))
  ·refine .kDT (t := 60) rfl h17_61 (.grun (t := 61) rfl rfl rfl (.m rfl (.grun (t := 61) rfl rfl rfl (.ui rfl rfl rfl (.u (.pickT rfl rfl) (.nt (.condD rfl (fun h64 => ?_) (fun h64 => ?_))))))))
   ·refine .rfFold (r := r) s (k) (0) (by repeat' constructor) (by first | rfl | (simp only [List.set]; congr; omega)) (by omega) hsz (.sm rfl (.oq (.c Tryz.func134 [_, _] (rfwrong_spec r s k 0 11)) ?_))
    rintro v L' ⟨rfl, rfl⟩; rw [if_pos rfl]
    refine .nt (.sr (.an rfl (.rt (.blk_r (.then_r (.then_r (.blk_r ?_)))))))
    exact .dn rfl rfl ⟨0, 0, 11, .inl ⟨.inr (by rw [← hsv, sevP_at hlt, if_pos (.inr ⟨by omega, by omega⟩)]), rfl, rfl, by decide⟩, rfl, rfl⟩
   refine .sk (.seq ?_)
   have hnb : ¬ badB j s[k + j] := by rintro (⟨g1, g2⟩ | ⟨g1, g2⟩); have := h9 g1; omega; omega
   refine .region (.m rfl (.m rfl (.nf rfl fo_175_1 (.u (.ld rfl ag_3) (.m rfl (.q (.add rfl rfl (by omega)) rfl (.nf rfl fo_175_1 (.st rfl rfl rfl sz_3 ?_))))))))
   refine .nt (.sm rfl (.an rfl (.ret (.blk_r (.then_r (.then_r (.blk_r (.rfFold (r := r) s (k + (j + 1)) (0) (by repeat' constructor) (by first | rfl | (simp only [List.set]; congr; omega)) (by omega) hsz ?_))))))))
   exact .dn rfl rfl ⟨_, j + 1, 0, .inr ⟨rfl, rfl, by omega, by rw [← hsv, sevP_at hlt, if_neg hnb, if_pos (by omega)]; rfl⟩, rfl, rfl⟩
  refine .kDF (t := 60) rfl h17_61 (.gk (.gk (.u (.pickF rfl rfl) (.nt (.condF rfl (.sk (.seq ?_)))))))
  have hnb : ¬ badB j s[k + j] := by rintro (⟨g1, g2⟩ | ⟨g1, g2⟩); have := h9 g1; omega; omega
  refine .region (.m rfl (.m rfl (.nf rfl fo_175_1 (.u (.ld rfl ag_3) (.m rfl (.q (.add rfl rfl (by omega)) rfl (.nf rfl fo_175_1 (.st rfl rfl rfl sz_3 ?_))))))))
  refine .nt (.sm rfl (.an rfl (.ret (.blk_r (.then_r (.then_r (.blk_r (.rfFold (r := r) s (k + (j + 1)) (0) (by repeat' constructor) (by first | rfl | (simp only [List.set]; congr; omega)) (by omega) hsz ?_))))))))
  exact .dn rfl rfl ⟨_, j + 1, 0, .inr ⟨rfl, rfl, by omega, by rw [← hsv, sevP_at hlt, if_neg hnb, if_pos (by omega)]; rfl⟩, rfl, rfl⟩
 refine .m rfl (.nf rfl fo_175_2 (.u (.ld rfl ag_31) (.q (.as (v' := .bool true) (by simp [he0]) (.int rfl rfl rfl)) rfl (.nt (.condT rfl (.sr (.an rfl (.rt (.rfFold (r := r) s (k) (e) (by repeat' constructor) (by first | rfl | (simp only [List.set]; congr; omega)) (by omega) hsz ?_)))))))))
 exact .dn rfl rfl ⟨0, 0, e, .inl ⟨.inl he0, rfl, rfl, he0⟩, rfl, rfl⟩
theorem rfzag_spec (u : Nat) (hu : u < U64) : Fn Tryz.prog 136 #[.int .u64 (u : Nat)] [] fun v L => v = vint (zagZ u) ∧ L = [] := by
 refine Fn.intro Tryz.func136 rfl rfl fun F W => ?_
 have h64 : U64 = 18446744073709551616 := rfl
 refine .sr (.an rfl (.seq (.sm rfl (.q (.to (v' := .int .u64 ((u % 2 : Nat) : Int)) (.remU rfl rfl (by omega) (by decide)) (by rfl)) rfl (.ui rfl rfl rfl (.nt (.condD rfl (fun h5 => ?_) (fun h5 => ?_))))))))
 ·refine .sm rfl (.q (.to (v' := .int .u64 ((u / 2 : Nat) : Int)) (.quoU rfl rfl (by omega) (by decide)) (by rfl)) rfl (.q (.as (v' := vint ((u / 2 : Nat) : Int)) (by rw [i64w (by omega)]) (.conv rfl Tryz.underlying171 Tryz.underlying3)) rfl (.an rfl (.rt ?_))))
  exact .dn rfl rfl ⟨congrArg vint (by unfold zagZ; rw [if_pos (by omega)]), rfl⟩
 refine .sk (.sm rfl (.q (.to (v' := .int .u64 ((u / 2 : Nat) : Int)) (.quoU rfl rfl (by omega) (by decide)) (by rfl)) rfl (.q (.as (v' := vint ((u / 2 : Nat) : Int)) (by rw [i64w (by omega)]) (.conv rfl Tryz.underlying171 Tryz.underlying3)) rfl (.q (.neg rfl (by omega)) rfl (.q (.sub rfl rfl (by omega)) rfl (.an rfl (.ret ?_)))))))
 exact .dn rfl rfl ⟨congrArg vint (by unfold zagZ; rw [if_neg (by omega)]), rfl⟩
theorem rfnumW_spec (r : Nat) (s : Bs) (k : Nat) (e : Int) : Fn Tryz.prog 101 #[vptr r] [rfW r s k e] fun v L => ∃ k' e', stW s k' e' = (runP 0 numP (stW s k e)).2 ∧ v = vint (runP 0 numP (stW s k e)).1 ∧ L = [rfW r s k' e'] := by
 refine Fn.intro Tryz.func101 rfl rfl fun F W => ?_
 refine .sr (.an rfl (.sm rfl (.oq (.c Tryz.func135 [_] (rfsevens_spec r s k e)) ?_)))
 rintro v L' ⟨u, m, e', hA, rfl, rfl⟩; have hu := hA.lt
 refine .an rfl (.sm rfl (.cv Tryz.func136 [_] (rfzag_spec u hu) ?_))
 refine .an rfl (.ret ?_)
 rw [hA.num.2]
 exact .dn rfl rfl ⟨k + m, e', hA.num.1, rfl, rfl⟩
theorem SevA.fine {s : Bs} {k : Nat} {e : Int} {u m : Nat} {e' : Int} (h : SevA s k e u m e') (g : e' ≠ 0) : u = 0 := by
 rcases h with ⟨-, rfl, -⟩ | ⟨-, h, -⟩
 ·rfl
 ·exact absurd h g
theorem rfcountW_spec (r most : Nat) (hm : most ≤ 70368744177664) (s : Bs) (k : Nat) (e : Int) : Fn Tryz.prog 102 #[vptr r, vint most] [rfW r s k e] fun v L => ∃ k' e', k' ≤ s.length ∧ stW s k' e' = (runP 0 (cntP most) (stW s k e)).2 ∧ v = vint ((runP 0 (cntP most) (stW s k e)).1 : Nat) ∧ L = [rfW r s k' e'] := by
 refine Fn.intro Tryz.func102 rfl rfl fun F W => ?_
 refine .rfOpen (by repeat' constructor) fun hkl hsz => (.sr (.an rfl (.sm rfl (.nf rfl fo_175_1 (.u (.ld rfl ag_3) (.a rfl (.nil (.rfFold (r := r) s (k) (e) (by repeat' constructor) (by first | rfl | (simp only [List.set]; congr; omega)) (by omega) hsz (.then_n (.sm rfl (.oq (.c Tryz.func135 [_] (rfsevens_spec r s k e)) ?_)))))))))))
 rintro v L' ⟨u, m, e', hA, rfl, rfl⟩; have hu := hA.lt
 refine .an rfl (.seq (.seq (.rfOpen (by repeat' constructor) fun hkm hsz => (.region (.m rfl (.nf rfl fo_175_2 (.u (.ld rfl ag_31) (.ui rfl rfl rfl (.m rfl (.dec (t := 18) rfl (fun h3_18 => ?_) (fun h3_18 => ?_)))))))))))
 ·refine .kDT (t := 17) rfl h3_18 (.grun (t := 18) rfl rfl rfl (.m rfl (.grun (t := 18) rfl rfl rfl (.m rfl (.grun (t := 18) rfl rfl rfl (.q (.as (v' := vint (most : Nat)) (by rw [Int.max_eq_left (by omega)]) (.max2 rfl rfl)) rfl (.grun (t := 18) rfl rfl rfl (.q (.as (v' := .int .u64 (most : Nat)) (by exact congrArg (Value.int .u64) (by rw [u64wrap]; omega)) (.conv rfl Tryz.underlying3 Tryz.underlying171)) rfl (.grun (t := 18) rfl rfl rfl (.ui rfl rfl rfl (.u (.pickT rfl rfl) (.nt (.condD rfl (fun h24 => ?_) (fun h24 => ?_))))))))))))))
  ·refine .sm rfl (.m rfl (.nf rfl fo_175_1 (.st rfl rfl rfl sz_3 ?_)))
   refine .nil (.rfFold (r := r) s (k) (e') (by repeat' constructor) (by first | rfl | (simp only [List.set]; congr; omega)) (by omega) hsz (.then_n (.sm rfl (.cv Tryz.func134 [_, _] (rfwrong_spec r s k e' 12) ?_))))
   refine .nt (.sr (.an rfl (.rt ?_)))
   rw [hA.cntT (most := most) (by omega)]
   exact .dn rfl rfl ⟨k, _, hkl, st_none (x := 12) (by decide), rfl, rfl⟩
  refine .sk (.seq ?_)
  have hnm : ¬ most < u := by omega
  have hu64 : U64 = 18446744073709551616 := rfl
  refine .region (.m rfl (.q (.as (v' := vint (u : Nat)) (by rw [i64w (by have : u ≤ most := Nat.not_lt.1 hnm; omega)]) (.conv rfl Tryz.underlying171 Tryz.underlying3)) rfl (.an rfl (.ret (.rfFold (r := r) s (k + m) (e') (by repeat' constructor) (by first | rfl | (simp only [List.set]; congr; omega)) (by omega) hsz ?_)))))
  obtain ⟨hc1, hc2⟩ := hA.cntF hnm
  rw [hc2]
  exact .dn rfl rfl ⟨k + m, e', hkm, hc1, rfl, rfl⟩
 refine .kDF (t := 17) rfl h3_18 (.gk (.gk (.gk (.gk (.gk (.u (.pickF rfl rfl) (.nt (.condF rfl (.sk (.seq ?_))))))))))
 have hnm : ¬ most < u := by have := hA.fine h3_18; omega
 have hu64 : U64 = 18446744073709551616 := rfl
 refine .region (.m rfl (.q (.as (v' := vint (u : Nat)) (by rw [i64w (by have : u ≤ most := Nat.not_lt.1 hnm; omega)]) (.conv rfl Tryz.underlying171 Tryz.underlying3)) rfl (.an rfl (.ret (.rfFold (r := r) s (k + m) (e') (by repeat' constructor) (by first | rfl | (simp only [List.set]; congr; omega)) (by omega) hsz ?_)))))
 obtain ⟨hc1, hc2⟩ := hA.cntF hnm
 rw [hc2]
 exact .dn rfl rfl ⟨k + m, e', hkm, hc1, rfl, rfl⟩
theorem st_bad {s : Bs} {k : Nat} {e : Int} (h : ¬ e = 0) : stW s k e = none := if_neg h
theorem txt_bad {most : Nat} {st : Rs} (h : (runP 0 (cntP most) st).2 = none) : (runP [] (txtP most) st).2 = none ∧ (runP [] (txtP most) st).1 = [] := by
  cases st with
  | none => exact ⟨rfl, rfl⟩
  | some q =>
    cases hc : cntP most q with
    | none => have f2 : runP [] (txtP most) (some q) = ([], none) := by unfold runP txtP; dsimp only; rw [hc]
              rw [f2]; exact ⟨rfl, rfl⟩
    | some x => have f : runP 0 (cntP most) (some q) = (x.1, some x.2) := by unfold runP; dsimp only; rw [hc]
                rw [f] at h; cases h
theorem rftextW_spec (r most : Nat) (hm : most ≤ 70368744177664) (s : Bs) (k : Nat) (e : Int) : Fn Tryz.prog 100 #[vptr r, vint most] [rfW r s k e] fun v L => ∃ k' e', stW s k' e' = (runP [] (txtP most) (stW s k e)).2 ∧ v = vstr (runP [] (txtP most) (stW s k e)).1 ∧ L = [rfW r s k' e'] := by
 refine Fn.intro Tryz.func100 rfl rfl fun F W => ?_
 refine .rfOpen (by repeat' constructor) fun hkl hsz => (.sr (.an rfl (.sm rfl (.nf rfl fo_175_1 (.u (.ld rfl ag_3) (.a rfl (.nil (.rfFold (r := r) s (k) (e) (by repeat' constructor) (by first | rfl | (simp only [List.set]; congr; omega)) (by omega) hsz (.then_n (.sm rfl (.m rfl (.oq (.c Tryz.func102 [_, _] (rfcountW_spec r most hm s k e)) ?_))))))))))))
 rintro v L' ⟨k1, e1, hk1, hs1, rfl, rfl⟩; obtain ⟨n, hn⟩ : ∃ n, n = (runP 0 (cntP most) (stW s k e)).1 := ⟨_, rfl⟩; rw [← hn]
 refine .a rfl (.nil ?_)
 have hrun := txt_run hs1 hn hk1
 refine .then_n (.seq (.seq (.rfOpen (by repeat' constructor) fun _ _ => (.region (.m rfl (.nf rfl fo_175_2 (.u (.ld rfl ag_31) (.ui rfl rfl rfl (.nt (.condN rfl (fun h19 => ?_) (fun h19 => ?_)))))))))))
 ·have hst1 := st_bad (s := s) (k := k1) h19
  rw [hs1] at hst1
  obtain ⟨hb1, hb2⟩ := txt_bad hst1
  refine .sr (.an rfl (.rt (.rfFold (r := r) s (k1) (e1) (by repeat' constructor) (by first | rfl | (simp only [List.set]; congr; omega)) (by omega) hsz ?_)))
  rw [hb2]
  exact .dn rfl rfl ⟨k1, e1, (by rw [hb1]; exact st_bad h19), rfl, rfl⟩
 refine .sk (.seq (.seq (.draw [] [[0, 1, 2, 3, 4, 5, 6, 7, 8, 9, 10, 11]] mixed (by kernel_rfl) (.g0 (.mv rfl rfl (.nf rfl rfl rfl fo_175_0 (.kv rfl (.ld rfl ag_9) (.kv rfl (.strlen rfl Tryz.underlying9 rfl) (.mv rfl rfl (.nf rfl rfl rfl fo_175_1 (.kv rfl (.ld rfl ag_3) (.kv rfl (.sub rfl rfl (by omega)) (.mv rfl rfl (.kv rfl (.int rfl rfl rfl) (.pf (.condD rfl (fun h31 => ?_) (fun h31 => ?_)))))))))))))))))
 ·refine .sm rfl (.m rfl (.nf rfl fo_175_1 (.st rfl rfl rfl sz_3 ?_)))
  refine .nil (.rfFold (r := r) s (k) (e1) (by repeat' constructor) (by first | rfl | (simp only [List.set]; congr; omega)) (by omega) hsz (.then_n (.sm rfl (.cv Tryz.func134 [_, _] (rfwrong_spec r s k e1 10) ?_))))
  refine .nt (.sr (.an rfl (.rt ?_)))
  rw [hrun.1 (by omega)]
  exact .dn rfl rfl ⟨k, _, st_none (x := 10) (by decide), rfl, rfl⟩
 obtain ⟨hr1, hr2⟩ := hrun.2 (by omega)
 refine .sk (.seq (.draw [] [[0, 1, 2, 3, 4, 5, 6, 7, 8, 9, 10, 11, 12, 13, 14, 15]] mixed (by kernel_rfl) (.g0 (.mv rfl rfl (.nf rfl rfl rfl fo_175_0 (.kv rfl (.ld rfl ag_9) (.mv rfl rfl (.nf rfl rfl rfl fo_175_1 (.kv rfl (.ld rfl ag_3) (.mv rfl rfl (.nf rfl rfl rfl fo_175_1 (.kv rfl (.ld rfl ag_3) (.mv rfl rfl (.kv rfl (.as (v' := vint ((k1 + n : Nat) : Int)) (by first | rfl | (congr 1; omega)) (.add rfl rfl (by omega))) (.kv rfl (.to (v' := vstr ((s.take (k1 + n)).drop k1)) (.strMid rfl rfl rfl Tryz.underlying9 (by omega)) (by rfl)) (.kv rfl (.assign rfl) (.pf (.sm rfl (.m rfl (.nf rfl fo_175_1 (.u (.ld rfl ag_3) ?_)))))))))))))))))))))
 refine .m rfl (.q (.add rfl rfl (by omega)) rfl (.nf rfl fo_175_1 (.st rfl rfl rfl sz_3 ?_)))
 refine .nt (.sm rfl (.an rfl (.ret (.rfFold (r := r) s (k1 + n) (e1) (by repeat' constructor) (by first | rfl | (simp only [List.set]; congr; omega)) (by omega) hsz ?_))))
 rw [hr2]
 exact .dn rfl rfl ⟨k1 + n, e1, hr1, rfl, rfl⟩
theorem rfendW_spec (r : Nat) (s : Bs) (k : Nat) (e : Int) : Fn Tryz.prog 105 #[vptr r] [rfW r s k e] fun v L => ∃ e1, (e1 = 0 ↔ stW s k e = some []) ∧ v = vint e1 ∧ L = [rfW r s k e1] := by
 refine Fn.intro Tryz.func105 rfl rfl fun F W => ?_
 refine .rfOpen (by repeat' constructor) fun hkl hsz => (.sr (.an rfl (.seq (.seq (.draw [] [[0, 1, 2, 3, 4, 5, 6, 7, 8, 9]] mixed (by kernel_rfl) (.g0 (.mv rfl rfl (.nf rfl rfl rfl fo_175_1 (.kv rfl (.ld rfl ag_3) (.mv rfl rfl (.nf rfl rfl rfl fo_175_0 (.kv rfl (.ld rfl ag_9) (.kv rfl (.strlen rfl Tryz.underlying9 rfl) (.kv rfl (.int rfl rfl rfl) (.pf (.condN rfl (fun h12 => ?_) (fun h12 => ?_)))))))))))))))))
 ·refine .rfFold (r := r) s (k) (e) (by repeat' constructor) (by first | rfl | (simp only [List.set]; congr; omega)) (by omega) hsz (.region (.m rfl (.cv Tryz.func134 [_, _] (rfwrong_spec r s k e 11) ?_)))
  refine .nt (.seq (.rfOpen (by repeat' constructor) fun _ _ => (.region (.m rfl (.nf rfl fo_175_2 (.u (.ld rfl ag_31) (.an rfl (.ret (.rfFold (r := r) s (k) (if e = 0 then 11 else e) (by repeat' constructor) (by first | rfl | (simp only [List.set]; congr; omega)) (by omega) hsz ?_)))))))))
  exact .dn rfl rfl ⟨_, end_T (by omega), rfl, rfl⟩
 refine .sk (.sm rfl (.nf rfl fo_175_2 (.u (.ld rfl ag_31) (.an rfl (.ret (.rfFold (r := r) s (k) (e) (by repeat' constructor) (by first | rfl | (simp only [List.set]; congr; omega)) (by omega) hsz ?_))))))
 exact .dn rfl rfl ⟨_, end_F (by omega), rfl, rfl⟩
theorem rfnum_spec (r : Nat) (st : Rs) : Fn Tryz.prog 101 #[vptr r] [rfR r st] fun v L => v = vint (runP 0 numP st).1 ∧ L = [rfR r (runP 0 numP st).2] := Fn.rfUp (v := vint) (fun s k e => rfnumW_spec r s k e) st
theorem rfcount_spec (r most : Nat) (hm : most ≤ 70368744177664) (st : Rs) : Fn Tryz.prog 102 #[vptr r, vint most] [rfR r st] fun v L => v = vint ((runP 0 (cntP most) st).1 : Nat) ∧ L = [rfR r (runP 0 (cntP most) st).2] := Fn.rfUp (v := fun n : Nat => vint n) (fun s k e => (rfcountW_spec r most hm s k e).mono fun _ _ ⟨k', e', _, h⟩ => ⟨k', e', h⟩) st
theorem rftext_spec (r most : Nat) (hm : most ≤ 70368744177664) (st : Rs) : Fn Tryz.prog 100 #[vptr r, vint most] [rfR r st] fun v L => v = vstr (runP [] (txtP most) st).1 ∧ L = [rfR r (runP [] (txtP most) st).2] := Fn.rfUp (v := vstr) (fun s k e => rftextW_spec r most hm s k e) st
theorem rfend_spec (r : Nat) (st : Rs) : Fn Tryz.prog 105 #[vptr r] [rfR r st] fun v L => ∃ e1, (e1 = 0 ↔ st = some []) ∧ v = vint e1 ∧ ∃ st', L = [rfR r st'] := Fn.rfEnd (fun s k e => rfendW_spec r s k e) st
theorem rfnumN_spec (r : Nat) (st : Rs) : Fn Tryz.prog 101 #[vptr r] [rfR r st] fun v L => v = vint (numR st).1 ∧ L = [rfR r (numR st).2] := rfnum_spec r st
theorem rftxtN_spec (r : Nat) (st : Rs) : Fn Tryz.prog 100 #[vptr r, vint 4096] [rfR r st] fun v L => v = vstr (txtR st).1 ∧ L = [rfR r (txtR st).2] := rftext_spec r 4096 (by decide) st
theorem rftxt4_spec (r : Nat) (st : Rs) : Fn Tryz.prog 100 #[vptr r, vint 4] [rfR r st] fun v L => v = vstr (txt4R st).1 ∧ L = [rfR r (txt4R st).2] := rftext_spec r 4 (by decide) st
theorem rfcntN_spec (r : Nat) (st : Rs) : Fn Tryz.prog 102 #[vptr r, vint 256] [rfR r st] fun v L => v = vint ((cntR st).1 : Nat) ∧ L = [rfR r (cntR st).2] := rfcount_spec r 256 (by decide) st
theorem stW_iff {s : Bs} {k : Nat} {e : Int} {st : Rs} (h : stW s k e = st) : e = 0 ↔ st ≠ none := by
 subst h
 unfold stW
 split
 ·rename_i h; exact ⟨fun _ => by simp, fun _ => h⟩
 ·rename_i h; exact ⟨fun g => absurd g h, fun g => absurd rfl g⟩
theorem many_fail {α : Type} {f : Rn α} (hs : Strict f) : ∀ (n j : Nat) (st : Rs), j ≤ n → (manyR f j st).2 = none → (manyR f n st).2 = none
 | 0, j, st, hj, h => by
  have : j = 0 := by omega
  subst this; exact h
 | n + 1, j, st, hj, h => by
  by_cases e : j = n + 1
  ·subst e; exact h
  ·show (f (manyR f n st).2).2 = none
   rw [many_fail hs n j st (by omega) h]; exact hs
theorem ints_getD {l : List Int} {c : Nat} (h : c < l.length) : (ints l)[c]? = some (vint (l.getD c 0)) := by simp [ints, h]
theorem seven_set {l : List Int} {k : Nat} (hk : k < 7) (hl : l.length = k) (n : Int) : (ints l ++ List.replicate (7 - k) (vint 0)).set (k * 1) (vint n) = ints (l ++ [n]) ++ List.replicate (7 - (k + 1)) (vint 0) := by
 have e : List.replicate (7 - k) (vint 0) = vint 0 :: List.replicate (7 - (k + 1)) (vint 0) := by rw [show 7 - k = (7 - (k + 1)) + 1 by omega]; rfl
 rw [e, Nat.mul_one, List.set_append_right _ _ (by simp [ints]; omega)]
 have : k - (ints l).length = 0 := by simp [ints]; omega
 rw [this]
 simp [ints]
theorem take_same8 {st : Rs} {l : List Ac} (h : l = (manyR acR (cntR (txtR (txtR st).2).2).1 (cntR (txtR (txtR st).2).2).2).1) : (((txtR st).1, (⟨(txtR (txtR st).2).1, l, st7 (manyR numR 7 (manyR acR (cntR (txtR (txtR st).2).2).1 (cntR (txtR (txtR st).2).2).2).2).1⟩ : Nd)) : PN) = (ndR st).1 := by rw [h]; rfl
theorem G.rfCastS {W : World} {n : Nat} {ds : List Deferred} {E : Env} {L R : List HP} {X : Act → World → Prop} {r : Nat} {st st' : Rs} (hL : Pick (rfR r st) L R) (hw : st = st') (h : G W n ds E (rfR r st' :: R) X) : G W n ds E L X := by
 subst hw; exact G.focus hL h
structure TakeZ (st : Rs) (z : Rno) : Prop where
 path : z.1 = (txtR st).1
 few : z.2.2.acl.length ≤ 256
 cell : isCell z.2.1 = true
 all : (ndR st).2 ≠ none → (z.1, z.2.2) = (ndR st).1
theorem rtake_spec (r : Nat) (st : Rs) : Fn Tryz.prog 103 #[vptr r] [rfR r st] fun v L => ∃ z : Rno, v = .agg (rnC z).toArray ∧ TakeZ st z ∧ L = [rfR r (ndR st).2, inA z] := by
 refine Fn.intro Tryz.func103 rfl rfl fun F W => ?_
 obtain ⟨na, hna⟩ : ∃ n, n = (cntR (txtR (txtR st).2).2).1 := ⟨_, rfl⟩
 have hna2 : na ≤ 256 := by rw [hna]; exact cntR_le _
 refine .sr (.oq (.allocA ze_129) ?_)
 rintro v L' ⟨b2, rfl, rfl⟩
 refine .nt (.sr (.q (.to (v' := .agg ([vstr [], vstr [], .slice none 0 0, vint 0, vint 0, vint 0, vint 0, vint 0, vint 0, vint 0, vint 0, vint 0] : List Value).toArray) (.buildN (pl := [(0, 1), (1, 1), (2, 1), (3, 9)]) (us := []) (cells := [vstr [], vstr [], .slice none 0 0, vint 0, vint 0, vint 0, vint 0, vint 0, vint 0, vint 0, vint 0, vint 0]) Tryz.underlying129 (by kernel_rfl) ze_129 rfl rfl) rfl) rfl (.oq (.allocA ze_129) ?_)))
 rintro v L' ⟨b3, rfl, rfl⟩
 refine .oq (.storeA rfl rfl ?c6 sz_129 ?c9 ?c7 (nfz0 _ _)) ?_
 case c6 => simp [isCell]
 case c9 => rfl
 case c7 => simp
 rintro v L' rfl
 refine .nil (.ptCast (b := b3) (l' := [vstr [], vstr [], .slice none 0 0, vint 0, vint 0, vint 0, vint 0, vint 0, vint 0, vint 0, vint 0, vint 0]) (by repeat' constructor) rfl (.then_n (.sm rfl (.cv Tryz.func100 [_, _] (rftxtN_spec r st) ?_))))
 refine .u (.fieldAddr rfl fo_129_0) (.st rfl rfl rfl sz_9 ?_)
 refine .nt (.sm rfl (.cv Tryz.func100 [_, _] (rftxtN_spec r (txtR st).2) ?_))
 refine .u (.fieldAddr rfl fo_129_1) (.st rfl rfl rfl sz_9 ?_)
 refine .nil (.ptCast (b := b3) (l' := [vstr (txtR st).1, vstr (txtR (txtR st).2).1, .slice none 0 0, vint 0, vint 0, vint 0, vint 0, vint 0, vint 0, vint 0, vint 0, vint 0]) (by repeat' constructor) rfl (.then_n (.sm rfl (.oq (.c Tryz.func102 [_, _] (rfcntN_spec r (txtR (txtR st).2).2)) ?_))))
 rintro v L' ⟨rfl, rfl⟩; rw [show (cntR (txtR (txtR st).2).2).1 = na from hna.symm]
 refine .a rfl (.nil (.add (slR_nil 90 2) (.then_n (.seq (.joinK (ι := Value × (List Ac)) (fun q E => E) (fun q => [rfR r (manyR acR (cntR (txtR (txtR st).2).2).1 (cntR (txtR (txtR st).2).2).2).2, ptc b3 ([vstr (txtR st).1, vstr (txtR (txtR st).2).1, q.1, vint 0, vint 0, vint 0, vint 0, vint 0, vint 0, vint 0, vint 0, vint 0]) 129, slR 90 2 q.1 q.2.length (q.2.flatMap acC)]) (fun q => (∃ a c, q.1 = .slice a q.2.length c) ∧ q.2.length ≤ 256 ∧ ((manyR acR (cntR (txtR (txtR st).2).2).1 (cntR (txtR (txtR st).2).2).2).2 ≠ none → q.2 = (manyR acR (cntR (txtR (txtR st).2).2).1 (cntR (txtR (txtR st).2).2).2).1)) (pre := [rfR r (cntR (txtR (txtR st).2).2).2, ptc b3 ([vstr (txtR st).1, vstr (txtR (txtR st).2).1, .slice none 0 0, vint 0, vint 0, vint 0, vint 0, vint 0, vint 0, vint 0, vint 0, vint 0]) 129, slR 90 2 (.slice none 0 0) 0 []]) (ts := [0, 2, 3]) (.cons rfl (.cons rfl (.cons rfl (.nil)))) (by repeat' constructor) ?_ ?_)))))
 ·refine .sr (.an rfl (.block (.loopK (ι := Nat × Value) (fun q E => (5, vint q.1) :: E) (fun q => [rfR r (manyR acR q.1 (cntR (txtR (txtR st).2).2).2).2, ptc b3 ([vstr (txtR st).1, vstr (txtR (txtR st).2).1, q.2, vint 0, vint 0, vint 0, vint 0, vint 0, vint 0, vint 0, vint 0, vint 0]) 129, slR 90 2 q.2 q.1 ((manyR acR q.1 (cntR (txtR (txtR st).2).2).2).1.flatMap acC)]) (fun q => q.1 ≤ na ∧ ∃ a c, q.2 = .slice a q.1 c) (fun q => na - q.1) (0, .slice none 0 0) (ts := [0, 2, 3, 4]) (.cons rfl (.cons rfl (.cons rfl (.cons rfl (.nil))))) (⟨Nat.zero_le _, none, 0, rfl⟩) ⟨rfl, rfl, rfl, rfl, rfl, trivial⟩ (by repeat' constructor) ?_)))
  rintro ⟨i, u⟩ ⟨hi, au, cu, hu⟩
  dsimp only
  dsimp only at hi hu
  subst hu
  refine .seq (.sm rfl (.m rfl (.ui rfl rfl rfl (.m rfl (.dec (t := 22) rfl (fun h6_22 => ?_) (fun h6_22 => ?_))))))
  ·refine .kDT (t := 21) rfl h6_22 (.rfLook (by repeat' constructor) fun s k e hst hkl hsz => ?_)
   have hee := stW_iff hst
   refine .grun (t := 22) rfl rfl rfl (.m rfl (.grun (t := 22) rfl rfl rfl (.u (.nilp rfl) (.grun (t := 22) rfl rfl rfl (.u (.fieldAddr rfl fo_175_2) (.grun (t := 22) rfl rfl rfl (.u (.ld rfl ag_31) (.grun (t := 22) rfl rfl rfl (.ui rfl rfl rfl (.u (.pickT rfl rfl) (.nil (.rfFold (r := r) s k e (by repeat' constructor) rfl hkl hsz (.rfUpF (by repeat' constructor) hst (.then_n (.condD rfl (fun h28 => ?_) (fun h28 => ?_))))))))))))))))
   ·refine .sk (.seq (.block (.sm rfl (.cv Tryz.func101 [_] (rfnumN_spec r _) ?_))))
    refine .an rfl (.sm rfl (.cv Tryz.func100 [_, _] (rftxtN_spec r _) ?_))
    refine .an rfl (.region (.u (.fieldAddr rfl fo_129_2) (.u (.ld rfl ag_34) (.m rfl (.m rfl (.q (.to (v' := .agg (acC (acR (manyR acR i (cntR (txtR (txtR st).2).2).2).2).1).toArray) (.build (us := [(0, _), (1, _)]) fl_90 ze_90 rfl rfl (by simp [isCell])) rfl) rfl (.oq (.buildSlice (vs := [_]) el_34 ze_90 rfl rfl rfl rfl (by first | (simp [Value.cells]; done) | (intro v hv; simp only [List.mem_cons, List.not_mem_nil, or_false] at hv; (repeat (first | (subst hv; rfl) | (rcases hv with hv | hv; (subst hv; rfl)))))) (by decide)) ?_)))))))
    rintro v L' ⟨b19, rfl, rfl⟩
    refine .oq (.append1 rfl rfl rfl el_34 ze_90 rfl rfl ?c48 ?c49 (Nat.le_refl _) ?c50 (by decide)) ?_
    case c48 => simp only [List.map_cons, List.map_nil, List.flatten_cons, List.flatten_nil, List.append_nil]; simp [Value.cells, acC, isCell]
    case c49 => rfl
    case c50 => omega
    rintro v L' ⟨⟨a5, c5, rfl⟩, rfl⟩
    refine .u (.fieldAddr rfl fo_129_2) (.oq (.store rfl rfl rfl sz_34 ?c54 (nfz0 _ _)) ?_)
    case c54 => simp
    rintro v L' rfl
    refine .nil (.blk_n (.then_n (.region (.m rfl (.q (.add rfl rfl (by omega)) rfl (.an rfl (.slCast (T := 90) (sz := 2) (m' := i + 1) (xs' := (manyR acR (i + 1) (cntR (txtR (txtR st).2).2).2).1.flatMap acC) (by repeat' constructor) (by exact rfl) (by show _ = ((manyR acR i (cntR (txtR (txtR st).2).2).2).1 ++ [_]).flatMap acC; rw [List.flatMap_append]; simp [Value.cells, acC]) (.ptCast (b := b3) (l' := [vstr (txtR st).1, vstr (txtR (txtR st).2).1, .slice a5 (i + 1) c5, vint 0, vint 0, vint 0, vint 0, vint 0, vint 0, vint 0, vint 0, vint 0]) (by repeat' constructor) rfl ?_))))))))
    exact .rk ((i + 1, .slice a5 (i + 1) c5)) (⟨by dsimp only; omega, _, _, rfl⟩) (by dsimp only; omega) ⟨rfl, rfl, rfl, rfl, rfl, trivial⟩
   refine .exit (.then_e (.then_e (.blk_e (.then_n ?_))))
   have hsl : (manyR acR i (cntR (txtR (txtR st).2).2).2).1.length = i := manyL _ _ _
   have hsn : (manyR acR i (cntR (txtR (txtR st).2).2).2).2 = none := by apply Classical.byContradiction; intro g; exact h28 (hee.2 g)
   have hs4 : (manyR acR (cntR (txtR (txtR st).2).2).1 (cntR (txtR (txtR st).2).2).2).2 = none := many_fail strict_ac _ i _ (by omega) hsn
   refine .rfCastS (st' := (manyR acR (cntR (txtR (txtR st).2).2).1 (cntR (txtR (txtR st).2).2).2).2) (by repeat' constructor) (by rw [hsn, hs4]) (.slCast (T := 90) (sz := 2) (m' := (manyR acR i (cntR (txtR (txtR st).2).2).2).1.length) (xs' := (manyR acR i (cntR (txtR (txtR st).2).2).2).1.flatMap acC) (by repeat' constructor) hsl.symm rfl ?_)
   exact .mk ((.slice au i cu, (manyR acR i (cntR (txtR (txtR st).2).2).2).1)) (⟨⟨au, cu, by dsimp only; rw [hsl]⟩, by dsimp only; omega, fun g => absurd hs4 g⟩) ⟨rfl, rfl, rfl, trivial⟩
  refine .kDF (t := 21) rfl h6_22 (.gk (.gk (.gk (.gk (.gk (.u (.pickF rfl rfl) (.nt (.condF rfl (.exit (.then_e (.then_e (.blk_e (.then_n ?_)))))))))))))
  have hii : i = na := by omega
  have hsl : (manyR acR i (cntR (txtR (txtR st).2).2).2).1.length = i := manyL _ _ _
  refine .rfCastS (st' := (manyR acR (cntR (txtR (txtR st).2).2).1 (cntR (txtR (txtR st).2).2).2).2) (by repeat' constructor) (by rw [hii, hna]) (.slCast (T := 90) (sz := 2) (m' := (manyR acR i (cntR (txtR (txtR st).2).2).2).1.length) (xs' := (manyR acR i (cntR (txtR (txtR st).2).2).2).1.flatMap acC) (by repeat' constructor) hsl.symm rfl ?_)
  exact .mk ((.slice au i cu, (manyR acR i (cntR (txtR (txtR st).2).2).2).1)) (⟨⟨au, cu, by dsimp only; rw [hsl]⟩, by dsimp only; omega, fun _ => by dsimp only; rw [hii, hna]⟩) ⟨rfl, rfl, rfl, trivial⟩
 rintro ⟨u, l⟩ ⟨⟨au, cu, hu⟩, hl256, hlA⟩
 dsimp only
 dsimp only at hu hl256 hlA
 subst hu
 refine .sr (.oq (.make rfl rfl el_45 ze_3 rfl ⟨by simp, by simp; rfl⟩ ?c60) ?_)
 case c60 => omega
 rintro v L' ⟨b7, rfl, rfl⟩
 refine .an rfl (.seq (.seq (.slMake (b := b7) (n := 7) (c := 7) (xs := (ints (manyR numR 0 (manyR acR (cntR (txtR (txtR st).2).2).1 (cntR (txtR (txtR st).2).2).2).2).1 ++ List.replicate (7 - 0) (vint 0))) (by repeat' constructor) (by decide) (by simp) (by simp [manyR]) (.region (.an rfl (.block (.loopK (ι := Nat) (fun q E => (9, vint q) :: E) (fun q => [rfR r (manyR numR q (manyR acR (cntR (txtR (txtR st).2).2).1 (cntR (txtR (txtR st).2).2).2).2).2, slR 3 1 (.slice (some ⟨b7, 0, none⟩) 7 7) 7 (ints (manyR numR q (manyR acR (cntR (txtR (txtR st).2).2).1 (cntR (txtR (txtR st).2).2).2).2).1 ++ List.replicate (7 - q) (vint 0))]) (fun q => q ≤ 7) (fun q => 7 - q) (0) (ts := [0, 2, 3, 8]) (.cons rfl (.cons rfl (.cons rfl (.cons rfl (.nil))))) (Nat.zero_le _) ⟨rfl, rfl, rfl, rfl, rfl, trivial⟩ (by repeat' constructor) ?_)))))))
 rintro k hk
 refine .seq (.sm rfl (.ui rfl rfl rfl (.nt (.condD rfl (fun h45 => ?_) (fun h45 => ?_)))))
 ·have hk2 : k < 7 := by omega
  refine .sk (.seq (.block (.region (.m rfl (.m rfl (.m rfl (.cv Tryz.func101 [_] (rfnumN_spec r _) ?_)))))))
  refine .q (.indexAddr rfl rfl el_45 (by omega)) rfl (.oq (.storeRd (sz := 1) (j := k * 1) rfl rfl rfl sz_3 ?ho72 ?hi73) ?_)
  case ho72 => omega
  case hi73 => omega
  rintro v L' rfl
  refine .nil (.blk_n (.then_n (.region (.m rfl (.q (.add rfl rfl (by omega)) rfl (.an rfl (.slCast (T := 3) (sz := 1) (m' := 7) (xs' := (ints (manyR numR (k + 1) (manyR acR (cntR (txtR (txtR st).2).2).1 (cntR (txtR (txtR st).2).2).2).2).1 ++ List.replicate (7 - (k + 1)) (vint 0))) (by repeat' constructor) rfl (seven_set hk2 (manyL _ _ _) _) ?_)))))))
  exact .rk (k + 1) (by omega) (by omega) ⟨rfl, rfl, rfl, rfl, rfl, trivial⟩
 have hkk : k = 7 := by omega
 subst hkk
 have h7 : (manyR numR 7 (manyR acR (cntR (txtR (txtR st).2).2).1 (cntR (txtR (txtR st).2).2).2).2).1.length = 7 := manyL _ _ _
 refine .slCast (T := 3) (sz := 1) (m' := 7) (xs' := ints (manyR numR 7 (manyR acR (cntR (txtR (txtR st).2).2).1 (cntR (txtR (txtR st).2).2).2).2).1) (by repeat' constructor) rfl (by simp) (.exit (.then_e (.then_e (.blk_e (.then_n (.seq (.draw [23] [[0, 1, 2, 3, 4, 5, 6, 7, 8, 9, 10, 11, 12, 13, 14, 15, 16, 17, 18, 19, 20, 21, 22, 23]] mixed (by kernel_rfl) (.g0 (.mv rfl rfl (.kv rfl (.indexAddr rfl rfl el_45 (by omega)) (.kv rfl (.loadRd (sz := 1) (j := 0) (p := slR 3 1 _ 7 (ints (manyR numR 7 (manyR acR (cntR (txtR (txtR st).2).2).1 (cntR (txtR (txtR st).2).2).2).2).1)) (v := vint ((manyR numR 7 (manyR acR (cntR (txtR (txtR st).2).2).1 (cntR (txtR (txtR st).2).2).2).2).1.getD 0 0)) rfl ag_3 (by repeat' constructor) (fun h hp => slR_rd hp) (by omega) (ints_getD (by rw [h7]; decide))) (.mv rfl rfl ?_))))))))))))
 refine D.kv rfl (.indexAddr rfl rfl el_45 (by omega)) (.kv rfl (.loadRd (sz := 1) (j := 1) (p := slR 3 1 _ 7 (ints (manyR numR 7 (manyR acR (cntR (txtR (txtR st).2).2).1 (cntR (txtR (txtR st).2).2).2).2).1)) (v := vint ((manyR numR 7 (manyR acR (cntR (txtR (txtR st).2).2).1 (cntR (txtR (txtR st).2).2).2).2).1.getD 1 0)) rfl ag_3 (by repeat' constructor) (fun h hp => slR_rd hp) (by omega) (ints_getD (by rw [h7]; decide))) (.mv rfl rfl (.kv rfl (.indexAddr rfl rfl el_45 (by omega)) (.kv rfl (.loadRd (sz := 1) (j := 2) (p := slR 3 1 _ 7 (ints (manyR numR 7 (manyR acR (cntR (txtR (txtR st).2).2).1 (cntR (txtR (txtR st).2).2).2).2).1)) (v := vint ((manyR numR 7 (manyR acR (cntR (txtR (txtR st).2).2).1 (cntR (txtR (txtR st).2).2).2).2).1.getD 2 0)) rfl ag_3 (by repeat' constructor) (fun h hp => slR_rd hp) (by omega) (ints_getD (by rw [h7]; decide))) ?_))))
 refine D.mv rfl rfl (.kv rfl (.indexAddr rfl rfl el_45 (by omega)) (.kv rfl (.loadRd (sz := 1) (j := 3) (p := slR 3 1 _ 7 (ints (manyR numR 7 (manyR acR (cntR (txtR (txtR st).2).2).1 (cntR (txtR (txtR st).2).2).2).2).1)) (v := vint ((manyR numR 7 (manyR acR (cntR (txtR (txtR st).2).2).1 (cntR (txtR (txtR st).2).2).2).2).1.getD 3 0)) rfl ag_3 (by repeat' constructor) (fun h hp => slR_rd hp) (by omega) (ints_getD (by rw [h7]; decide))) (.mv rfl rfl (.kv rfl (.indexAddr rfl rfl el_45 (by omega)) (.kv rfl (.loadRd (sz := 1) (j := 4) (p := slR 3 1 _ 7 (ints (manyR numR 7 (manyR acR (cntR (txtR (txtR st).2).2).1 (cntR (txtR (txtR st).2).2).2).2).1)) (v := vint ((manyR numR 7 (manyR acR (cntR (txtR (txtR st).2).2).1 (cntR (txtR (txtR st).2).2).2).2).1.getD 4 0)) rfl ag_3 (by repeat' constructor) (fun h hp => slR_rd hp) (by omega) (ints_getD (by rw [h7]; decide))) ?_)))))
 refine D.mv rfl rfl (.kv rfl (.indexAddr rfl rfl el_45 (by omega)) (.kv rfl (.loadRd (sz := 1) (j := 5) (p := slR 3 1 _ 7 (ints (manyR numR 7 (manyR acR (cntR (txtR (txtR st).2).2).1 (cntR (txtR (txtR st).2).2).2).2).1)) (v := vint ((manyR numR 7 (manyR acR (cntR (txtR (txtR st).2).2).1 (cntR (txtR (txtR st).2).2).2).2).1.getD 5 0)) rfl ag_3 (by repeat' constructor) (fun h hp => slR_rd hp) (by omega) (ints_getD (by rw [h7]; decide))) (.mv rfl rfl (.kv rfl (.indexAddr rfl rfl el_45 (by omega)) (.kv rfl (.loadRd (sz := 1) (j := 6) (p := slR 3 1 _ 7 (ints (manyR numR 7 (manyR acR (cntR (txtR (txtR st).2).2).1 (cntR (txtR (txtR st).2).2).2).2).1)) (v := vint ((manyR numR 7 (manyR acR (cntR (txtR (txtR st).2).2).1 (cntR (txtR (txtR st).2).2).2).2).1.getD 6 0)) rfl ag_3 (by repeat' constructor) (fun h hp => slR_rd hp) (by omega) (ints_getD (by rw [h7]; decide))) ?_)))))
 refine D.kv rfl (.to (v' := .agg (stC (st7 (manyR numR 7 (manyR acR (cntR (txtR (txtR st).2).2).1 (cntR (txtR (txtR st).2).2).2).2).1)).toArray) (.build (us := [(0, _), (1, _), (2, _), (3, _), (4, _), (5, _), (6, _)]) fl_92 ze_92 rfl rfl (by simp [isCell])) rfl) (.kv rfl (.fieldAddr rfl fo_129_3) (.hh rfl (.storeA rfl rfl ?c100 sz_92 ?c103 ?c101 (nfz0 _ _)) ?_))
 case c100 => intro v hv; simp only [stC, List.mem_cons, List.not_mem_nil, or_false] at hv; rcases hv with rfl | rfl | rfl | rfl | rfl | rfl | rfl | rfl | rfl <;> rfl
 case c103 => rfl
 case c101 => simp [stC]
 rintro v L' rfl
 refine D.ph (.fin (.ptCast (b := b3) (l' := rnC (((txtR st).1, (.slice au l.length cu, (⟨(txtR (txtR st).2).1, l, st7 (manyR numR 7 (manyR acR (cntR (txtR (txtR st).2).2).1 (cntR (txtR (txtR st).2).2).2).2).1⟩ : Nd))) : Rno)) (by repeat' constructor) rfl (.then_n (.sr (.q (.loadAs (vs := rnC (((txtR st).1, (.slice au l.length cu, (⟨(txtR (txtR st).2).1, l, st7 (manyR numR 7 (manyR acR (cntR (txtR (txtR st).2).2).1 (cntR (txtR (txtR st).2).2).2).2).1⟩ : Nd))) : Rno)) rfl ag_129 (by repeat' constructor) (by simp [rnC]) rfl) rfl (.oq (.storeA rfl rfl ?c106 sz_129 ?c109 ?c107 (nfz0 _ _)) ?_))))))
 case c106 => exact rn_cells rfl
 case c109 => rfl
 case c107 => simp [rnC]
 rintro v L' rfl
 refine .nt (.ret (.ptCast (b := b2) (l' := rnC (((txtR st).1, (.slice au l.length cu, (⟨(txtR (txtR st).2).1, l, st7 (manyR numR 7 (manyR acR (cntR (txtR (txtR st).2).2).1 (cntR (txtR (txtR st).2).2).2).2).1⟩ : Nd))) : Rno)) (by repeat' constructor) (by exact rfl) (.toRd (m := l.length) (by repeat' constructor) ?_)))
 exact .d1 rfl (.cellA rfl ag_129 (by repeat' constructor) (by simp [rnC]) rfl) ⟨(((txtR st).1, (.slice au l.length cu, (⟨(txtR (txtR st).2).1, l, st7 (manyR numR 7 (manyR acR (cntR (txtR (txtR st).2).2).1 (cntR (txtR (txtR st).2).2).2).2).1⟩ : Nd))) : Rno), rfl, ⟨rfl, hl256, rfl, fun g => by rw [take_same8 (hlA (fun e => g (by show (manyR numR 7 (manyR acR (cntR (txtR (txtR st).2).2).1 (cntR (txtR (txtR st).2).2).2).2).2 = none; rw [e]; exact many_ne (.run _ _) 7)))]⟩, rfl⟩
def r3Z (s : Bs) : Rs := (cntR (numR (txt4R (some s)).2).2).2
def rmZ (s : Bs) : Nat := (cntR (numR (txt4R (some s)).2).2).1
structure Ref8 (s : Bs) (τ : Tr) : Prop where
 head : (txt4R (some s)).1 = headB
 zx : τ.zx = (numR (txt4R (some s)).2).1
 m : τ.nodes.length = rmZ s
 n : manyR ndR (rmZ s) (r3Z s) = (τ.nodes, (manyR ndR (rmZ s) (r3Z s)).2)
 n4 : (manyR ndR (rmZ s) (r3Z s)).2 ≠ none
 okn : okN τ.nodes
 ne : τ.nodes ≠ []
 k : τ.sess.length = (cntR (manyR ndR (rmZ s) (r3Z s)).2).1
 ss : manyR ssR (cntR (manyR ndR (rmZ s) (r3Z s)).2).1 (cntR (manyR ndR (rmZ s) (r3Z s)).2).2 = (τ.sess, some [])
 oks : okS τ.sess
theorem ref8_iff {s : Bs} {τ : Tr} : readZ s = some τ ↔ Ref8 s τ := by
 rw [read_good]
 constructor
 ·rintro ⟨hN, hS, hne, r1, r2, r3, r4, r5, h1, h2, h3, h4, h5, h6⟩
  have eM : rmZ s = τ.nodes.length := by unfold rmZ; rw [h1, h2]; dsimp only; rw [h3]
  have e3 : r3Z s = some r3 := by unfold r3Z; rw [h1, h2]; dsimp only; rw [h3]
  have e4 : manyR ndR (rmZ s) (r3Z s) = (τ.nodes, some r4) := by rw [eM, e3, h4]
  refine ⟨by rw [h1], by rw [h1, h2], eM.symm, by rw [e4], by rw [e4]; simp, hN, hne, by rw [e4, h5], by rw [e4, h5]; exact h6, hS⟩
 ·rintro ⟨h1, h2, h3, h4, h5, h6, h7, h8, h9, h10⟩
  obtain ⟨r4, e4⟩ : ∃ r, (manyR ndR (rmZ s) (r3Z s)).2 = some r := Option.ne_none_iff_exists'.1 h5
  obtain ⟨r3, e3⟩ := rs_some (.many strict_nd _) e4
  have e3' := e3
  unfold r3Z at e3'
  obtain ⟨r2, e2⟩ := rs_some (f := cntR) (.run _ _) e3'
  obtain ⟨r1, e1⟩ := rs_some (f := numR) (.run _ _) e2
  have e6 : (manyR ssR (cntR (manyR ndR (rmZ s) (r3Z s)).2).1 (cntR (manyR ndR (rmZ s) (r3Z s)).2).2).2 = some [] := by rw [h9]
  obtain ⟨r5, e5⟩ := rs_some (.many strict_ss _) e6
  refine ⟨h6, h10, h7, r1, r2, r3, r4, r5, ?_, ?_, ?_, ?_, ?_, ?_⟩
  ·rw [← h1, ← e1]
  ·rw [h2, ← e1, ← e2]
  ·rw [h3, ← e2, ← e3]; rfl
  ·rw [h3, ← e3, h4, e4]
  ·rw [h8, ← e4, ← e5]
  ·rw [h8, ← e5]; exact h9
theorem ref8_bad {s : Bs} {j : Nat} (hj : j < rmZ s) (hbad : ¬ nextN (lastP (manyR ndR j (r3Z s)).1) (ndR (manyR ndR j (r3Z s)).2).1.1) : readZ s = none := by
 cases h : readZ s with
 | none => rfl
 | some τ =>
  have g := ref8_iff.1 h
  refine absurd ?_ hbad
  have e0 : (manyR ndR (rmZ s) (r3Z s)).1 = τ.nodes := by rw [g.n]
  have h1 := g.okn j (by rw [g.m]; exact hj)
  have e1 : τ.nodes.take j = (manyR ndR j (r3Z s)).1 := by rw [← e0]; exact many_take _ _ _ _ (by omega)
  have e2 : τ.nodes.take (j + 1) = (manyR ndR (j + 1) (r3Z s)).1 := by rw [← e0]; exact many_take _ _ _ _ (by omega)
  rw [List.take_succ_eq_append_getElem (by rw [g.m]; exact hj), e1] at e2
  have e3 : [τ.nodes[j]'(by rw [g.m]; exact hj)] = [(ndR (manyR ndR j (r3Z s)).2).1] := List.append_cancel_left e2
  rw [e1, List.cons.inj e3 |>.1] at h1
  exact h1
theorem ref8_stop {s : Bs} {j : Nat} (hj : j ≤ rmZ s) (h : (manyR ndR j (r3Z s)).2 = none) : readZ s = none := by
 cases h2 : readZ s with
 | none => rfl
 | some τ => exact absurd (many_fail strict_nd _ _ _ hj h) (ref8_iff.1 h2).n4
def r4Z (s : Bs) : Rs := (manyR ndR (rmZ s) (r3Z s)).2
theorem ref8_badS {s : Bs} {j : Nat} (hj : j < (cntR (r4Z s)).1) (hbad : ¬ nextS (lastI (manyR ssR j (cntR (r4Z s)).2).1) (ssR (manyR ssR j (cntR (r4Z s)).2).2).1.1) : readZ s = none := by
 cases h : readZ s with
 | none => rfl
 | some τ =>
  have g := ref8_iff.1 h
  refine absurd ?_ hbad
  have e0 : (manyR ssR (cntR (r4Z s)).1 (cntR (r4Z s)).2).1 = τ.sess := by rw [show manyR ssR (cntR (r4Z s)).1 (cntR (r4Z s)).2 = _ from g.ss]
  have hk : j < τ.sess.length := by rw [g.k]; exact hj
  have h1 := g.oks j hk
  have e1 : τ.sess.take j = (manyR ssR j (cntR (r4Z s)).2).1 := by rw [← e0]; exact many_take _ _ _ _ (by omega)
  have e2 : τ.sess.take (j + 1) = (manyR ssR (j + 1) (cntR (r4Z s)).2).1 := by rw [← e0]; exact many_take _ _ _ _ (by omega)
  rw [List.take_succ_eq_append_getElem hk, e1] at e2
  have e3 : [τ.sess[j]] = [(ssR (manyR ssR j (cntR (r4Z s)).2).2).1] := List.append_cancel_left e2
  rw [e1, List.cons.inj e3 |>.1] at h1
  exact h1
theorem ref8_stopS {s : Bs} {j : Nat} (hj : j ≤ (cntR (r4Z s)).1) (h : (manyR ssR j (cntR (r4Z s)).2).2 = none) : readZ s = none := by
 cases h2 : readZ s with
 | none => rfl
 | some τ =>
  have g := ref8_iff.1 h2
  have e := many_fail strict_ss _ _ _ hj h
  rw [show manyR ssR (cntR (r4Z s)).1 (cntR (r4Z s)).2 = _ from g.ss] at e
  cases e
theorem okN_first {l : List PN} (h : okN l) (hl : 0 < l.length) : l[0].1 = [47] := ((h 0 hl).2.2).1 rfl
theorem last_at {l : List PN} {i : Nat} (hl : l.length = i + 1) : lastP l = (l[i]'(by omega)).1 := by
 have : l = l.take i ++ [l[i]'(by omega)] := by rw [← List.take_succ_eq_append_getElem (by omega), List.take_of_length_le (by omega)]
 conv => lhs; rw [this]
 exact lastP_snoc _ _
theorem lastI_at {l : List SN} {i : Nat} (hl : l.length = i + 1) : lastI l = (l[i]'(by omega)).1 := by
 have : l = l.take i ++ [l[i]'(by omega)] := by rw [← List.take_succ_eq_append_getElem (by omega), List.take_of_length_le (by omega)]
 conv => lhs; rw [this]
 exact lastI_snoc _ _
theorem next_doc {l : List PN} (h : okN l) (hl : 0 < l.length) {p : Bs} (hc : checkZ p = 0) (hlt : lastP l < p) : nextN (lastP l) p := by
 obtain ⟨k, hk⟩ : ∃ k, l.length = k + 1 := ⟨l.length - 1, by omega⟩
 have h1 := last_at hk
 have hne : lastP l ≠ [] := fun e => by
  have := okN_able h _ (List.getElem_mem (l := l) (n := k) (by omega))
  rw [← h1, e] at this; exact absurd this (by decide)
 refine ⟨hc, hlt, fun e => absurd e hne, fun e => ?_⟩
 exfalso
 have h0 := okN_first h hl
 have hs := (okN_sorted h).2 _ (List.getElem_mem (l := l) (n := 0) hl)
 rw [h0, ← e] at hs
 exact hs hlt
theorem take_next {s : Bs} {j : Nat} {l : List Rno} {z : Rno} (hI : (manyR ndR j (r3Z s)).2 ≠ none → ndsZ l = (manyR ndR j (r3Z s)).1 ∧ okN (ndsZ l)) (hz : TakeZ (manyR ndR j (r3Z s)).2 z) (hnx : nextN (lastP (manyR ndR j (r3Z s)).1) (ndR (manyR ndR j (r3Z s)).2).1.1) (g : (manyR ndR (j + 1) (r3Z s)).2 ≠ none) : ndsZ (l ++ [z]) = (manyR ndR (j + 1) (r3Z s)).1 ∧ okN (ndsZ (l ++ [z])) := by
 have g1 : (ndR (manyR ndR j (r3Z s)).2).2 ≠ none := g
 have g2 : (manyR ndR j (r3Z s)).2 ≠ none := fun e => g1 (by rw [e]; exact strict_nd)
 obtain ⟨h1, h2⟩ := hI g2
 have h3 := hz.all g1
 have e : ndsZ (l ++ [z]) = (manyR ndR (j + 1) (r3Z s)).1 := by
  show (l ++ [z]).map _ = (manyR ndR j (r3Z s)).1 ++ [(ndR (manyR ndR j (r3Z s)).2).1]
  rw [List.map_append, ← h1, ← h3]; rfl
 refine ⟨e, ?_⟩
 rw [e]
 refine okN_snoc.2 ⟨by rw [← h1]; exact h2, hnx⟩
theorem sess_some {st : Rs} {i : Nat} (h : (manyR ssR i (cntR st).2).2 ≠ none) : st ≠ none := fun e => h (by rw [e]; exact many_ne strict_ss i)
theorem sess_stop {s : Bs} {st : Rs} {i : Nat} (h1 : st = none → readZ s = none) (h2 : st ≠ none → st = r4Z s) (hi : i ≤ (cntR st).1) (h : (manyR ssR i (cntR st).2).2 = none) : readZ s = none := by
 by_cases e : st = none
 ·exact h1 e
 ·rw [h2 e] at hi h
  exact ref8_stopS hi h
theorem read_all {s : Bs} {st : Rs} {l : List Rno} {ls : List SN} (hh : (txt4R (some s)).1 = headB) (h1 : st = none → readZ s = none) (hg : st ≠ none → st = r4Z s ∧ ndsZ l = (manyR ndR (rmZ s) (r3Z s)).1 ∧ okN (ndsZ l)) (q1 : st = r4Z s) (q2 : (manyR ssR (cntR (r4Z s)).1 (cntR (r4Z s)).2).2 = some []) (q3 : ls = (manyR ssR (cntR (r4Z s)).1 (cntR (r4Z s)).2).1) (q4 : okS ls) (hl : l.length ≠ 0) : readZ s = some ⟨ndsZ l, ls, (numR (txt4R (some s)).2).1⟩ := by
 have hst : st ≠ none := fun e => by
  rw [← q1, e] at q2
  rw [show (manyR ssR (cntR none).1 (cntR none).2).2 = none from many_ne strict_ss _] at q2
  cases q2
 obtain ⟨-, p2, p3⟩ := hg hst
 have hnl : (ndsZ l).length = rmZ s := by rw [p2]; exact manyL _ _ _
 have hsl : ls.length = (cntR (r4Z s)).1 := by rw [q3]; exact manyL _ _ _
 refine ref8_iff.2 ⟨hh, rfl, hnl, by dsimp only; rw [p2], by show r4Z s ≠ none; rw [← q1]; exact hst, p3, fun e => hl ?_, hsl, ?_, q4⟩
 ·have := congrArg List.length e
  simpa [ndsZ] using this
 ·show manyR ssR (cntR (r4Z s)).1 (cntR (r4Z s)).2 = (ls, some [])
  rw [q3, ← q2]
def RTreeOr (o : Option Tr) (v : Value) (L : List HP) : Prop := (o = none ∧ v = .tuple #[.pointer none, .bool false] ∧ L = []) ∨ ∃ τ x, o = some τ ∧ v = .tuple #[vptr x, .bool true] ∧ L = [refR x τ]
set_option maxHeartbeats 1000000 in
theorem rread8_spec (s : Bs) (hs : s.length ≤ 70368744177664) : Fn Tryz.prog 56 #[vstr s] [] (RTreeOr (readZ s)) := by
 refine Fn.intro Tryz.func56 rfl rfl fun F W => ?_
 obtain ⟨m, hm⟩ : ∃ m, m = rmZ s := ⟨_, rfl⟩
 have hm256 : m ≤ 256 := by rw [hm]; exact cntR_le _
 refine .sr (.a rfl (.an rfl (.sm rfl (.q (.to (v' := .agg ([vstr s, vint 0, vint 0] : List Value).toArray) (.build (us := [(0, _)]) fl_175 ze_175 rfl rfl (by simp [isCell])) rfl) rfl (.oq (.box rfl) ?_)))))
 rintro v L' ⟨r, rfl, rfl⟩
 refine .a rfl (.nil (.ptCast (b := r) (l' := [vstr s, vint ((0 : Nat) : Int), vint 0]) (by repeat' constructor) rfl (.rfFold (r := r) s 0 0 (by repeat' constructor) rfl (Nat.zero_le _) hs (.rfUpF (st := some s) (by repeat' constructor) rfl (.then_n (.sr (.q (.to (v' := .agg ([.slice none 0 0, .slice none 0 0, vint 0] : List Value).toArray) (.build (us := []) fl_87 ze_87 rfl rfl (by simp [isCell])) rfl) rfl (.oq (.box rfl) ?_))))))))
 rintro v L' ⟨x, rfl, rfl⟩
 refine .a rfl (.nil (.ptCast (b := x) (l' := [.slice none 0 0, .slice none 0 0, vint 0]) (by repeat' constructor) rfl (.then_n (.sm rfl (.cv Tryz.func100 [_, _] (rftxt4_spec r (some s)) ?_)))))
 refine .an rfl (.sm rfl (.m rfl (.cv Tryz.func101 [_] (rfnumN_spec r _) ?_)))
 refine .nf rfl fo_87_2 (.st rfl rfl rfl sz_3 ?_)
 refine .nil (.ptCast (b := x) (l' := [.slice none 0 0, .slice none 0 0, vint (numR (txt4R (some s)).2).1]) (by repeat' constructor) rfl (.then_n (.sm rfl (.oq (.c Tryz.func102 [_, _] (rfcntN_spec r _)) ?_))))
 rintro v L' ⟨rfl, rfl⟩; rw [show (cntR (numR (txt4R (some s)).2).2).1 = m from hm.symm]
 refine .a rfl (.nil (.add (slR_nil 129 12) (.add (slR_nil 127 3) (.add (p := bigR inA []) big_nil (.then_n (.seq (.joinK (ι := Value × (List Rno) × Rs) (fun q E => E) (fun q => [rfR r q.2.2, ptc x [q.1, .slice none 0 0, vint (numR (txt4R (some s)).2).1] 87, rnR (q.1) q.2.1, bigR inA q.2.1]) (fun q => (∃ a c, q.1 = .slice a q.2.1.length c) ∧ q.2.1.length ≤ 256 ∧ (q.2.2 = none → readZ s = none) ∧ (q.2.2 ≠ none → q.2.2 = r4Z s ∧ ndsZ q.2.1 = (manyR ndR (rmZ s) (r3Z s)).1 ∧ okN (ndsZ q.2.1))) (pre := [rfR r (r3Z s), ptc x [.slice none 0 0, .slice none 0 0, vint (numR (txt4R (some s)).2).1] 87, slR 129 12 (.slice none 0 0) 0 [], bigR inA []]) (ts := [4, 5, 6, 7]) (.cons rfl (.cons rfl (.cons rfl (.cons rfl (.nil))))) (by repeat' constructor) ?_ ?_)))))))
 ·refine .sr (.an rfl (.block (.loopK (ι := Nat × Value × (List Rno)) (fun q E => (8, vint q.1) :: E) (fun q => [rfR r (manyR ndR q.1 (r3Z s)).2, ptc x [q.2.1, .slice none 0 0, vint (numR (txt4R (some s)).2).1] 87, rnR (q.2.1) q.2.2, bigR inA q.2.2]) (fun q => q.1 ≤ m ∧ (∃ a c, q.2.1 = .slice a q.2.2.length c) ∧ q.2.2.length = q.1 ∧ ((manyR ndR q.1 (r3Z s)).2 ≠ none → ndsZ q.2.2 = (manyR ndR q.1 (r3Z s)).1 ∧ okN (ndsZ q.2.2))) (fun q => m - q.1) (0, .slice none 0 0, []) (ts := [4, 5, 6, 7]) (.cons rfl (.cons rfl (.cons rfl (.cons rfl (.nil))))) (⟨Nat.zero_le _, ⟨none, 0, rfl⟩, rfl, fun _ => ⟨rfl, okN_nil⟩⟩) ⟨rfl, rfl, rfl, rfl, rfl, trivial⟩ (by repeat' constructor) ?_)))
  rintro ⟨j, u, l⟩ ⟨hj, ⟨au, cu, hu⟩, hlj, hI⟩
  dsimp only
  dsimp only at hj hu hlj hI
  subst hu
  refine .seq (.sm rfl (.m rfl (.ui rfl rfl rfl (.m rfl (.dec (t := 31) rfl (fun h7_31 => ?_) (fun h7_31 => ?_))))))
  ·refine .kDT (t := 30) rfl h7_31 (.rfLook (by repeat' constructor) fun s2 k2 e2 hst hkl hsz => ?_)
   have hee := stW_iff hst
   refine .grun (t := 31) rfl rfl rfl (.m rfl (.grun (t := 31) rfl rfl rfl (.u (.nilp rfl) (.grun (t := 31) rfl rfl rfl (.u (.fieldAddr rfl fo_175_2) (.grun (t := 31) rfl rfl rfl (.u (.ld rfl ag_31) (.grun (t := 31) rfl rfl rfl (.ui rfl rfl rfl (.u (.pickT rfl rfl) (.nil (.rfFold (r := r) s2 k2 e2 (by repeat' constructor) rfl hkl hsz (.rfUpF (by repeat' constructor) hst (.then_n (.condD rfl (fun h37 => ?_) (fun h37 => ?_))))))))))))))))
   ·have hj2m : j < m := by omega
    have hj2 : j < rmZ s := by omega
    have hsj : (manyR ndR j (r3Z s)).2 ≠ none := hee.1 h37
    obtain ⟨hnl, hok⟩ := hI hsj
    refine .sk (.seq (.block (.sr ?_)))
    rcases Nat.eq_zero_or_pos j with hj0 | hj0
    ·have hlast : lastP (manyR ndR j (r3Z s)).1 = [] := by rw [hj0]; rfl
     refine .m rfl (.oq (.c Tryz.func103 [_] (rtake_spec r _)) ?_)
     rintro v L' ⟨z, rfl, hz, rfl⟩; have hzp := hz.path; have hzl : z.1.length ≤ 4096 := by rw [hzp]; exact txtR_le8 _
     refine .oq (.allocA ze_129) ?_
     rintro v L' ⟨b9, rfl, rfl⟩
     refine .oq (.storeA rfl rfl ?c35 sz_129 ?c38 ?c36 (nfz0 _ _)) ?_
     case c35 => exact rn_cells hz.cell
     case c38 => rfl
     case c36 => simp [rnC]
     rintro v L' rfl
     refine .nil (.ptCast (b := b9) (l' := rnC z) (by repeat' constructor) rfl (.then_n (.seq (.seq (.draw [] [[0, 1, 2, 3, 4, 5, 6, 7, 8, 9, 10, 11, 12, 13, 14, 15, 16, 17, 18, 19, 20, 21, 22, 23, 24, 25, 26, 27, 28, 29, 30]] mixed (by kernel_rfl) (.go [ptc b9 _ _, ptc x _ _, rnR _ l] (by repeat' constructor) (.kv rfl (.fieldAddr rfl fo_129_0) (.kv rfl (.load rfl ag_9 (by repeat' constructor) rfl) (.m rfl (by kernel_rfl) (.c Tryz.func104 [_] (rcheck_spec z.1 (by omega))) (by repeat' constructor) ?_)))))))))
     refine D.kv rfl (.int rfl rfl rfl) (.mv rfl rfl (.ndec (t := 46) rfl (fun h10_46 => ?_) (fun h10_46 => ?_)))
     ·refine D.kNT (t := 45) rfl h10_46 (.gz rfl (.gz rfl (.gz rfl (.gsU (t := 49) rfl rfl rfl (by kernel_rfl) (.gsU (t := 49) rfl rfl rfl (by kernel_rfl) (.gsU (t := 49) rfl rfl rfl (by kernel_rfl) (.gz rfl (.kv rfl (.pickT rfl rfl) (.mv rfl rfl (.gz rfl (.gz rfl (.gz rfl (.gsU (t := 58) rfl rfl rfl (by kernel_rfl) (.gsU (t := 58) rfl rfl rfl (by kernel_rfl) (.gsU (t := 58) rfl rfl rfl (by kernel_rfl) (.gsU (t := 58) rfl rfl rfl (by kernel_rfl) (.gsU (t := 58) rfl rfl rfl (by kernel_rfl) (.gsU (t := 58) rfl rfl rfl (by kernel_rfl) (.gsU (t := 58) rfl rfl rfl (by kernel_rfl) (.gsU (t := 58) rfl rfl rfl (by kernel_rfl) (.gsU (t := 58) rfl rfl rfl (by kernel_rfl) (.gsU (t := 58) rfl rfl rfl (by kernel_rfl) (.gsU (t := 58) rfl rfl rfl (by kernel_rfl) (.gsU (t := 58) rfl rfl rfl (by kernel_rfl) (.gz rfl (.kv rfl (.pickT rfl rfl) ?_))))))))))))))))))))))))))
      refine D.pf (.condT rfl (.seq ?_))
      have hbadz : readZ s = none := ref8_bad hj2 (fun g => h10_46 (by rw [hzp]; exact g.1))
      refine .region (.a rfl (.an rfl (.rt (.blk_r (.then_r (.then_r (.blk_r (.then_r ?_))))))))
      exact .dn rfl rfl (.inl ⟨hbadz, rfl, rfl⟩)
     refine D.kNF (t := 45) rfl h10_46 (.gv rfl (.move rfl) (.gv rfl (.as (v' := .bool true) (by simp [hj0]) (.int rfl rfl rfl)) (.gv rfl (.move rfl) (.gv rfl (.fieldAddr rfl fo_129_0) (.gv rfl (.ld rfl ag_9) (.gv rfl (.strne rfl rfl) (.gv rfl (.pickT rfl rfl) (.kv rfl (.pickF rfl rfl) (.mv rfl rfl (.ndec (t := 55) rfl (fun h10_55 => ?_) (fun h10_55 => ?_)))))))))))
     ·refine D.kNT (t := 52) rfl h10_55 (.kNT (t := 53) rfl h10_55 (.kNT (t := 54) rfl h10_55 (.gz rfl (.gz rfl (.gz rfl (.gsU (t := 58) rfl rfl rfl (by kernel_rfl) (.gsU (t := 58) rfl rfl rfl (by kernel_rfl) (.gsU (t := 58) rfl rfl rfl (by kernel_rfl) (.gsU (t := 58) rfl rfl rfl (by kernel_rfl) (.gsU (t := 58) rfl rfl rfl (by kernel_rfl) (.gsU (t := 58) rfl rfl rfl (by kernel_rfl) (.gsU (t := 58) rfl rfl rfl (by kernel_rfl) (.gsU (t := 58) rfl rfl rfl (by kernel_rfl) (.gsU (t := 58) rfl rfl rfl (by kernel_rfl) (.gsU (t := 58) rfl rfl rfl (by kernel_rfl) (.gsU (t := 58) rfl rfl rfl (by kernel_rfl) (.gsU (t := 58) rfl rfl rfl (by kernel_rfl) (.gz rfl (.kv rfl (.pickT rfl rfl) (.pf (.condT rfl (.seq ?_))))))))))))))))))))))
      have hbadz : readZ s = none := ref8_bad hj2 (fun g => h10_55 (by rw [hzp]; exact g.2.2.1 hlast))
      refine .region (.a rfl (.an rfl (.rt (.blk_r (.then_r (.then_r (.blk_r (.then_r ?_))))))))
      exact .dn rfl rfl (.inl ⟨hbadz, rfl, rfl⟩)
     refine D.kNF (t := 52) rfl h10_55 (.kNF (t := 53) rfl h10_55 (.kNF (t := 54) rfl h10_55 (.gv rfl (.move rfl) (.gv rfl (.as (v' := .bool false) (by simp [hj0]) (.int rfl rfl rfl)) (.gv rfl (.move rfl) (.gz rfl (.gz rfl (.gz rfl (.gz rfl (.gz rfl (.gz rfl (.gz rfl (.gz rfl (.gz rfl (.gz rfl (.gz rfl (.gz rfl (.gv rfl (.pickF rfl rfl) (.kv rfl (.pickF rfl rfl) (.pf (.condF rfl (.sk ?_))))))))))))))))))))))
     have hck : checkZ (txtR (manyR ndR j (r3Z s)).2).1 = 0 := by rw [← hzp]; exact h10_46
     have hnx : nextN (lastP (manyR ndR j (r3Z s)).1) (ndR (manyR ndR j (r3Z s)).2).1.1 := by rw [hlast]; have h47 : (txtR (manyR ndR j (r3Z s)).2).1 = [47] := (by rw [← hzp]; exact h10_55); exact ⟨hck, by show ([] : Bs) < (txtR (manyR ndR j (r3Z s)).2).1; rw [h47]; decide, fun _ => h47, fun _ => rfl⟩
     refine .draw [6, 7, 10] [[0, 1, 2, 3, 4, 5, 6, 7], [8, 9, 10]] mixed (by kernel_rfl) (.go [ptc b9 _ _, ptc x _ _] (by repeat' constructor) (.k rfl (.move rfl) (.k rfl (.move rfl) (.k rfl (.nilp rfl) (.k rfl (.fieldAddr rfl fo_87_0) (.k rfl (.ld rfl ag_73) (.kv rfl (.loadAs (vs := rnC z) rfl ag_129 (by repeat' constructor) (by simp [rnC]) rfl) (.hh rfl (.buildSlice (vs := [_]) el_73 ze_129 rfl rfl rfl rfl (by first | (simp [Value.cells]; done) | (intro v hv; simp only [List.mem_cons, List.not_mem_nil, or_false] at hv; (repeat (first | (subst hv; rfl) | (rcases hv with hv | hv; (subst hv; rfl)))))) (by decide)) ?_))))))))
     rintro v L' ⟨b12_6, rfl, rfl⟩
     refine D.hh rfl (.append1 rfl rfl rfl el_73 ze_129 rfl rfl ?c68 ?c69 (Nat.le_refl _) ?c70 (by decide)) ?_
     case c68 => first | exact rn_cells hz.cell | (simp only [List.map_cons, List.map_nil, List.flatten_cons, List.flatten_nil, List.append_nil]; exact rn_cells hz.cell)
     case c69 => rfl
     case c70 => first | omega | (simp; omega)
     rintro v L' ⟨⟨a12_7, c12_7, rfl⟩, rfl⟩
     refine D.ph (.g0 (.nf rfl rfl rfl fo_87_0 (.hh rfl (.store rfl rfl rfl sz_73 ?c75 (nfz0 _ _)) ?_)))
     case c75 => first | decide | (simp; omega) | simp
     rintro v L' rfl
     refine D.ph (.fin (.blk_n (.then_n (.region (.m rfl (.q (.add rfl rfl (by omega)) rfl (.an rfl (.bigSnoc (l := l) z (p := inA z) rfl (by repeat' constructor) ?_))))))))
     rw [show l.length + 1 = (l ++ [z]).length by rw [List.length_append]; rfl]
     refine .slCast (T := 129) (sz := 12) (m' := (l ++ [z]).length) (xs' := (l ++ [z]).flatMap rnC) (by repeat' constructor) rfl (by rw [List.flatMap_append]; simp; rfl) (.ptCast (b := x) (l' := [.slice a12_7 (l ++ [z]).length c12_7, .slice none 0 0, vint (numR (txt4R (some s)).2).1]) (by repeat' constructor) rfl ?_)
     exact .rk ((j + 1, .slice a12_7 (l ++ [z]).length c12_7, l ++ [z])) (⟨by dsimp only; omega, ⟨_, _, rfl⟩, by dsimp only; rw [List.length_append, hlj]; rfl, fun g => by dsimp only at g ⊢; exact take_next hI hz hnx g⟩) (by dsimp only; omega) ⟨rfl, rfl, rfl, rfl, rfl, trivial⟩
    have hlast : lastP (manyR ndR j (r3Z s)).1 = (l[j - 1]'(by omega)).1 := by rw [← hnl, last_at (i := j - 1) (by show (l.map _).length = _; rw [List.length_map]; omega)]; simp [ndsZ]
    refine .m rfl (.oq (.c Tryz.func103 [_] (rtake_spec r _)) ?_)
    rintro v L' ⟨z, rfl, hz, rfl⟩; have hzp := hz.path; have hzl : z.1.length ≤ 4096 := by rw [hzp]; exact txtR_le8 _
    refine .oq (.allocA ze_129) ?_
    rintro v L' ⟨b9, rfl, rfl⟩
    refine .oq (.storeA rfl rfl ?c85 sz_129 ?c88 ?c86 (nfz0 _ _)) ?_
    case c85 => exact rn_cells hz.cell
    case c88 => rfl
    case c86 => simp [rnC]
    rintro v L' rfl
    refine .nil (.ptCast (b := b9) (l' := rnC z) (by repeat' constructor) rfl (.then_n (.seq (.seq (.slShape (T := 129) (sz := 12) (v := .slice au l.length cu) (xs := l.flatMap rnC) (by repeat' constructor) (by omega) fun bn bn' e0 mbn _ => ?_)))))
    simp only [Value.slice.injEq, true_and] at e0
    obtain ⟨rfl, rfl⟩ := e0
    refine .draw [] [[0, 1, 2, 3, 4, 5, 6, 7, 8, 9, 10, 11, 12, 13, 14, 15, 16, 17, 18, 19, 20, 21, 22, 23, 24, 25, 26, 27, 28, 29, 30]] mixed (by kernel_rfl) (.go [ptc b9 _ _, ptc x _ _, rnR _ l] (by repeat' constructor) (.kv rfl (.fieldAddr rfl fo_129_0) (.kv rfl (.load rfl ag_9 (by repeat' constructor) rfl) (.m rfl (by kernel_rfl) (.c Tryz.func104 [_] (rcheck_spec z.1 (by omega))) (by repeat' constructor) ?_))))
    refine D.kv rfl (.int rfl rfl rfl) (.mv rfl rfl (.ndec (t := 46) rfl (fun h10_46 => ?_) (fun h10_46 => ?_)))
    ·refine D.kNT (t := 45) rfl h10_46 (.gz rfl (.gz rfl (.gz rfl (.gsU (t := 49) rfl rfl rfl (by kernel_rfl) (.gsU (t := 49) rfl rfl rfl (by kernel_rfl) (.gsU (t := 49) rfl rfl rfl (by kernel_rfl) (.gz rfl (.kv rfl (.pickT rfl rfl) (.mv rfl rfl (.gz rfl (.gz rfl (.gz rfl (.gsU (t := 58) rfl rfl rfl (by kernel_rfl) (.gsU (t := 58) rfl rfl rfl (by kernel_rfl) (.gsU (t := 58) rfl rfl rfl (by kernel_rfl) (.gsU (t := 58) rfl rfl rfl (by kernel_rfl) (.gsU (t := 58) rfl rfl rfl (by kernel_rfl) (.gsU (t := 58) rfl rfl rfl (by kernel_rfl) (.gsU (t := 58) rfl rfl rfl (by kernel_rfl) (.gsU (t := 58) rfl rfl rfl (by kernel_rfl) (.gsU (t := 58) rfl rfl rfl (by kernel_rfl) (.gsU (t := 58) rfl rfl rfl (by kernel_rfl) (.gsU (t := 58) rfl rfl rfl (by kernel_rfl) (.gsU (t := 58) rfl rfl rfl (by kernel_rfl) (.gz rfl (.kv rfl (.pickT rfl rfl) ?_))))))))))))))))))))))))))
     refine D.pf (.condT rfl (.seq ?_))
     have hbadz : readZ s = none := ref8_bad hj2 (fun g => h10_46 (by rw [hzp]; exact g.1))
     refine .region (.a rfl (.an rfl (.rt (.blk_r (.then_r (.then_r (.blk_r (.then_r ?_))))))))
     exact .dn rfl rfl (.inl ⟨hbadz, rfl, rfl⟩)
    refine D.kNF (t := 45) rfl h10_46 (.gv rfl (.move rfl) (.gv rfl (.as (v' := .bool false) (by simp; omega) (.int rfl rfl rfl)) (.gv rfl (.move rfl) (.gz rfl (.gz rfl (.gz rfl (.gv rfl (.pickF rfl rfl) (.kv rfl (.pickF rfl rfl) (.mv rfl rfl (.gv rfl (.move rfl) (.gv rfl (.as (v' := .bool true) (by simp; omega) (.int rfl rfl rfl)) (.gv rfl (.move rfl) (.gv rfl (.fieldAddr rfl fo_129_0) (.gv rfl (.ld rfl ag_9) (.gv rfl (.move rfl) (.gv rfl (.nilp rfl) (.gv rfl (.fieldAddr rfl fo_87_0) (.gv rfl (.ld rfl ag_73) (.gv rfl (.move rfl) (.gv rfl (.sub rfl rfl (by omega)) (.gv rfl (.indexAddr rfl rfl el_73 (by omega)) (.gv rfl (.fieldAddr rfl fo_129_0) (.gv rfl (.loadRd (sz := 12) (j := (j - 1) * 12 + 0) (p := rnR _ l) (v := vstr (l[j - 1]'(by omega)).1) rfl ag_9 (by repeat' constructor) (fun h hp => slR_rd hp) (by omega) ((rn_cell (l := l) (i := j - 1) (k := 0) (by omega) (by decide)).trans rfl)) ?_)))))))))))))))))))))))
    refine D.gv rfl (.strle rfl rfl) (.gv rfl (.pickT rfl rfl) (.kv rfl (.pickF rfl rfl) (.pf (.condD rfl (fun h72 => ?_) (fun h72 => ?_)))))
    ·refine .seq ?_
     have hbadz : readZ s = none := ref8_bad hj2 (fun g => h72 (by rw [hzp, ← hlast]; exact g.2.1))
     refine .region (.a rfl (.an rfl (.rt (.blk_r (.then_r (.then_r (.blk_r (.then_r ?_))))))))
     exact .dn rfl rfl (.inl ⟨hbadz, rfl, rfl⟩)
    refine .sk ?_
    have hck : checkZ (txtR (manyR ndR j (r3Z s)).2).1 = 0 := by rw [← hzp]; exact h10_46
    have hnx : nextN (lastP (manyR ndR j (r3Z s)).1) (ndR (manyR ndR j (r3Z s)).2).1.1 := by exact next_doc (by rw [← hnl]; exact hok) (by rw [manyL]; omega) hck (by have h9 : lastP (manyR ndR j (r3Z s)).1 < z.1 := (by rw [hlast]; exact Decidable.not_not.1 h72); rw [hzp] at h9; exact h9)
    refine .draw [6, 7, 10] [[0, 1, 2, 3, 4, 5, 6, 7], [8, 9, 10]] mixed (by kernel_rfl) (.go [ptc b9 _ _, ptc x _ _] (by repeat' constructor) (.k rfl (.move rfl) (.k rfl (.move rfl) (.k rfl (.nilp rfl) (.k rfl (.fieldAddr rfl fo_87_0) (.k rfl (.ld rfl ag_73) (.kv rfl (.loadAs (vs := rnC z) rfl ag_129 (by repeat' constructor) (by simp [rnC]) rfl) (.hh rfl (.buildSlice (vs := [_]) el_73 ze_129 rfl rfl rfl rfl (by first | (simp [Value.cells]; done) | (intro v hv; simp only [List.mem_cons, List.not_mem_nil, or_false] at hv; (repeat (first | (subst hv; rfl) | (rcases hv with hv | hv; (subst hv; rfl)))))) (by decide)) ?_))))))))
    rintro v L' ⟨b12_6, rfl, rfl⟩
    refine D.hh rfl (.append1 rfl rfl rfl el_73 ze_129 rfl rfl ?c126 ?c127 (Nat.le_refl _) ?c128 (by decide)) ?_
    case c126 => first | exact rn_cells hz.cell | (simp only [List.map_cons, List.map_nil, List.flatten_cons, List.flatten_nil, List.append_nil]; exact rn_cells hz.cell)
    case c127 => rfl
    case c128 => first | omega | (simp; omega)
    rintro v L' ⟨⟨a12_7, c12_7, rfl⟩, rfl⟩
    refine D.ph (.g0 (.nf rfl rfl rfl fo_87_0 (.hh rfl (.store rfl rfl rfl sz_73 ?c133 (nfz0 _ _)) ?_)))
    case c133 => first | decide | (simp; omega) | simp
    rintro v L' rfl
    refine D.ph (.fin (.blk_n (.then_n (.region (.m rfl (.q (.add rfl rfl (by omega)) rfl (.an rfl (.bigSnoc (l := l) z (p := inA z) rfl (by repeat' constructor) ?_))))))))
    rw [show l.length + 1 = (l ++ [z]).length by rw [List.length_append]; rfl]
    refine .slCast (T := 129) (sz := 12) (m' := (l ++ [z]).length) (xs' := (l ++ [z]).flatMap rnC) (by repeat' constructor) rfl (by rw [List.flatMap_append]; simp; rfl) (.ptCast (b := x) (l' := [.slice a12_7 (l ++ [z]).length c12_7, .slice none 0 0, vint (numR (txt4R (some s)).2).1]) (by repeat' constructor) rfl ?_)
    exact .rk ((j + 1, .slice a12_7 (l ++ [z]).length c12_7, l ++ [z])) (⟨by dsimp only; omega, ⟨_, _, rfl⟩, by dsimp only; rw [List.length_append, hlj]; rfl, fun g => by dsimp only at g ⊢; exact take_next hI hz hnx g⟩) (by dsimp only; omega) ⟨rfl, rfl, rfl, rfl, rfl, trivial⟩
   refine .exit (.then_e (.then_e (.blk_e (.then_n ?_))))
   have hsn : (manyR ndR j (r3Z s)).2 = none := by apply Classical.byContradiction; intro g; exact h37 (hee.2 g)
   exact .mk ((.slice au l.length cu, l, (manyR ndR j (r3Z s)).2)) (⟨⟨au, cu, rfl⟩, by dsimp only; omega, fun g => ref8_stop (by omega) g, fun g => absurd hsn g⟩) ⟨rfl, rfl, rfl, rfl, trivial⟩
  refine .kDF (t := 30) rfl h7_31 (.gk (.gk (.gk (.gk (.gk (.u (.pickF rfl rfl) (.nt (.condF rfl (.exit (.then_e (.then_e (.blk_e (.then_n ?_)))))))))))))
  have hjm : j = m := by omega
  exact .mk ((.slice au l.length cu, l, (manyR ndR j (r3Z s)).2)) (⟨⟨au, cu, rfl⟩, by dsimp only; omega, fun g => ref8_stop (by omega) g, fun g => ⟨by dsimp only; unfold r4Z; rw [← hm, ← hjm], by dsimp only; rw [← hm, ← hjm]; exact (hI g).1, (hI g).2⟩⟩) ⟨rfl, rfl, rfl, rfl, trivial⟩
 rintro ⟨u, l, st⟩ ⟨⟨au, cu, hu⟩, hl256, hbad1, hgood1⟩
 dsimp only
 dsimp only at hu hl256 hbad1 hgood1
 subst hu
 refine .sm rfl (.oq (.c Tryz.func102 [_, _] (rfcntN_spec r st)) ?_)
 rintro v L' ⟨rfl, rfl⟩; have hk256 := cntR_le st
 refine .an rfl (.seq (.joinK (ι := Value × (List SN) × Rs) (fun q E => E) (fun q => [rfR r q.2.2, ptc x [.slice au l.length cu, q.1, vint (numR (txt4R (some s)).2).1] 87, slR 127 3 q.1 q.2.1.length (q.2.1.flatMap rsC)]) (fun q => (∃ a c, q.1 = .slice a q.2.1.length c) ∧ q.2.1.length ≤ 256 ∧ (q.2.2 = none → readZ s = none) ∧ (q.2.2 ≠ none → st = r4Z s ∧ q.2.2 = (manyR ssR (cntR (r4Z s)).1 (cntR (r4Z s)).2).2 ∧ q.2.1 = (manyR ssR (cntR (r4Z s)).1 (cntR (r4Z s)).2).1 ∧ okS q.2.1)) (pre := [rfR r (cntR st).2, ptc x [.slice au l.length cu, .slice none 0 0, vint (numR (txt4R (some s)).2).1] 87, slR 127 3 (.slice none 0 0) 0 []]) (ts := [4, 5, 6]) (.cons rfl (.cons rfl (.cons rfl (.nil)))) (by repeat' constructor) ?_ ?_))
 ·refine .sr (.an rfl (.block (.loopK (ι := Nat × Value) (fun q E => (10, vint q.1) :: E) (fun q => [rfR r (manyR ssR q.1 (cntR st).2).2, ptc x [.slice au l.length cu, q.2, vint (numR (txt4R (some s)).2).1] 87, slR 127 3 q.2 q.1 ((manyR ssR q.1 (cntR st).2).1.flatMap rsC)]) (fun q => q.1 ≤ (cntR st).1 ∧ (∃ a c, q.2 = .slice a q.1 c) ∧ okS (manyR ssR q.1 (cntR st).2).1) (fun q => (cntR st).1 - q.1) (0, .slice none 0 0) (ts := [4, 5, 6, 7]) (.cons rfl (.cons rfl (.cons rfl (.cons rfl (.nil))))) (⟨Nat.zero_le _, ⟨none, 0, rfl⟩, okS_nil⟩) ⟨rfl, rfl, rfl, rfl, rfl, trivial⟩ (by repeat' constructor) ?_)))
  rintro ⟨i, us⟩ ⟨hi, ⟨as1, cs1, hus⟩, hoks⟩
  dsimp only
  dsimp only at hi hus hoks
  subst hus
  have hli : (manyR ssR i (cntR st).2).1.length = i := manyL _ _ _
  refine .seq (.sm rfl (.m rfl (.ui rfl rfl rfl (.m rfl (.dec (t := 88) rfl (fun h15_88 => ?_) (fun h15_88 => ?_))))))
  ·refine .kDT (t := 87) rfl h15_88 (.rfLook (by repeat' constructor) fun s2 k2 e2 hst hkl hsz => ?_)
   have hee := stW_iff hst
   refine .grun (t := 88) rfl rfl rfl (.m rfl (.grun (t := 88) rfl rfl rfl (.u (.nilp rfl) (.grun (t := 88) rfl rfl rfl (.u (.fieldAddr rfl fo_175_2) (.grun (t := 88) rfl rfl rfl (.u (.ld rfl ag_31) (.grun (t := 88) rfl rfl rfl (.ui rfl rfl rfl (.u (.pickT rfl rfl) (.nil (.rfFold (r := r) s2 k2 e2 (by repeat' constructor) rfl hkl hsz (.rfUpF (by repeat' constructor) hst (.then_n (.condD rfl (fun h94 => ?_) (fun h94 => ?_))))))))))))))))
   ·have hi2 : i < (cntR st).1 := by omega
    have hst4 : st = r4Z s := (hgood1 (sess_some (hee.1 h94))).1
    refine .sk (.seq (.block (.sm rfl (.cv Tryz.func101 [_] (rfnumN_spec r _) ?_))))
    refine .an rfl (.sm rfl (.cv Tryz.func101 [_] (rfnumN_spec r _) ?_))
    refine .an rfl (.sm rfl (.cv Tryz.func100 [_, _] (rftxtN_spec r _) ?_))
    refine .an rfl (.seq (.sm rfl (.ui rfl rfl rfl (.m rfl (.dec (t := 105) rfl (fun h20_105 => ?_) (fun h20_105 => ?_))))))
    ·refine .kDT (t := 104) rfl h20_105 (.gk (.gk (.gk (.gskipU (t := 108) rfl rfl rfl (.gskipU (t := 108) rfl rfl rfl (.gskipU (t := 108) rfl rfl rfl (.gskipU (t := 108) rfl rfl rfl (.gskipU (t := 108) rfl rfl rfl (.gskipU (t := 108) rfl rfl rfl (.gskipU (t := 108) rfl rfl rfl (.gskipU (t := 108) rfl rfl rfl (.gskipU (t := 108) rfl rfl rfl (.gskipU (t := 108) rfl rfl rfl (.gskipU (t := 108) rfl rfl rfl (.gk (.u (.pickT rfl rfl) (.nt (.condT rfl (.seq ?_)))))))))))))))))))
     have hbadz : readZ s = none := ref8_badS (j := i) (by rw [← hst4]; exact hi2) (by rw [← hst4]; exact fun g => by have g1 : lastI (manyR ssR i (cntR st).2).1 < (numR (manyR ssR i (cntR st).2).2).1 := g; have := (okS_pos hoks).1; omega)
     refine .region (.a rfl (.an rfl (.rt (.blk_r (.then_r (.then_r (.blk_r (.then_r ?_))))))))
     exact .dn rfl rfl (.inl ⟨hbadz, rfl, rfl⟩)
    refine .kDF (t := 104) rfl h20_105 (.grun (t := 105) rfl rfl rfl (.m rfl (.grun (t := 105) rfl rfl rfl (.ui rfl rfl rfl (.grun (t := 105) rfl rfl rfl (.m rfl (.dec (t := 108) rfl (fun h20_108 => ?_) (fun h20_108 => ?_))))))))
    ·refine .kDT (t := 107) rfl h20_108 (.grun (t := 108) rfl rfl rfl (.m rfl (.grun (t := 108) rfl rfl rfl (.m rfl (.grun (t := 108) rfl rfl rfl (.u (.nilp rfl) (.grun (t := 108) rfl rfl rfl (.u (.fieldAddr rfl fo_87_1) (.grun (t := 108) rfl rfl rfl (.u (.ld rfl ag_59) (.grun (t := 108) rfl rfl rfl (.m rfl (.grun (t := 108) rfl rfl rfl (.q (.sub rfl rfl (by omega)) rfl (.slShape (T := 127) (sz := 3) (v := .slice as1 i cs1) (xs := (manyR ssR i (cntR st).2).1.flatMap rsC) (by repeat' constructor) (by omega) fun bs bs' e0 mbs _ => ?_)))))))))))))))
     simp only [Value.slice.injEq, true_and] at e0
     obtain ⟨rfl, rfl⟩ := e0
     refine .grun (t := 108) rfl rfl rfl (.q (.indexAddr rfl rfl el_59 (by omega)) rfl (.grun (t := 108) rfl rfl rfl (.u (.fieldAddr rfl fo_127_0) (.grun (t := 108) rfl rfl rfl (.q (.loadRd (sz := 3) (j := (i - 1) * 3 + 0) (p := slR 127 3 _ i ((manyR ssR i (cntR st).2).1.flatMap rsC)) (v := vint ((manyR ssR i (cntR st).2).1[i - 1]'(by omega)).1) rfl ag_3 (by repeat' constructor) (fun h hp => slR_rd hp) (by omega) ((rs_cell (l := (manyR ssR i (cntR st).2).1) (i := i - 1) (k := 0) (by omega) (by decide)).trans rfl)) rfl (.grun (t := 108) rfl rfl rfl (.ui rfl rfl rfl (.grun (t := 105) rfl rfl rfl (.u (.pickT rfl rfl) (.u (.pickF rfl rfl) (.nt (.condD rfl (fun h121 => ?_) (fun h121 => ?_)))))))))))))
     ·refine .seq ?_
      have hbadz : readZ s = none := ref8_badS (j := i) (by rw [← hst4]; exact hi2) (by rw [← hst4]; exact fun g => by have g1 : lastI (manyR ssR i (cntR st).2).1 < (numR (manyR ssR i (cntR st).2).2).1 := g; rw [lastI_at (i := i - 1) (by omega)] at g1; omega)
      refine .region (.a rfl (.an rfl (.rt (.blk_r (.then_r (.then_r (.blk_r (.then_r ?_))))))))
      exact .dn rfl rfl (.inl ⟨hbadz, rfl, rfl⟩)
     refine .sk ?_
     have hnx : nextS (lastI (manyR ssR i (cntR st).2).1) ((ssR (manyR ssR i (cntR st).2).2).1).1 := by show lastI (manyR ssR i (cntR st).2).1 < (numR (manyR ssR i (cntR st).2).2).1; rw [lastI_at (i := i - 1) (by omega)]; omega
     refine .region (.m rfl (.m rfl (.nf rfl fo_87_1 (.u (.ld rfl ag_59) (.m rfl (.m rfl (.m rfl (.q (.to (v' := .agg (rsC (ssR (manyR ssR i (cntR st).2).2).1).toArray) (.build (us := [(0, _), (1, _), (2, _)]) fl_127 ze_127 rfl rfl (by simp [isCell])) rfl) rfl (.oq (.buildSlice (vs := [_]) el_59 ze_127 rfl rfl rfl rfl (by first | (simp [Value.cells]; done) | (intro v hv; simp only [List.mem_cons, List.not_mem_nil, or_false] at hv; (repeat (first | (subst hv; rfl) | (rcases hv with hv | hv; (subst hv; rfl)))))) (by decide)) ?_)))))))))
     rintro v L' ⟨b22_9, rfl, rfl⟩
     refine .oq (.append1 rfl rfl rfl el_59 ze_127 rfl rfl ?c186 ?c187 (Nat.le_refl _) ?c188 (by decide)) ?_
     case c186 => simp only [List.map_cons, List.map_nil, List.flatten_cons, List.flatten_nil, List.append_nil]; simp [Value.cells, rsC, isCell]
     case c187 => rfl
     case c188 => first | omega | (simp; omega)
     rintro v L' ⟨⟨a22_10, c22_10, rfl⟩, rfl⟩
     refine .nf rfl fo_87_1 (.st rfl rfl rfl sz_59 ?_)
     refine .nil (.blk_n (.then_n (.region (.m rfl (.q (.add rfl rfl (by omega)) rfl (.an rfl (.slCast (T := 127) (sz := 3) (m' := i + 1) (xs' := (manyR ssR (i + 1) (cntR st).2).1.flatMap rsC) (by repeat' constructor) rfl (by show _ = ((manyR ssR i (cntR st).2).1 ++ [(ssR (manyR ssR i (cntR st).2).2).1]).flatMap rsC; rw [List.flatMap_append]; simp; rfl) (.ptCast (b := x) (l' := [.slice au l.length cu, .slice a22_10 (i + 1) c22_10, vint (numR (txt4R (some s)).2).1]) (by repeat' constructor) rfl ?_))))))))
     exact .rk ((i + 1, .slice a22_10 (i + 1) c22_10)) (⟨by dsimp only; omega, ⟨_, _, rfl⟩, okS_snoc.2 ⟨hoks, hnx⟩⟩) (by dsimp only; omega) ⟨rfl, rfl, rfl, rfl, rfl, trivial⟩
    refine .kDF (t := 107) rfl h20_108 (.gk (.gk (.gk (.gk (.gk (.gk (.gk (.gk (.gk (.gk (.gk (.grun (t := 105) rfl rfl rfl (.u (.pickF rfl rfl) (.u (.pickF rfl rfl) (.nt (.condF rfl (.sk ?_)))))))))))))))))
    have hnx : nextS (lastI (manyR ssR i (cntR st).2).1) ((ssR (manyR ssR i (cntR st).2).2).1).1 := by show lastI (manyR ssR i (cntR st).2).1 < (numR (manyR ssR i (cntR st).2).2).1; have hi0 : i = 0 := (by omega); subst hi0; show (0 : Int) < _; omega
    refine .region (.m rfl (.m rfl (.nf rfl fo_87_1 (.u (.ld rfl ag_59) (.m rfl (.m rfl (.m rfl (.q (.to (v' := .agg (rsC (ssR (manyR ssR i (cntR st).2).2).1).toArray) (.build (us := [(0, _), (1, _), (2, _)]) fl_127 ze_127 rfl rfl (by simp [isCell])) rfl) rfl (.oq (.buildSlice (vs := [_]) el_59 ze_127 rfl rfl rfl rfl (by first | (simp [Value.cells]; done) | (intro v hv; simp only [List.mem_cons, List.not_mem_nil, or_false] at hv; (repeat (first | (subst hv; rfl) | (rcases hv with hv | hv; (subst hv; rfl)))))) (by decide)) ?_)))))))))
    rintro v L' ⟨b22_9, rfl, rfl⟩
    refine .oq (.append1 rfl rfl rfl el_59 ze_127 rfl rfl ?c207 ?c208 (Nat.le_refl _) ?c209 (by decide)) ?_
    case c207 => simp only [List.map_cons, List.map_nil, List.flatten_cons, List.flatten_nil, List.append_nil]; simp [Value.cells, rsC, isCell]
    case c208 => rfl
    case c209 => first | omega | (simp; omega)
    rintro v L' ⟨⟨a22_10, c22_10, rfl⟩, rfl⟩
    refine .nf rfl fo_87_1 (.st rfl rfl rfl sz_59 ?_)
    refine .nil (.blk_n (.then_n (.region (.m rfl (.q (.add rfl rfl (by omega)) rfl (.an rfl (.slCast (T := 127) (sz := 3) (m' := i + 1) (xs' := (manyR ssR (i + 1) (cntR st).2).1.flatMap rsC) (by repeat' constructor) rfl (by show _ = ((manyR ssR i (cntR st).2).1 ++ [(ssR (manyR ssR i (cntR st).2).2).1]).flatMap rsC; rw [List.flatMap_append]; simp; rfl) (.ptCast (b := x) (l' := [.slice au l.length cu, .slice a22_10 (i + 1) c22_10, vint (numR (txt4R (some s)).2).1]) (by repeat' constructor) rfl ?_))))))))
    exact .rk ((i + 1, .slice a22_10 (i + 1) c22_10)) (⟨by dsimp only; omega, ⟨_, _, rfl⟩, okS_snoc.2 ⟨hoks, hnx⟩⟩) (by dsimp only; omega) ⟨rfl, rfl, rfl, rfl, rfl, trivial⟩
   refine .exit (.then_e (.then_e (.blk_e (.then_n ?_))))
   have hsn : (manyR ssR i (cntR st).2).2 = none := by apply Classical.byContradiction; intro g; exact h94 (hee.2 g)
   refine .slCast (T := 127) (sz := 3) (m' := (manyR ssR i (cntR st).2).1.length) (xs' := (manyR ssR i (cntR st).2).1.flatMap rsC) (by repeat' constructor) hli.symm rfl ?_
   exact .mk ((.slice as1 i cs1, (manyR ssR i (cntR st).2).1, (manyR ssR i (cntR st).2).2)) (⟨⟨as1, cs1, by dsimp only; rw [hli]⟩, by dsimp only; omega, fun g => sess_stop hbad1 (fun g => (hgood1 g).1) (by omega) g, fun g => absurd hsn g⟩) ⟨rfl, rfl, rfl, trivial⟩
  refine .kDF (t := 87) rfl h15_88 (.gk (.gk (.gk (.gk (.gk (.u (.pickF rfl rfl) (.nt (.condF rfl (.exit (.then_e (.then_e (.blk_e (.then_n ?_)))))))))))))
  have hik : i = (cntR st).1 := by omega
  refine .slCast (T := 127) (sz := 3) (m' := (manyR ssR i (cntR st).2).1.length) (xs' := (manyR ssR i (cntR st).2).1.flatMap rsC) (by repeat' constructor) hli.symm rfl ?_
  exact .mk ((.slice as1 i cs1, (manyR ssR i (cntR st).2).1, (manyR ssR i (cntR st).2).2)) (⟨⟨as1, cs1, by dsimp only; rw [hli]⟩, by dsimp only; omega, fun g => sess_stop hbad1 (fun g => (hgood1 g).1) (by omega) g, fun g => by have e4 := (hgood1 (sess_some g)).1; dsimp only at g ⊢; exact ⟨e4, by rw [hik, e4], by rw [hik, e4], hoks⟩⟩) ⟨rfl, rfl, rfl, trivial⟩
 rintro ⟨us, ls, sf⟩ ⟨⟨as1, cs1, hus⟩, hs256, hbad2, hgood2⟩
 dsimp only
 dsimp only at hus hs256 hbad2 hgood2
 subst hus
 refine .seq (.sm rfl (.oq (.c Tryz.func105 [_] (rfend_spec r _)) ?_))
 rintro v L' ⟨e1, he1, rfl, st', rfl⟩
 refine .ui rfl rfl rfl (.m rfl (.ndec (t := 138) rfl (fun h23_138 => ?_) (fun h23_138 => ?_)))
 ·refine .kNT (t := 137) rfl h23_138 (.gk (.gk (.u (.pickT rfl rfl) (.m rfl (.gk (.gk (.gk (.gk (.gk (.gk (.u (.pickT rfl rfl) (.nt (.condT rfl (.seq ?_))))))))))))))
  have hbadz : readZ s = none := by
    cases hr : readZ s with
    | none => rfl
    | some τ =>
      have g8 := ref8_iff.1 hr
      have hsf : sf ≠ none := fun g => by rw [hbad2 g] at hr; cases hr
      obtain ⟨q1, q2, q3, q4⟩ := hgood2 hsf
      have e6 : sf = some [] := by rw [q2, show manyR ssR (cntR (r4Z s)).1 (cntR (r4Z s)).2 = _ from g8.ss]
      exact absurd (he1.2 e6) h23_138
  refine .region (.a rfl (.an rfl (.rt ?_)))
  exact .dn rfl rfl (.inl ⟨hbadz, rfl, rfl⟩)
 refine .kNF (t := 137) rfl h23_138 (.grun (t := 138) rfl rfl rfl (.m rfl (.grun (t := 138) rfl rfl rfl (.u (.strne rfl rfl) (.u (.pickF rfl rfl) (.m rfl (.ndec (t := 142) rfl (fun h23_142 => ?_) (fun h23_142 => ?_))))))))
 ·refine .kNT (t := 140) rfl h23_142 (.kNT (t := 141) rfl h23_142 (.gk (.gk (.gk (.gk (.gk (.gk (.u (.pickT rfl rfl) (.nt (.condT rfl (.seq ?_)))))))))))
  have hbadz : readZ s = none := by
    cases hr : readZ s with
    | none => rfl
    | some τ =>
      have g8 := ref8_iff.1 hr
      have hsf : sf ≠ none := fun g => by rw [hbad2 g] at hr; cases hr
      obtain ⟨q1, q2, q3, q4⟩ := hgood2 hsf
      have e6 : sf = some [] := by rw [q2, show manyR ssR (cntR (r4Z s)).1 (cntR (r4Z s)).2 = _ from g8.ss]
      exact absurd g8.head h23_142
  refine .region (.a rfl (.an rfl (.rt ?_)))
  exact .dn rfl rfl (.inl ⟨hbadz, rfl, rfl⟩)
 refine .kNF (t := 140) rfl h23_142 (.kNF (t := 141) rfl h23_142 (.grun (t := 142) rfl rfl rfl (.m rfl (.grun (t := 142) rfl rfl rfl (.u (.nilp rfl) (.grun (t := 142) rfl rfl rfl (.u (.fieldAddr rfl fo_87_0) (.grun (t := 142) rfl rfl rfl (.u (.ld rfl ag_73) (.grun (t := 142) rfl rfl rfl (.q (.slen rfl Tryz.underlying73 rfl) rfl (.grun (t := 142) rfl rfl rfl (.ui rfl rfl rfl (.u (.pickF rfl rfl) (.nt (.condD rfl (fun h149 => ?_) (fun h149 => ?_)))))))))))))))))
 ·refine .seq ?_
  have hbadz : readZ s = none := by
    cases hr : readZ s with
    | none => rfl
    | some τ =>
      have g8 := ref8_iff.1 hr
      have hsf : sf ≠ none := fun g => by rw [hbad2 g] at hr; cases hr
      obtain ⟨q1, q2, q3, q4⟩ := hgood2 hsf
      have e6 : sf = some [] := by rw [q2, show manyR ssR (cntR (r4Z s)).1 (cntR (r4Z s)).2 = _ from g8.ss]
      have hst : st ≠ none := fun g => by rw [hbad1 g] at hr; cases hr
      obtain ⟨-, p2, -⟩ := hgood1 hst
      have e7 : τ.nodes = ndsZ l := by rw [p2, g8.n]
      exact absurd (by rw [e7]; unfold ndsZ; rw [List.eq_nil_of_length_eq_zero (l := l) (by omega)]; rfl) g8.ne
  refine .region (.a rfl (.an rfl (.rt ?_)))
  exact .dn rfl rfl (.inl ⟨hbadz, rfl, rfl⟩)
 refine .sk (.seq ?_)
 have hsf0 : sf = some [] := he1.1 h23_138
 have hsf : sf ≠ none := by rw [hsf0]; simp
 obtain ⟨q1, q2, q3, q4⟩ := hgood2 hsf
 have hr : readZ s = some ⟨ndsZ l, ls, (numR (txt4R (some s)).2).1⟩ := read_all h23_142 hbad1 hgood1 q1 (by rw [← q2]; exact hsf0) q3 q4 (by have := h149; omega)
 refine .region (.m rfl (.a rfl (.an rfl (.ret (.rtFold (x := x) (τ := ⟨ndsZ l, ls, (numR (txt4R (some s)).2).1⟩) (l := l) rfl (by repeat' constructor) rfl rfl rfl rfl rfl ?_)))))
 exact .dn rfl rfl (.inr ⟨_, x, hr, rfl, rfl⟩)
theorem rd_from {sz n c k : Nat} {a : Option Addr} {ys : List Value} {h : Hp} (hr : rdS sz h (.slice a n c) n ys) (hk : k ≤ n) : rdS sz h (.slice (cutA a c k sz) (n - k) (c - k)) (n - k) (ys.drop (k * sz)) := by
 unfold cutA
 have hyl := rdS_len hr
 by_cases e : k = n
 ·subst e
  refine .inl ⟨by omega, ?_, _, _, by rw [Nat.sub_self]⟩
  exact List.drop_eq_nil_of_le (by rw [hyl]; exact Nat.le_refl _)
 ·have hlt : k < n := by omega
  have hr0 := hr
  rcases hr with ⟨h1, -, -⟩ | ⟨b, off, cap, l, T, fr, hv, h2, h3, h4, h5⟩
  ·omega
  ·cases hv
   rw [if_neg (by omega)]
   show rdS sz h (.slice (some (Addr.add ⟨b, off, none⟩ (k * sz))) _ _) _ _
   rw [Addr.add_eq]
   exact rdS_drop hr0 hlt
theorem flat_drop {α β : Type} {f : α → List β} {k : Nat} (hf : ∀ x, (f x).length = k) : ∀ (l : List α) (b : Nat), (l.drop b).flatMap f = (l.flatMap f).drop (b * k)
 | _, 0 => by simp
 | [], b + 1 => by simp
 | x :: l, b + 1 => by
  rw [List.drop_succ_cons, flat_drop hf l b, List.flatMap_cons, Nat.succ_mul, Nat.add_comm, ← List.drop_drop, List.drop_append_of_le_length (by rw [hf]; exact Nat.le_refl _), ← hf x, List.drop_length, List.nil_append]
theorem slR_cap {T : TypeId} {sz n c : Nat} {a : Option Addr} {xs : List Value} {h : Hp} (hp : slR T sz (.slice a n c) n xs h) : n ≤ c := by
 rcases hp with ⟨h1, h2, -⟩ | ⟨b, cap, rest, fr, hv, -, -, -, h3, -⟩
 ·omega
 ·simp only [Value.slice.injEq, true_and] at hv
  obtain ⟨-, rfl⟩ := hv
  exact h3
def histP (v : Value) (es : List En) : HP := fun h => sep [slR 39 11 v es.length (es.flatMap enC), ensA es] h
theorem histP_rd {v : Value} {es : List En} {h : Hp} (hp : histP v es h) : rdS 11 h v es.length (es.flatMap enC) := by
 obtain ⟨h1, a1, q⟩ := sep_head hp
 exact rdS_mono (slR_rd q) a1
theorem histP_en {v : Value} {es : List En} {h : Hp} (hp : histP v es h) : ∃ h1, (∀ b o, h1 b = some o → h b = some o) ∧ ensA es h1 := sep_head (sep_swap hp)
theorem PtA.weak {p q : HP} {x : Pt} (h : PtA p x) (hw : ∀ hh, q hh → ∃ h1, (∀ b o, h1 b = some o → hh b = some o) ∧ p h1) : PtA q x :=
 ⟨fun hh hq => by obtain ⟨h1, a1, p1⟩ := hw hh hq; exact rdS_mono (h.acl h1 p1) a1, h.few, h.plen, h.subs, h.cell⟩
theorem TxA.weak {p q : HP} {x : Pt} {subs : List Pt} (h : TxA p x subs) (hw : ∀ hh, q hh → ∃ h1, (∀ b o, h1 b = some o → hh b = some o) ∧ p h1) : TxA q x subs :=
 ⟨h.own.weak hw, fun hh hq => by obtain ⟨h1, a1, p1⟩ := hw hh hq; exact rdS_mono (h.rd h1 p1) a1, h.few, fun y hy => (h.each y hy).weak hw⟩
theorem wt_hist {es : List En} {τ : Tr} (h : Hist 1 es τ) : wtL es ≤ 61 * es.length := by
 have key : ∀ l : List En, (∀ e ∈ l, e.subs.length ≤ 60) → wtL l ≤ 61 * l.length := by
  intro l
  induction l with
  | nil => intro _; simp [wtL]
  | cons e l ih =>
   intro hl
   have h1 := hl e List.mem_cons_self
   have h2 := ih fun x hx => hl x (List.mem_cons_of_mem _ hx)
   unfold wtL at h2 ⊢
   rw [List.map_cons, List.sum_cons, List.length_cons]; omega
 refine key es fun e he => ?_
 obtain ⟨i, hi, rfl⟩ := List.mem_iff_getElem.1 he
 exact h.few hi
theorem hist_ents {es : List En} {τ : Tr} (h : Hist 1 es τ) (hl : es.length ≤ 150) {a : Option Addr} {c : Nat} {b : Nat} (hb : b ≤ es.length) : EntsB (histP (.slice a es.length c) es) (.slice (cutA a c b 11) (es.length - b) (c - b)) (es.drop b) := by
 refine ⟨fun hh hp => ?_, by rw [List.length_drop]; omega, fun e he => ?_, ?_⟩
 ·have h1 := rd_from (histP_rd hp) hb
  rw [List.length_drop, flat_drop (k := 11) (fun _ => rfl)]
  exact h1
 ·obtain ⟨i, hi, rfl⟩ := List.mem_iff_getElem.1 (List.mem_of_mem_drop he)
  exact (h.tx i hi).weak fun hh hq => histP_en hq
 ·have h1 := wt_hist h
  have h2 : wtL (es.drop b) ≤ wtL es := by
   conv => rhs; rw [← List.take_append_drop b es]
   unfold wtL
   rw [List.map_append, List.sum_append]; omega
  omega
theorem hist_all {es : List En} {τ : Tr} (h : Hist 1 es τ) (hl : es.length ≤ 150) {a : Option Addr} {c : Nat} : EntsB (histP (.slice a es.length c) es) (.slice a es.length c) es := by
 refine ⟨fun hh hp => histP_rd hp, by omega, fun e he => ?_, by have := wt_hist h; omega⟩
 obtain ⟨i, hi, rfl⟩ := List.mem_iff_getElem.1 he
 exact (h.tx i hi).weak fun hh hq => histP_en hq
def manyO (s : Bs) : Int → Prop := fun n => (readZ s = none ∧ n = 257) ∨ ∃ τ, readZ s = some τ ∧ n = τ.nodes.length
theorem fmany8_spec (s : Bs) (hs : s.length ≤ 70368744177664) : Fn Tryz.prog 21 #[vstr s] [] fun v L => ∃ n, v = vint n ∧ manyO s n ∧ L = [] := by
 refine Fn.intro Tryz.func21 rfl rfl fun F W => ?_
 refine .sr (.an rfl (.sm rfl (.oq (.c Tryz.func56 [_] (rread8_spec s hs)) ?_)))
 rintro v L' (⟨hz, rfl, rfl⟩ | ⟨τ, x, hz, rfl, rfl⟩)
 ·refine .m rfl (.u (.extract rfl rfl) (.u (.extract rfl rfl) (.a rfl (.an rfl (.seq (.sm rfl (.u (.not rfl) (.nt (.condT rfl (.sr (.an rfl (.rt ?_))))))))))))
  exact .dn rfl rfl ⟨257, rfl, .inl ⟨hz, rfl⟩, rfl⟩
 refine .m rfl (.u (.extract rfl rfl) (.u (.extract rfl rfl) (.a rfl (.an rfl (.seq (.sm rfl (.u (.not rfl) (.nt (.condF rfl (.sk (.seq (.rtOpen (x := x) (τ := τ) (by repeat' constructor) fun an cn as1 cs l hl => ?_))))))))))))
 have hll := nds_len hl
 refine .region (.m rfl (.nf rfl fo_87_0 (.u (.ld rfl ag_73) (.q (.slen rfl Tryz.underlying73 rfl) rfl (.an rfl (.ret ?_))))))
 exact .dn rfl rfl ⟨_, rfl, .inr ⟨τ, hz, by rw [hll]⟩, rfl⟩
theorem text_len {τ : Tr} {φ : Fz} {M : Nat} (h : FzN τ φ M) (hM : M ≤ 1048576) : (textZ φ).length ≤ 70368744177664 := by
 unfold textZ
 split
 ·obtain ⟨h1, h2⟩ := h.room hM
  have h3 := numB_len8 h.from'
  have hu : U64 = 18446744073709551616 := rfl
  have hm := h.many
  have hs := h.sm
  have h4 := sev_len10 (u := φ.nds.length) (by omega)
  have h5 := sev_len10 (u := φ.ss.length) (by omega)
  have h6 := txtB_len8 (s := headB) (by decide)
  have h7 := sess_len8 h.ss (by omega)
  unfold fzNB at h1
  unfold layB nodesB sessB cntB
  simp only [List.length_append]
  omega
 ·simp
theorem rest_none8 {s : Bs} {es : List En} (h : restO s es = none) : readZ s = none := by
 unfold restO at h
 cases e : readZ s with
 | none => rfl
 | some τ => rw [e] at h; cases h
theorem rest_some8 {s : Bs} {es : List En} {υ : Tr} (h : restO s es = some υ) : ∃ σ, readZ s = some σ ∧ restZ σ es = υ := by
 unfold restO at h
 cases e : readZ s with
 | none => rw [e] at h; cases h
 | some σ => rw [e] at h; exact ⟨σ, rfl, Option.some.inj h⟩
section
variable {W : World} {n : Nat} {ds : List Deferred} {E : Env} {L R : List HP} {X : Act → World → Prop}
theorem G.slotB {t : Nat} {b c : Bool} (hl : look E t = some (.bool b)) (hb : b = c) (h : G W n ds ((t, .bool c) :: E) L X) : G W n ds E L X := G.kB hl hb h
theorem G.histCap {a : Option Addr} {c : Nat} {es : List En} (hL : Pick (histP (.slice a es.length c) es) L R) (h : es.length ≤ c → G W n ds E L X) : G W n ds E L X := by
 intro ac w he hk hs
 refine h ?_ ac w he hk hs
 obtain ⟨h1, a1, q⟩ := sep_head (hs.pick hL)
 obtain ⟨h2, a2, q2⟩ := sep_head q
 exact slR_cap q2
end
set_option maxHeartbeats 1000000 in
theorem snapRestores8_spec (v w : Value) (xs : List Ac0) (ys : List Int) (n1 : Int) (b3 : Bool) (p : HP) (hx : Acts1 p v xs) (hn1 : -9223372036854775808 ≤ n1 ∧ n1 ≤ 9223372036854775807) (hy : (∀ h : Hp, p h → rdS 1 h w ys.length (ys.flatMap fun z => [vint z])) ∧ ys.length ≤ 1048576 ∧ ∀ y ∈ ys, -9223372036854775808 ≤ y ∧ y ≤ 9223372036854775807) : Fn Tryz.prog 4 #[v, vint n1, w, .bool b3] [p] fun r L => r = .bool true ∧ L = [p] := by
 refine Fn.intro Tryz.func4 rfl rfl fun F W => ?_
 obtain ⟨hy1, hy2, hy3⟩ := hy
 refine .rdAny (p := p) hy1 (by repeat' constructor) fun ay cy ey _ => ?_
 have hrdy := hy1
 rw [ey] at hrdy
 subst ey
 have hp1 : ∀ n : Nat, ∃ b : Nat, pickZ n1 ((n : Int) + 1) = b ∧ b ≤ n := fun n => by have h := pickZ_range n1 (n := (n : Int) + 1) (by omega); exact ⟨(pickZ n1 ((n : Int) + 1)).toNat, by omega, by omega⟩
 refine .sr (.an rfl (.sr (.cv Tryz.func9 [] (awake8_spec) ?_)))
 refine .an rfl (.sm rfl (.oq (.c Tryz.func10 [_, _] (history7_spec v xs 1 p hx (by decide))) ?_))
 rintro v L' ⟨es, τ, x, u, rfl, hh, ⟨hes, au, cu, rfl⟩, rfl⟩; have hinv := hh.inv; have hok := hinv.ok; have hfew := hok.few
 refine .m rfl (.u (.extract rfl rfl) (.u (.extract rfl rfl) (.a rfl (.a rfl (.nil ?_)))))
 obtain ⟨b, hbz, hb⟩ := hp1 es.length
 have hl150 : es.length ≤ 200 := by omega
 refine .then_n (.sr (.oq (.c Tryz.func11 [] (trnew_spec)) ?_))
 rintro v L' ⟨t, rfl, rfl⟩
 refine .an rfl (.seq (.sm rfl (.u (.not rfl) (.m rfl (.grun (t := 28) rfl rfl rfl (.m rfl (.grun (t := 28) rfl rfl rfl (.q (.as (v' := .bool false) (by rfl) (.ptreq rfl rfl Tryz.underlying28)) rfl (.u (.pickF rfl rfl) (.nt (.condF rfl (.sk (.sm rfl (.m rfl (.q (.slen rfl Tryz.underlying24 rfl) rfl (.q (.add rfl rfl (by omega)) rfl (.oq (.c Tryz.func16 [_, _] (pick8_spec n1 ((es.length : Int) + 1) hn1 (by omega))) ?_)))))))))))))))))
 rintro v L' ⟨rfl, rfl⟩; rw [hbz]
 refine .an rfl (.sm rfl (.oq (.c Tryz.func17 [_] (sbegin_spec t newT)) ?_))
 rintro v L' ⟨f0, rfl, rfl⟩
 refine .an rfl (.sr (.an rfl (.seq (.trCast (t := t) (τ' := appL newT (es.take 0)) (by repeat' constructor) (by rw [List.take_zero]; rfl) (.joinK (ι := Nat × Fz) (fun q E => (13, vptr q.1) :: (14, .bool q.2.all) :: E) (fun q => [treeR t τ, fuzR q.1 t q.2]) (fun q => FzI es b es.length q.2 ∧ FzN τ q.2 10000) (pre := [treeR t (appL newT (es.take 0)), fuzR f0 t (beginZ newT)]) (ts := [1, 3, 10, 12]) (.cons rfl (.cons rfl (.cons rfl (.cons rfl (.nil))))) (by repeat' constructor) ?_ ?_)))))
 ·refine .sr (.an rfl (.block (.loopK (ι := Nat × Nat × Fz) (fun q E => (15, vint q.1) :: (13, vptr q.2.1) :: (14, .bool q.2.2.all) :: E) (fun q => [treeR t (appL newT (es.take q.1)), fuzR q.2.1 t q.2.2]) (fun q => q.1 ≤ es.length + 1 ∧ (b < q.1 → FzI es b (q.1 - 1) q.2.2) ∧ FzN (appL newT (es.take q.1)) q.2.2 (60 + 61 * q.1)) (fun q => es.length + 1 - q.1) (0, f0, beginZ newT) (ts := [1, 2, 3, 10, 12]) (.cons rfl (.cons rfl (.cons rfl (.cons rfl (.cons rfl (.nil)))))) (⟨Nat.zero_le _, fun h => absurd h (Nat.not_lt_zero _), by have h := FzN.begin (M := 60) TrW.new (by decide); exact h⟩) ⟨rfl, rfl, rfl, rfl, rfl, rfl, rfl, rfl, trivial⟩ (by repeat' constructor) ?_)))
  rintro ⟨i, f, φ⟩ ⟨hi, hFi, hNi⟩
  dsimp only
  dsimp only at hi hFi hNi
  refine .seq (.sm rfl (.m rfl (.q (.slen rfl Tryz.underlying24 rfl) rfl (.ui rfl rfl rfl (.nt (.condD rfl (fun h42 => ?_) (fun h42 => ?_)))))))
  ·have hi3 : i ≤ es.length := by omega
   have hvi := (hh.take i hi3).inv
   have hoi := hvi.ok
   have hwi := (hh.take i hi3).w (by rw [List.length_take]; omega)
   refine .sk (.seq (.block (.seq (.joinK (ι := Nat × Fz) (fun q E => (13, vptr q.1) :: (14, .bool q.2.all) :: E) (fun q => [treeR t (appL newT (es.take i)), fuzR q.1 t q.2]) (fun q => (b ≤ i → FzI es b i q.2) ∧ FzN (appL newT (es.take i)) q.2 (60 + 61 * i)) (pre := [treeR t (appL newT (es.take i)), fuzR f t φ]) (ts := [1, 2, 3, 10, 12, 15, 39, 40, 41, 42]) (.cons rfl (.cons rfl (.cons rfl (.cons rfl (.cons rfl (.cons rfl (.cons rfl (.cons rfl (.cons rfl (.cons rfl (.nil))))))))))) (by repeat' constructor) ?_ ?_))))
   ·refine .sm rfl (.m rfl (.ui rfl rfl rfl (.nt (.condD rfl (fun h47 => ?_) (fun h47 => ?_)))))
    ·refine .sm rfl (.oq (.c Tryz.func17 [_] (sbegin_spec t (appL newT (es.take i)))) ?_)
     rintro v L' ⟨f2, rfl, rfl⟩
     refine .an rfl (.region (.an rfl ?_))
     have hbi : i = b := by omega
     exact .mk ((f2, beginZ (appL newT (es.take i)))) (⟨fun _ => by subst hbi; exact FzI.begin hh hi3, FzN.begin hwi (by have := hoi.few; omega)⟩) ⟨rfl, rfl, rfl, rfl, rfl, rfl, rfl, rfl, rfl, rfl, rfl, rfl, trivial⟩
    refine .sk ?_
    exact .mk ((f, φ)) (⟨fun h => (hFi (by omega)).more (by omega), hNi⟩) ⟨rfl, rfl, rfl, rfl, rfl, rfl, rfl, rfl, rfl, rfl, rfl, rfl, trivial⟩
   rintro ⟨f3, φ1⟩ ⟨hF1, hN1⟩
   dsimp only
   dsimp only at hF1 hN1
   refine .seq (.joinK (ι := Fz) (fun q E => (14, .bool q.all) :: E) (fun q => [treeR t (appL newT (es.take i)), fuzR f3 t q]) (fun q => (b ≤ i → FzI es b i q) ∧ FzN (appL newT (es.take i)) q (60 + 61 * i)) (pre := [treeR t (appL newT (es.take i)), fuzR f3 t φ1]) (ts := [1, 2, 3, 10, 12, 13, 15, 39, 40, 41, 42]) (.cons rfl (.cons rfl (.cons rfl (.cons rfl (.cons rfl (.cons rfl (.cons rfl (.cons rfl (.cons rfl (.cons rfl (.cons rfl (.nil)))))))))))) (by repeat' constructor) ?_ ?_)
   ·refine .sm rfl (.m rfl (.ui rfl rfl rfl (.m rfl (.dec (t := 53) rfl (fun h15_53 => ?_) (fun h15_53 => ?_)))))
    ·refine .kDT (t := 52) rfl h15_53 (.grun (t := 53) rfl rfl rfl (.m rfl (.grun (t := 53) rfl rfl rfl (.q (.slen rfl Tryz.underlying45 rfl) rfl (.grun (t := 53) rfl rfl rfl (.ui rfl rfl rfl (.u (.pickT rfl rfl) (.nt (.condD rfl (fun h57 => ?_) (fun h57 => ?_))))))))))
     ·have hyl : 0 < ys.length := by omega
      have hyi : i % ys.length < ys.length := Nat.mod_lt _ hyl
      have hyr := hy3 _ (List.getElem_mem hyi)
      have hp6 := pickZ_range ys[i % ys.length] (n := 6) (by decide)
      refine .rdShape (p := p) hrdy (by repeat' constructor) (by omega) fun by1 oy e1 => ?_
      subst e1
      refine .seq (.sm rfl (.q (.as (v' := .bool false) (by rfl) (.ptreq rfl rfl Tryz.underlying47)) rfl (.nt (.condF rfl (.sk (.region (.m rfl (.m rfl (.m rfl (.m rfl (.q (.slen rfl Tryz.underlying45 rfl) rfl (.q (.as (v' := vint ((i % ys.length : Nat) : Int)) (by simp) (.remE rfl rfl (by omega) (by omega))) rfl (.q (.indexAddr rfl rfl el_45 (by omega)) rfl (.q (.loadRd (sz := 1) (j := (i % ys.length) * 1 + 0) (p := p) rfl ag_3 (by repeat' constructor) hrdy (by omega) ((flatMap_cell (f := fun z : Int => [vint z]) (sz := 1) (l := ys) (i := i % ys.length) (k := 0) (fun _ _ => rfl) (by omega) (by decide)).trans rfl)) rfl (.oq (.call Tryz.func16 rfl rfl (vs := [_, _]) rfl (pick8_spec _ _ hyr (by decide))) ?_)))))))))))))))
      rintro v L' ⟨rfl, rfl⟩
      refine .cv Tryz.func18 [_, _] (sstep_spec f3 t (appL newT (es.take i)) φ1 (pickZ ys[i % ys.length] 6) 60 (60 + 61 * i) hoi (by decide) hwi hN1 (by omega) (by omega) (by omega)) ?_
      refine .an rfl ?_
      exact .mk (fzStep (appL newT (es.take i)) (pickZ ys[i % ys.length] 6).toNat φ1) (⟨fun h => (hF1 h).step hh hi3 h _, FzN.step hwi hoi (by have := hoi.sfew; omega) _ hN1⟩) ⟨rfl, rfl, rfl, rfl, rfl, rfl, rfl, rfl, rfl, rfl, rfl, rfl, trivial⟩
     refine .sk ?_
     exact .mk (φ1) (⟨hF1, hN1⟩) ⟨rfl, rfl, rfl, rfl, rfl, rfl, rfl, rfl, rfl, rfl, rfl, rfl, trivial⟩
    refine .kDF (t := 52) rfl h15_53 (.gk (.gk (.gk (.u (.pickF rfl rfl) (.nt (.condF rfl (.sk ?_)))))))
    exact .mk (φ1) (⟨hF1, hN1⟩) ⟨rfl, rfl, rfl, rfl, rfl, rfl, rfl, rfl, rfl, rfl, rfl, rfl, trivial⟩
   rintro φ2 ⟨hF2, hN2⟩
   refine .sm rfl (.m rfl (.q (.slen rfl Tryz.underlying24 rfl) rfl (.ui rfl rfl rfl (.nt (.condD rfl (fun h73 => ?_) (fun h73 => ?_))))))
   ·have hi2 : i < es.length := by omega
    have hi : i ≤ es.length := hi3
    refine .slShape (T := 39) (sz := 11) (v := .slice au es.length cu) (xs := es.flatMap enC) (by repeat' constructor) (by omega) fun be be' e0 mbe _ => ?_
    simp only [Value.slice.injEq, true_and] at e0
    obtain ⟨rfl, rfl⟩ := e0
    refine .region (.m rfl (.m rfl (.m rfl (.q (.indexAddr rfl rfl el_24 (by omega)) rfl (.q (.loadRdA (sz := 11) (j := i * 11) (k := 11) (p := slR 39 11 _ es.length (es.flatMap enC)) (vs := enC es[i]) rfl ag_39 (by repeat' constructor) (fun h hp => slR_rd hp) (by simp) (by omega) (by omega) (flatMap_at (f := enC) (sz := 11) (fun _ _ => rfl) (by omega))) rfl (.oq (.c Tryz.func12 [_, _] (trapply_spec t (appL newT (es.take i)) es[i].zx es[i].ses es[i].xid es[i].x es[i].subs (ensA es) (hh.tx i hi2) 60 (hh.ok hi) (by have := hh.few hi2; omega))) ?_))))))
    rintro v L' ⟨ue, ee, rfl, he, hue, rfl⟩
    refine .nil (.blk_n (.then_n (.region (.m rfl (.q (.add rfl rfl (by omega)) rfl (.an rfl (.trCast (t := t) (τ' := appL newT (es.take (i + 1))) (by repeat' constructor) (by rw [appL_step _ hi2]; rfl) ?_)))))))
    exact .rk ((i + 1, f3, φ2)) (⟨by dsimp only; omega, fun h => by dsimp only at h ⊢; rw [Nat.add_sub_cancel]; exact hF2 (by omega), by rw [appL_step _ hi2]; exact (hN2.app es[i]).more (by have := hh.few hi2; omega)⟩) (by dsimp only; omega) ⟨rfl, rfl, rfl, rfl, rfl, rfl, rfl, rfl, trivial⟩
   refine .skip (.blk_n (.then_n (.region (.m rfl (.q (.add rfl rfl (by omega)) rfl (.an rfl (.trCast (t := t) (τ' := appL newT (es.take (i + 1))) (by repeat' constructor) (by rw [List.take_of_length_le (show es.length ≤ i + 1 by omega), List.take_of_length_le (show es.length ≤ i by omega)]) ?_)))))))
   exact .rk ((i + 1, f3, φ2)) (⟨by dsimp only; omega, fun h => by dsimp only at h ⊢; rw [Nat.add_sub_cancel]; exact hF2 (by omega), by dsimp only; rw [List.take_of_length_le (show es.length ≤ i + 1 by omega)]; have h := hN2.more (K := (60 + 61 * (i + 1))) (by omega); rw [List.take_of_length_le (show es.length ≤ i by omega)] at h; exact h⟩) (by dsimp only; omega) ⟨rfl, rfl, rfl, rfl, rfl, rfl, rfl, rfl, trivial⟩
  refine .exit (.then_e (.then_e (.blk_e (.then_n ?_))))
  have hii : i = es.length + 1 := by omega
  have hte : es.take i = es := List.take_of_length_le (by omega)
  refine .trCast (t := t) (τ' := τ) (by repeat' constructor) (by rw [hte]; exact hh.tree) ?_
  exact .mk ((f, φ)) (⟨by have h := hFi (by omega); rw [show i - 1 = es.length by omega] at h; exact h, by have h := hNi.more (K := 10000) (by omega); rw [hte, ← hh.tree] at h; exact h⟩) ⟨rfl, rfl, rfl, rfl, rfl, rfl, trivial⟩
 rintro ⟨f, φ⟩ ⟨hF, hNz⟩
 dsimp only
 dsimp only at hF hNz
 have hw := hh.w hl150
 refine .seq (.sm rfl (.q (.as (v' := .bool false) (by rfl) (.ptreq rfl rfl Tryz.underlying47)) rfl (.nt (.condF rfl (.sk (.seq (.joinK (ι := Fz) (fun q E => (14, .bool true) :: E) (fun q => [treeR t τ, fuzR f t q]) (fun q => q.all = true ∧ FzI es b es.length q ∧ FzN τ q 10000) (pre := [treeR t τ, fuzR f t φ]) (ts := [1, 3, 10, 12, 13]) (.cons rfl (.cons rfl (.cons rfl (.cons rfl (.cons rfl (.nil)))))) (by repeat' constructor) ?_ ?_)))))))
 ·refine .sr (.an rfl (.block (.fzCast (φ' := fzStep τ 0 φ) (by repeat' constructor) rfl (.loopK (ι := Nat) (fun q E => (16, vint q) :: (14, .bool (fzStep τ q φ).all) :: E) (fun q => [treeR t τ, fuzR f t (fzStep τ q φ)]) (fun q => q ≤ 300) (fun q => 300 - q) (0) (ts := [1, 3, 10, 12, 13]) (.cons rfl (.cons rfl (.cons rfl (.cons rfl (.cons rfl (.nil)))))) (Nat.zero_le _) ⟨rfl, rfl, rfl, rfl, rfl, rfl, rfl, trivial⟩ (by repeat' constructor) ?_))))
  rintro k hk
  have hNk := FzN.step hw hok (by have := hok.sfew; omega) k hNz
  have hψk : FzI es b es.length (fzStep τ k φ) := by have h := hF.step hh (Nat.le_refl _) hb k; rw [List.take_length, ← hh.tree] at h; exact h
  refine .seq (.sm rfl (.ui rfl rfl rfl (.m rfl (.dec (t := 84) rfl (fun h24_84 => ?_) (fun h24_84 => ?_)))))
  ·refine .kDT (t := 83) rfl h24_84 (.grun (t := 84) rfl rfl rfl (.m rfl (.grun (t := 84) rfl rfl rfl (.u (.not rfl) (.u (.pickT rfl rfl) (.nt (.condB rfl (fun h87 => ?_) (fun h87 => ?_))))))))
   ·refine .sk (.seq (.block (.region (.m rfl (.oq (.c Tryz.func18 [_, _] (sstep_spec f t τ (fzStep τ k φ) 1 60 10000 hok (by decide) hw hNk (by decide) (by decide) (by decide))) ?_)))))
    rintro v L' ⟨rfl, rfl⟩; rw [show (1 : Int).toNat = 1 from rfl, ← step_add]
    refine .a rfl (.nil (.blk_n (.then_n (.region (.m rfl (.q (.add rfl rfl (by omega)) rfl (.an rfl ?_)))))))
    exact .rk (k + 1) (by omega) (by omega) ⟨rfl, rfl, rfl, rfl, rfl, rfl, rfl, trivial⟩
   refine .exit (.then_e (.then_e (.blk_e (.then_n ?_))))
   have hal : (fzStep τ k φ).all = true := by simpa using h87
   refine .slotB (t := 14) (b := (fzStep τ k φ).all) (c := true) rfl hal ?_
   exact .mk ((fzStep τ k φ)) (⟨hal, hψk, hNk⟩) ⟨rfl, rfl, rfl, rfl, rfl, rfl, trivial⟩
  refine .kDF (t := 83) rfl h24_84 (.gk (.gk (.u (.pickF rfl rfl) (.nt (.condF rfl (.exit (.then_e (.then_e (.blk_e (.then_n ?_))))))))))
  have hal : (fzStep τ k φ).all = true := step_end hok k φ (by have := cnt_le (lastP φ.nds) τ.nodes; have := hok.few; omega)
  refine .slotB (t := 14) (b := (fzStep τ k φ).all) (c := true) rfl hal ?_
  exact .mk ((fzStep τ k φ)) (⟨hal, by have h := hψk; exact h, hNk⟩) ⟨rfl, rfl, rfl, rfl, rfl, rfl, trivial⟩
 rintro ψ ⟨hψa, hψF, hψN⟩
 have hfit : (textZ ψ).length ≤ 70368744177664 := text_len hψN (by decide)
 refine .seq (.sm rfl (.u (.not rfl) (.nt (.condF rfl (.sk (.seq (.fold (p := histP (.slice au es.length cu) es) (q := [slR 39 11 (.slice au es.length cu) es.length (es.flatMap enC), ensA es]) (by repeat' constructor) (fun _ hp => hp) (.histCap (by repeat' constructor) fun hcap => (.joinK (ι := Value × (List En)) (fun q E => (10, q.1) :: E) (fun q => []) (fun q => EntsB (histP (.slice au es.length cu) es) q.1 q.2 ∧ (q.2 = es ∨ q.2 = es.drop b)) (pre := []) (ts := [12, 13]) (.cons rfl (.cons rfl (.nil))) (by repeat' constructor) ?_ ?_)))))))))
 ·refine .sm rfl (.u (.not rfl) (.nt (.condB rfl (fun h95 => ?_) (fun h95 => ?_))))
  ·refine .region (.m rfl (.m rfl (.q (.to (v' := .slice (cutA au cu b 11) (es.length - b) (cu - b)) (.slFromO rfl el_24 rfl (by omega)) (by rw [Int.toNat_natCast])) rfl (.an rfl ?_))))
   exact .mk ((_, es.drop b)) (⟨hist_ents hh hes hb, .inr rfl⟩) ⟨rfl, rfl, rfl, trivial⟩
  refine .sk ?_
  exact .mk ((_, es)) (⟨hist_all hh hes, .inl rfl⟩) ⟨rfl, rfl, rfl, trivial⟩
 rintro ⟨u, fs⟩ ⟨hE, hfs⟩
 dsimp only
 dsimp only at hE hfs
 refine .sm rfl (.cv Tryz.func20 [_] (stext_spec f t τ ψ 60 10000 hok (by decide) hw hψN (by decide)) ?_)
 refine .m rfl (.oq (.c Tryz.func19 [_, _] (srestoreB_spec (textZ ψ) hfit _ fs (histP (.slice au es.length cu) es) hE)) ?_)
 rintro v L' (⟨g, rfl, rfl⟩ | ⟨υ, u9, g, rfl, rfl⟩)
 ·have hz : readZ (textZ ψ) = none := rest_none8 g
  refine .m rfl (.u (.extract rfl rfl) (.u (.extract rfl rfl) (.a rfl (.an rfl (.seq (.sm rfl (.cv Tryz.func20 [_] (stext_spec f t τ ψ 60 10000 hok (by decide) hw hψN (by decide)) ?_)))))))
  refine .oq (.c Tryz.func21 [_] (fmany8_spec (textZ ψ) hfit)) ?_
  rintro v L' ⟨nm, rfl, hnm, rfl⟩
  refine .q (.as (v' := .bool true) (by rcases hnm with ⟨-, e⟩ | ⟨τ9, e, -⟩; (rw [e]; rfl); (rw [hz] at e; cases e)) (.int rfl rfl rfl)) rfl (.nt (.condT rfl (.sr (.an rfl (.rt ?_)))))
  exact .vv
 obtain ⟨σ, hz, hσ⟩ := rest_some8 g
 obtain ⟨r1, r2, r3⟩ := hh.restored hl150 hb hψF hψa hz
 have hυ : τ = υ := by rw [← hσ]; rcases hfs with rfl | rfl; exact r2.symm; exact r3.symm
 subst hυ
 refine .m rfl (.u (.extract rfl rfl) (.u (.extract rfl rfl) (.a rfl (.an rfl (.seq (.sm rfl (.cv Tryz.func20 [_] (stext_spec f t τ ψ 60 10000 hok (by decide) hw hψN (by decide)) ?_)))))))
 refine .oq (.c Tryz.func21 [_] (fmany8_spec (textZ ψ) hfit)) ?_
 rintro v L' ⟨nm, rfl, hnm, rfl⟩
 refine .q (.as (v' := .bool false) (by rcases hnm with ⟨e, -⟩ | ⟨τ9, e, e2⟩; (rw [hz] at e; cases e); (rw [hz] at e; cases e; exact congrArg Value.bool (decide_eq_false (by omega)))) (.int rfl rfl rfl)) rfl (.nt (.condF rfl (.sk (.sm rfl (.q (.as (v' := .bool true) (by rfl) (.ptrne rfl rfl Tryz.underlying28)) rfl (.m rfl (.grun (t := 112) rfl rfl rfl (.m rfl (.grun (t := 112) rfl rfl rfl (.q (.as (v' := .bool true) (by rfl) (.int rfl rfl rfl)) rfl (.u (.pickT rfl rfl) (.m rfl (.grun (t := 116) rfl rfl rfl (.m rfl (.grun (t := 116) rfl rfl rfl (.m rfl (.grun (t := 116) rfl rfl rfl (.oq (.c Tryz.func15 [_, _] (trsame_spec u9 t τ τ 60 60 hok hok)) ?_))))))))))))))))))
 rintro v L' ⟨rfl, rfl⟩; rw [decide_eq_true rfl]
 refine .u (.pickT rfl rfl) (.an rfl (.ret ?_))
 exact .vv
open Go Go.ChangeShapes Go.WideShapes Go.ChangeAt Go.RowKit
section
variable {H : Type} {enc : TypeId × Value → H} {P : Program} {W W' : World}
theorem trodAll_old (hl : laidOutB P = true) (hb : Below W.heap.size W W') (sp : Nat → Bool) : ∀ (ts : List TypeId) (vs : List Value) (ds : List (DataW H)) (p : List MemPlace), (∀ t ∈ ts, P.readableRec t = true ∧ t < P.types.size) →
  DataW.TrodAll enc P W 0 (fun _ => true) true ts vs ds p → (∀ x ∈ p, x.block < W.heap.size) → (∀ x ∈ p, sp x.block = true) → DataW.TrodAll enc P W' 0 sp true ts vs ds p
 | [], vs, ds, p, _, h, _, _ => by
  obtain ⟨rfl, rfl, rfl⟩ := trodAll_nil h
  exact h
 | t :: ts, vs, ds, p, hr, h, hlt, hsp => by
  obtain ⟨v, vs1, d, ds1, a, b, rfl, rfl, rfl, h1, h2⟩ := trodAll_cons h
  have r := hr t (by simp)
  refine ⟨a, b, WideElems.Trod_stays hl r.1 r.2 h1 (fun x hx => hb.same (hlt x (by simp [hx]))) (fun x hx => hsp x (by simp [hx])), ?_, rfl⟩
  exact trodAll_old hl hb sp ts vs1 ds1 b (fun t ht => hr t (by simp [ht])) h2 (fun x hx => hlt x (by simp [hx])) (fun x hx => hsp x (by simp [hx]))
theorem settled {fn : Func} {s : ChangeSpec} {apart fresh handsOn again : Bool} {args : Array Value} {ds gs : List (DataW H)} {before : List MemPlace} {tb : TypeId}
  (hW : DataW.Whole enc P fn.params.toList s.vars apart W args.toList ds gs before) (hvars : s.vars = []) (hspec : ∀ gs', gs' = [] → s.fn H (ds ++ gs') = { results := [.lit (.bool true)], args := ds })
  (hres : fn.resultTypes = #[tb]) (htb : P.underlying tb = some .bool) (hl : laidOutB P = true) (hr : ∀ t ∈ fn.params.toList, P.readableRec t = true ∧ t < P.types.size) (hb : Below W.heap.size W W') :
  s.post enc P fn apart fresh handsOn again W args (.bool true) W' := by
 have hW' := hW
 have hlt := hW.lt
 obtain ⟨p, q, hA, hV, rfl, hfz, hnd⟩ := hW
 rw [hvars] at hV
 obtain ⟨rfl, rfl⟩ := trodVars_none hV
 have hs := hspec [] rfl
 have hargs : ∀ sp : Nat → Bool, (∀ x ∈ p, sp x.block = true) → DataW.TrodAll enc P W' 0 sp true fn.params.toList args.toList ds p := fun sp hsp =>
  trodAll_old hl hb sp _ _ _ _ hr hA (fun x hx => hlt x (by simp [hx])) hsp
 have hbool : ∀ (b : Nat) (sp : Nat → Bool) (hd : Bool), DataW.TrodAll enc P W' b sp hd fn.resultTypes.toList ((Value.bool true).resultList fn.resultTypes.size) [.lit (.bool true)] [] := by
  intro b sp hd
  rw [hres]
  exact trodAll_cons_mk (shut_bool htb _) trodAll_mk0
 refine ⟨ds, [], p ++ [], [], p, [], hW', ?_, ?_, ?_, hb.frame _, fun _ => ⟨ok_one hres rfl (okWide_bool_mk htb _), [.lit (.bool true)] ++ ds, [], p, ⟨p, [], ?_, ?_, by simp, ?_, ?_⟩, ?_⟩⟩
 ·rw [hs]; exact hbool _ _ _
 ·rw [hs]; exact hargs _ (fun x hx => by simpa using hlt x (by simp [hx]))
 ·rw [hs, hvars]; exact hV
 ·exact trodAll_append (hargs _ (fun _ _ => rfl)) (hbool _ _ _)
 ·rw [hvars]; exact hV
 ·intro b off hp
  rw [hb.frozen (p := ⟨b, off, none⟩) (hlt (.cell b off) (by simp [hp]))]
  exact hfz b off (by simp [hp])
 ·intro ha
  have := hnd ha
  simpa using this
 ·intro x hx _
  simp [hx]
theorem old_calls {f : FuncId} {args : Array Value} (h : Fn P f args [Old W] fun v L => v = .bool true ∧ L = [Old W]) :
  Calls P f args W fun e W' => e = .returned (.bool true) ∧ Below W.heap.size W W' := by
 have h0 : St [Old W] W := ⟨fun b => W.heap[b]?, fun _ => none, fun _ => .inr rfl, fun b o h => h, fun b o h => (by cases h), fun b hb => rfl, trivial⟩
 refine (h [] W h0).mono ?_
 rintro e W' ⟨v, L, ⟨rfl, rfl⟩, rfl, hs, hk⟩
 refine ⟨rfl, hk.os, hk.tape, hk.output, hk.size, fun k hk' => ?_⟩
 obtain ⟨h1, a1, hp⟩ := sep_head hs
 have e1 := hp k hk'
 have : ∃ o, W.heap[k]? = some o := ⟨_, Array.getElem?_eq_getElem hk'⟩
 obtain ⟨o, ho⟩ := this
 rw [ho] at e1 ⊢
 exact a1 _ _ e1
theorem old_rd {a : Addr} {len cap : Nat} {V : Nat → Value} (hc : ∀ i, i < len → W.cell? (a.add i) = some (V i)) (hle : len ≤ cap) : ∀ h : Hp, Old W h → rdS 1 h (.slice (some a) len cap) len ((List.range len).map V) := by
 intro h hold
 rcases Nat.eq_zero_or_pos len with rfl | hpos
 ·exact .inl ⟨rfl, rfl, some a, cap, rfl⟩
 ·obtain ⟨b, off, spot⟩ := a
  have h0 := hc 0 hpos
  have e0 : (⟨b, off, spot⟩ : Addr).add 0 = ⟨b, off, spot⟩ := by simp [Addr.add]
  rw [e0] at h0
  simp only [World.cell?] at h0
  rcases hw : W.heap[b]? with _ | o
  ·rw [hw] at h0; cases h0
  ·cases o with
   | cells c T fr =>
    rw [hw] at h0
    dsimp only at h0
    split at h0
    ·cases h0
    ·rename_i hsp
     have hspot : spot = none := by simpa using hsp
     subst hspot
     have hc' : ∀ i, i < len → c[off + i]? = some (V i) := by
      intro i hi
      have := hc i hi
      have e1 : (⟨b, off, none⟩ : Addr).add i = ⟨b, off + i, none⟩ := by
       simp only [Addr.add]; split
       ·rename_i h0; simp [h0]
       ·rfl
      rw [e1] at this
      simp only [World.cell?, hw] at this
      simpa using this
     have hlt : b < W.heap.size := by
      rcases Nat.lt_or_ge b W.heap.size with h' | h'
      ·exact h'
      ·rw [Array.getElem?_eq_none h'] at hw; cases hw
     have hlen : off + len ≤ c.size := by
      have := hc' (len - 1) (by omega)
      rcases Nat.lt_or_ge (off + (len - 1)) c.size with h' | h'
      ·omega
      ·rw [Array.getElem?_eq_none h'] at this; cases this
     refine .inr ⟨b, off, cap, c.toList, T, fr, rfl, by rw [hold b hlt, hw], ?_, by simpa using hlen, hle⟩
     apply List.ext_getElem?
     intro i
     rw [Nat.mul_one, List.getElem?_take, List.getElem?_map, List.getElem?_drop]
     split
     ·rename_i hi
      rw [List.getElem?_range hi]
      simpa using hc' i hi
     ·rename_i hi
      rw [List.getElem?_eq_none (by simpa using hi)]; rfl
   | _ => rw [hw] at h0; cases h0
theorem arg_int {t : TypeId} {r : Reach} {b0 : Nat} {v : Value} {d : DataW H} {ps : List MemPlace} (ht : P.underlying t = some (.int .i64)) (hval : Value.okWide P W r b0 t v)
  (h : DataW.Trod enc P W 0 (fun _ => true) true t v d ps) : ∃ n : Int, v = vint n ∧ d = .lit (.int .i64 n) ∧ -9223372036854775808 ≤ n ∧ n ≤ 9223372036854775807 := by
 obtain ⟨n, rfl, rfl, rfl, hwf⟩ := open_int ht hval h
 exact ⟨n, rfl, rfl, bounds_i64 hwf⟩
end
open Go Go.ChangeShapes Go.WideShapes Go.ChangeAt Go.RowKit
section
variable {H : Type} {enc : TypeId × Value → H} {P : Program} {W : World}
theorem string_vstr (s : ByteArray) : Value.string s = vstr s.data.toList := by cases s; rfl
end
open Go Go.ChangeShapes Go.WideShapes Go.ChangeAt Go.RowKit
section
variable {H : Type} {enc : TypeId × Value → H} {P : Program} {W : World}
theorem flat_at {α : Type} {sz : Nat} (f : Nat → List α) : ∀ n, (∀ i, i < n → (f i).length = sz) → ∀ j, j < n * sz → ((List.range n).flatMap f)[j]? = (f (j / sz))[j % sz]? ∧ ((List.range n).flatMap f).length = n * sz := by
 intro n
 induction n with
 | zero => intro _ j hj; omega
 | succ n ih =>
  intro hf j hj
  have hn := hf n (by omega)
  have hlen : ((List.range n).flatMap f).length = n * sz := by
   rcases Nat.eq_zero_or_pos (n * sz) with h0 | h0
   ·rcases Nat.eq_zero_or_pos n with h1 | h1
    ·subst h1; simp
    ·have : sz = 0 := by
      rcases Nat.eq_zero_or_pos sz with h2 | h2
      ·exact h2
      ·have := Nat.mul_pos h1 h2; omega
     subst this; omega
   ·exact (ih (fun i hi => hf i (by omega)) 0 h0).2
  have e : (List.range (n + 1)).flatMap f = (List.range n).flatMap f ++ f n := by simp [List.range_succ]
  have hm : (n + 1) * sz = n * sz + sz := by rw [Nat.add_mul, Nat.one_mul]
  rw [e]
  refine ⟨?_, by rw [List.length_append, hlen, hn, hm]⟩
  rcases Nat.lt_or_ge j (n * sz) with h | h
  ·rw [List.getElem?_append_left (by omega)]
   exact (ih (fun i hi => hf i (by omega)) j h).1
  ·rw [List.getElem?_append_right (by omega), hlen]
   have hs : 0 < sz := by omega
   have h1 : j / sz = n := by
    have : j < (n + 1) * sz := hj
    have a := Nat.div_lt_of_lt_mul (show j < sz * (n + 1) by rw [Nat.mul_comm]; exact this)
    have b := (Nat.le_div_iff_mul_le hs).2 h
    omega
   have h2 : j % sz = j - n * sz := by
    have := Nat.div_add_mod j sz
    rw [h1, Nat.mul_comm] at this; omega
   rw [h1, h2]
theorem rdS_regroup {sz n c c1 : Nat} {a : Option Addr} {ys : List Value} {h : Hp} (hr : rdS 1 h (.slice a (n * sz) c1) (n * sz) ys) (hc : n ≤ c) (hs : 0 < sz) : rdS sz h (.slice a n c) n ys := by
 rcases hr with ⟨h1, h2, -⟩ | ⟨b, off, cap, l, T, fr, hv, hb, h1, h2, h3⟩
 ·have : n = 0 := by
   rcases Nat.eq_zero_or_pos n with h0 | h0
   ·exact h0
   ·have := Nat.mul_pos h0 hs; omega
  subst this
  exact .inl ⟨rfl, h2, a, c, rfl⟩
 ·simp only [Value.slice.injEq] at hv
  obtain ⟨rfl, -, -⟩ := hv
  exact .inr ⟨b, off, c, l, T, fr, rfl, hb, by rw [← h1, Nat.mul_one], by rw [Nat.mul_one] at h2; exact h2, hc⟩
abbrev Reads (enc : TypeId × Value → H) (P : Program) (W : World) (fuel : Nat) (t : TypeId) (cs : List Value) (x : DataW H × List MemPlace) : Prop := DataW.trod enc P W 0 (fun _ => true) true fuel t cs = some x
theorem dec_int {t : TypeId} {fuel : Nat} {cs : List Value} {x : DataW H × List MemPlace} (ht : P.underlying t = some (.int .i64)) (h : Reads enc P W fuel t cs x) : ∃ n : Int, cs = [vint n] ∧ -9223372036854775808 ≤ n ∧ n ≤ 9223372036854775807 := by
 obtain ⟨n, rfl, -, hwf⟩ := DataW.trod_int ht h
 exact ⟨n, rfl, bounds_i64 hwf⟩
end
open Go Go.ChangeShapes Go.WideShapes Go.ChangeAt Go.RowKit
theorem bulk_pos {H : Type} (d : DataW H) : 1 ≤ Rows.uptoBulk d := by
 cases d with
 | lit l => cases l <;> simp [Rows.uptoBulk]
 | _ => simp [Rows.uptoBulk]
theorem bulk_part {H : Type} {d : DataW H} : ∀ {l : List (DataW H)}, d ∈ l → Rows.uptoBulk d ≤ Rows.uptoBulkAll l
 | x :: l, h => by
  unfold Rows.uptoBulkAll
  rcases List.mem_cons.1 h with rfl | h
  ·omega
  ·have := bulk_part h; omega
theorem bulk_count {H : Type} : ∀ l : List (DataW H), l.length ≤ Rows.uptoBulkAll l
 | [] => by simp
 | x :: l => by
  have h1 := bulk_pos x
  have h2 := bulk_count l
  unfold Rows.uptoBulkAll
  rw [List.length_cons]; omega
theorem bulk_agg {H : Type} {d : DataW H} {l : List (DataW H)} {N : Nat} (h : Rows.uptoBulk (.agg l) ≤ N) (hd : d ∈ l) : Rows.uptoBulk d ≤ N := by
 have := bulk_part hd
 simp only [Rows.uptoBulk] at h
 omega
theorem bulk_small {H : Type} {l : List (DataW H)} (h : Rows.uptoSmall H l = true) {d : DataW H} (hd : d ∈ l) : Rows.uptoBulk d ≤ 1048576 :=
 Nat.le_trans (bulk_part hd) (of_decide_eq_true h)
instance : Inhabited Value := ⟨.bool false⟩
section
variable {H : Type} {enc : TypeId × Value → H} {P : Program} {W : World} {N : Nat}
theorem dec_str {t : TypeId} {fuel : Nat} {cs : List Value} {x : DataW H × List MemPlace} (ht : P.underlying t = some .string) (h : Reads enc P W fuel t cs x) (hb : Rows.uptoBulk x.1 ≤ N) : ∃ s : List UInt8, cs = [vstr s] ∧ s.length ≤ N := by
 obtain ⟨s, rfl, rfl, -⟩ := DataW.trod_string ht h
 simp only [Rows.uptoBulk] at hb
 exact ⟨s.data.toList, by rw [string_vstr], by omega⟩
theorem dec_int' {t : TypeId} {fuel : Nat} {cs : List Value} {x : DataW H × List MemPlace} (ht : P.underlying t = some (.int .i64)) (h : Reads enc P W fuel t cs x) : ∃ n : Int, cs = [vint n] ∧ (-9223372036854775808 ≤ n ∧ n ≤ 9223372036854775807) := by
 obtain ⟨n, h1, h2⟩ := dec_int ht h; exact ⟨n, h1, h2⟩
theorem slice_cell {t e : TypeId} {fuel : Nat} {v : Value} {x : DataW H × List MemPlace} (ht : P.underlying t = some (.slice e)) (h : Reads enc P W fuel t [v] x) : isCell v = true := by
 rcases Go.Deep.open_slice ht h with ⟨hv, -⟩ | ⟨a, len, cap, m, n, Dd, Pl, hv, -⟩
 ·rw [List.cons.injEq] at hv; rw [hv.1]; rfl
 ·rw [List.cons.injEq] at hv; rw [hv.1]; rfl
theorem dec_sliceV {Z : Type} [Inhabited Z] (toC : Z → List Value) (Q : Z → Prop) {t e : TypeId} {sz : Nat} {fuel : Nat} {cs : List Value} {x : DataW H × List MemPlace} (ht : P.underlying t = some (.slice e)) (hc : P.cellsOf e = sz) (hs : 0 < sz)
  (hdec : ∀ (n : Nat) (cs : List Value) (y : DataW H × List MemPlace), Reads enc P W n e cs y → Rows.uptoBulk y.1 ≤ N → ∃ z, cs = toC z ∧ Q z) (h : Reads enc P W fuel t cs x) (hb : Rows.uptoBulk x.1 ≤ N + 1) :
  ∃ z : Value × List Z, cs = [z.1] ∧ (∀ h : Hp, Old W h → rdS sz h z.1 z.2.length (z.2.flatMap toC)) ∧ z.2.length ≤ N ∧ ∀ y ∈ z.2, Q y := by
 subst hc
 rcases Go.Deep.open_slice ht h with ⟨rfl, rfl⟩ | ⟨a, len, cap, m, n, Dd, Pl, rfl, -, hl, hm, hmm, rfl, hx⟩
 ·exact ⟨(_, []), rfl, fun h _ => .inl ⟨rfl, rfl, none, 0, rfl⟩, by simp, by simp⟩
 ·simp only [if_true] at hmm
  subst hmm
  have hbl : len ≤ N := by
   have := bulk_count ((List.range len).map Dd)
   simp only [Rows.uptoBulk] at hb
   rw [List.length_map, List.length_range] at this
   omega
  have hbe : ∀ i, i < len → Rows.uptoBulk (Dd i) ≤ N := fun i hi => by
   have := bulk_part (d := Dd i) (l := (List.range len).map Dd) (List.mem_map_of_mem (by simpa using hi))
   simp only [Rows.uptoBulk] at hb
   omega
  obtain ⟨Zf, hZ⟩ := Go.Deep.choose_lt (α := Z) (p := fun i z => W.cells? 0 (a.add (i * P.cellsOf e)) (P.cellsOf e) = some (toC z) ∧ Q z) (n := len) (fun i hi => by
   obtain ⟨cs', h1, h2⟩ := hx i (by omega)
   obtain ⟨z, rfl, h3⟩ := hdec _ _ _ h2 (hbe i hi)
   exact ⟨z, h1, h3⟩)
  have hlenf : ∀ i, i < len → (toC (Zf i)).length = P.cellsOf e := fun i hi => (World.cells?_some (hZ i hi).1).2.1
  have hflat := flat_at (fun i => toC (Zf i)) len hlenf
  refine ⟨(_, (List.range len).map Zf), rfl, ?_, ?_, ?_⟩
  ·intro h hold
   dsimp only
   rw [List.length_map, List.length_range]
   refine rdS_regroup (c1 := len * P.cellsOf e) ?_ hl hs
   have e1 : ((List.range len).map Zf).flatMap toC = (List.range (len * P.cellsOf e)).map (fun j => ((List.range len).flatMap fun i => toC (Zf i)).getD j (.bool false)) := by
    rw [List.flatMap_map]
    apply List.ext_getElem?
    intro j
    rcases Nat.lt_or_ge j (len * P.cellsOf e) with hj | hj
    ·rw [List.getElem?_map, List.getElem?_range hj]
     have := (hflat j hj).2
     have hjl : j < ((List.range len).flatMap fun i => toC (Zf i)).length := by omega
     simp only [Option.map_some, List.getD_eq_getElem?_getD, List.getElem?_eq_getElem hjl, Option.getD_some]
    ·have : ((List.range len).flatMap fun i => toC (Zf i)).length = len * P.cellsOf e := by
      rcases Nat.eq_zero_or_pos (len * P.cellsOf e) with h0 | h0
      ·have : len = 0 := by
        rcases Nat.eq_zero_or_pos len with h1 | h1
        ·exact h1
        ·have := Nat.mul_pos h1 hs; omega
       subst this; simp
      ·exact (hflat 0 h0).2
     rw [List.getElem?_eq_none (by omega), List.getElem?_eq_none (by simpa using hj)]
   rw [e1]
   refine old_rd (W := W) (fun j hj => ?_) (Nat.le_refl _) h hold
   have hi : j / P.cellsOf e < len := Nat.div_lt_of_lt_mul (by rw [Nat.mul_comm]; exact hj)
   have hcell := (World.cells?_some (hZ (j / P.cellsOf e) hi).1).2.2 (j % P.cellsOf e) (Nat.mod_lt _ hs)
   rw [Addr.add_add, Nat.mul_comm, Nat.div_add_mod] at hcell
   rw [hcell]
   obtain ⟨f1, f2⟩ := hflat j hj
   rw [List.getD_eq_getElem?_getD, f1]
   have : j % P.cellsOf e < (toC (Zf (j / P.cellsOf e))).length := by rw [hlenf _ hi]; exact Nat.mod_lt _ hs
   simp [this]
  ·dsimp only; rw [List.length_map, List.length_range]; exact hbl
  ·intro z hz
   obtain ⟨i, hi, rfl⟩ := List.mem_map.1 hz
   exact (hZ i (by simpa using hi)).2
theorem dec_sliceU {Z : Type} [Inhabited Z] (toC : Z → List Value) (Q : Z → Prop) {t e : TypeId} {sz : Nat} {fuel : Nat} {cs : List Value} {x : DataW H × List MemPlace} (ht : P.underlying t = some (.slice e)) (hc : P.cellsOf e = sz) (hs : 0 < sz)
  (hdec : ∀ (n : Nat) (cs : List Value) (y : DataW H × List MemPlace), Reads enc P W n e cs y → Rows.uptoBulk y.1 ≤ N → ∃ z, cs = toC z ∧ Q z) (h : Reads enc P W fuel t cs x) (hb : Rows.uptoBulk x.1 ≤ N) :
  ∃ z : Value × List Z, cs = [z.1] ∧ (∀ h : Hp, Old W h → rdS sz h z.1 z.2.length (z.2.flatMap toC)) ∧ z.2.length ≤ N ∧ ∀ y ∈ z.2, Q y :=
 dec_sliceV toC Q ht hc hs hdec h (by omega)
/-! ### With weights: what is read weighs no more than its bulk -/
end
end Go.Proofs.YtgppfpmmijbncaaGreatDoor
