/- Own work, some of it printed by program, texts that were built one by one: a part of the proof of snapTrees.proved. -/
import Derived.Test.YtgppfpmmijbncaaGreatDoorCSTreesP1
import Derived.Test.YtgppfpmmijbncaaGreatDoorCSTreesP0
import Derived.Sort.Walk0
set_option maxRecDepth 100000
namespace Go.Proofs.YtgppfpmmijbncaaGreatDoor
open Go
theorem trstat_spec (t : Nat) (τ : Tr) (p : Bs) (N : Nat) (ho : τ.Ok N) (hN : N ≤ 1099511627776) : Fn Tryz.prog 41 #[vptr t, vstr p] [treeR t τ] fun v L => v = .tuple #[.agg (stC (statD τ p)).toArray, .bool (decide (thereT τ p))] ∧ L = [treeR t τ] := by
 refine Fn.intro Tryz.func41 rfl rfl fun F W => ?_
 refine .trOpen (τ := τ) (by repeat' constructor) fun rn rs m s hI => ?_
 have hlen := hI.len ho
 have hfew := ho.few
 refine .sr (.oq (.allocA ze_92) ?_)
 rintro v L' ⟨b4, rfl, rfl⟩
 refine .an rfl (.sr ?_)
 rcases hal : alook m p with _ | px
 ·refine .m rfl (.nf rfl fo_98_0 (.u (.ld rfl ag_95) (.m rfl (.q (.lookupN (m := m) (enc := ndV) (KeyLaw.str Tryz.underlying9) (hal) rfl rfl Tryz.underlying95 ze_88 (by repeat' constructor) rfl) rfl (.an rfl (.seq (.sm rfl (.q (.as (v' := .bool true) (by rfl) (.ptreq rfl rfl Tryz.underlying88)) rfl (.nt (.condT rfl (.sr (.q (.build (us := []) fl_92 ze_92 rfl rfl (by simp [isCell])) rfl (.oq (.storeA rfl rfl ?c12 sz_92 ?c15 ?c13 (nfz0 _ _)) ?_)))))))))))))
  case c12 => (first | (simp [isCell]; done) | (simp [isCell, setAll, Value.cells]; done))
  case c15 => (first | (simp; done) | (simp [setAll, spl, Value.cells]; done))
  case c13 => (first | (simp; done) | (simp [setAll, spl, Value.cells]; done))
  rintro v L' rfl
  refine .an rfl (.rt (.ptCast (b := b4) (l' := stC (statD τ p)) (by repeat' constructor) (by rw [hI.stat0 hal]; rfl) (.trFold (τ := τ) hI (by repeat' constructor) rfl rfl rfl ?_)))
  exact .d2 rfl (.cellA rfl ag_92 (by repeat' constructor) (by simp [stC]) rfl) (.tmp rfl) ⟨by rw [decide_eq_false (hI.none_iff.1 hal)]; rfl, rfl⟩
 refine .m rfl (.nf rfl fo_98_0 (.u (.ld rfl ag_95) (.m rfl (.q (.lookupY (m := m) (enc := ndV) (KeyLaw.str Tryz.underlying9) (hal) rfl rfl Tryz.underlying95 ze_88 (by repeat' constructor) rfl) rfl (.an rfl (.seq (.sm rfl (.q (.as (v' := .bool false) (by rfl) (.ptreq rfl rfl Tryz.underlying88)) rfl (.nt (.condF rfl (.sk (.seq (.bigTake hal (by repeat' constructor) (.ndOpen (x := (p, px)) (by repeat' constructor) (.region (.m rfl (.nf rfl fo_94_2 (.q (.loadAs (vs := stC px.2.2.st) rfl ag_92 (by repeat' constructor) (by simp [ndC]) rfl) rfl (.oq (.allocA ze_92) ?_)))))))))))))))))))
 rintro v L' ⟨b7, rfl, rfl⟩
 refine .oq (.storeA rfl rfl ?c30 sz_92 ?c33 ?c31 (nfz0 _ _)) ?_
 case c30 => intro v hv; simp only [stC, List.mem_cons, List.not_mem_nil, or_false] at hv; rcases hv with rfl | rfl | rfl | rfl | rfl | rfl | rfl | rfl | rfl <;> rfl
 case c33 => rfl
 case c31 => simp [stC]
 rintro v L' rfl
 refine .nil (.ptCast (b := b7) (l' := stC px.2.2.st) (by repeat' constructor) rfl (.then_n (.seq (.draw [7, 10, 12] [[0, 1, 2, 3, 4, 5, 6, 9, 7, 8, 10], [11, 12]] mixed (by kernel_rfl) (.go [ptc px.1 _ _] (by repeat' constructor) (.k rfl (.move rfl) (.k rfl (.nilp rfl) (.k rfl (.fieldAddr rfl fo_94_0) (.k rfl (.ld rfl ag_9) (.k rfl (.strlen rfl Tryz.underlying9 rfl) (.mv rfl rfl (.mv rfl rfl (.k rfl (.fieldAddr rfl fo_92_7) (.hh rfl (.c Tryz.func96 [_, _] (trkids0_spec t rn (.map (some rs)) (vint τ.zx) m p (hI.plen ho) (by omega))) ?_))))))))))))))
 rintro v L' ⟨⟨a5, c5, rfl⟩, rfl⟩
 refine D.k rfl (.slen rfl Tryz.underlying54 rfl) (.hh rfl (.store rfl rfl rfl sz_3 ?c45 (nfz0 _ _)) ?_)
 case c45 => simp [stC]
 rintro v L' rfl
 refine D.ph (.g0 (.kv rfl (.fieldAddr rfl fo_92_8) (.hh rfl (.store rfl rfl rfl sz_3 ?c49 (nfz0 _ _)) ?_)))
 case c49 => simp [stC]
 rintro v L' rfl
 refine D.ph (.fin (.ptCast (b := b7) (l' := stC (statD τ p)) (by repeat' constructor) (by rw [hI.stat hal, ← hI.kids ho p, sortS_length]; rfl) (.then_n (.sr (.q (.loadAs (vs := stC (statD τ p)) rfl ag_92 (by repeat' constructor) (by simp [stC]) rfl) rfl (.oq (.storeA rfl rfl ?c53 sz_92 ?c56 ?c54 (nfz0 _ _)) ?_))))))
 case c53 => intro v hv; simp only [stC, List.mem_cons, List.not_mem_nil, or_false] at hv; rcases hv with rfl | rfl | rfl | rfl | rfl | rfl | rfl | rfl | rfl <;> rfl
 case c56 => rfl
 case c54 => simp [stC]
 rintro v L' rfl
 refine .an rfl (.ret (.ptCast (b := b4) (l' := stC (statD τ p)) (by repeat' constructor) rfl (.ndFold (x := (p, px)) (by repeat' constructor) rfl rfl rfl rfl (.bigPut (f := inN) (m := m) p px rfl (by repeat' constructor) ?_))))
 rw [aset_self hal]
 refine .trFold (τ := τ) hI (by repeat' constructor) rfl rfl rfl ?_
 exact .d2 rfl (.cellA rfl ag_92 (by repeat' constructor) (by simp [stC]) rfl) (.tmp rfl) ⟨by rw [decide_eq_true (hI.some_iff hal)]; rfl, rfl⟩
theorem trget_spec (t : Nat) (τ : Tr) (p : Bs) (N : Nat) (ho : τ.Ok N) (hN : N ≤ 1099511627776) : Fn Tryz.prog 64 #[vptr t, vstr p] [treeR t τ] fun v L => v = .tuple #[vstr (dataD τ p), .agg (stC (statD τ p)).toArray, vint (if thereT τ p then 0 else 60)] ∧ L = [treeR t τ] := by
 refine Fn.intro Tryz.func64 rfl rfl fun F W => ?_
 refine .sr (.a rfl (.oq (.allocA ze_92) ?_))
 rintro v L' ⟨b5, rfl, rfl⟩
 refine .an rfl (.sm rfl (.m rfl (.cv Tryz.func41 [_, _] (trstat_spec t τ p N ho hN) ?_)))
 refine .m rfl (.u (.extract rfl rfl) (.u (.extract rfl rfl) (.oq (.allocA ze_92) ?_)))
 rintro v L' ⟨b7, rfl, rfl⟩
 refine .oq (.storeA rfl rfl ?c13 sz_92 ?c16 ?c14 (nfz0 _ _)) ?_
 case c13 => intro v hv; simp only [stC, List.mem_cons, List.not_mem_nil, or_false] at hv; rcases hv with rfl | rfl | rfl | rfl | rfl | rfl | rfl | rfl | rfl <;> rfl
 case c16 => rfl
 case c14 => simp [stC]
 rintro v L' rfl
 refine .a rfl (.nil (.ptCast (b := b7) (l' := stC (statD τ p)) (by repeat' constructor) rfl (.then_n (.seq (.sm rfl (.u (.not rfl) (.nt (.condN rfl (fun h16 => ?_) (fun h16 => ?_)))))))))
 ·refine .sr (.q (.build (us := []) fl_92 ze_92 rfl rfl (by simp [isCell])) rfl (.a rfl (.oq (.storeA rfl rfl ?c21 sz_92 ?c24 ?c22 (nfz0 _ _)) ?_)))
  case c21 => (first | (simp [isCell]; done) | (simp [isCell, setAll, Value.cells]; done))
  case c24 => (first | (simp; done) | (simp [setAll, spl, Value.cells]; done))
  case c22 => (first | (simp; done) | (simp [setAll, spl, Value.cells]; done))
  rintro v L' rfl
  refine .an rfl (.rt (.ptCast (b := b5) (l' := stC (statD τ p)) (by repeat' constructor) (by rw [show statD τ p = st0 by unfold statD statZ; unfold thereT at h16; cases e : alook τ.nodes p with | none => rfl | some y => rw [e] at h16; exact absurd rfl h16]; rfl) ?_))
  exact .done3 rfl (.tmp rfl) (.cellA rfl ag_92 (by repeat' constructor) (by simp [stC]) rfl) (.tmp rfl) ⟨by rw [if_neg h16, show dataD τ p = [] by unfold dataD; unfold thereT at h16; cases e : alook τ.nodes p with | none => rfl | some y => rw [e] at h16; exact absurd rfl h16]; rfl, rfl⟩ (by repeat' constructor) (by repeat' constructor)
 refine .sk (.seq (.trOpen (τ := τ) (by repeat' constructor) fun rn rs m s hI => ?_))
 obtain ⟨px, hal⟩ : ∃ px, alook m p = some px := by rcases h : alook m p with _ | y; exact absurd h16 (hI.none_iff.1 h); exact ⟨y, rfl⟩
 refine .bigTake hal (by repeat' constructor) (.ndOpen (x := (p, px)) (by repeat' constructor) (.draw [11] [[0, 1, 2, 3, 4, 5, 6, 7, 8, 9, 10, 11], [12]] mixed (by kernel_rfl) (.g0 (.mv rfl rfl (.nf rfl rfl rfl fo_98_0 (.kv rfl (.ld rfl ag_95) (.mv rfl rfl (.kv rfl (.lookupY (m := m) (enc := ndV) (KeyLaw.str Tryz.underlying9) (hal) rfl rfl Tryz.underlying95 ze_88 (by repeat' constructor) rfl) (.nf rfl rfl rfl fo_94_0 (.kv rfl (.ld rfl ag_9) (.kv rfl (.loadAs (vs := stC (statD τ p)) rfl ag_92 (by repeat' constructor) (by simp [stC]) rfl) (.kv rfl (.assign rfl) (.hh rfl (.storeA rfl rfl ?c37 sz_92 ?c40 ?c38 (nfz0 _ _)) ?_)))))))))))))
 case c37 => intro v hv; simp only [stC, List.mem_cons, List.not_mem_nil, or_false] at hv; rcases hv with rfl | rfl | rfl | rfl | rfl | rfl | rfl | rfl | rfl <;> rfl
 case c40 => rfl
 case c38 => simp [stC]
 rintro v L' rfl
 refine D.ph (.g0 (.kv rfl (.assign rfl) (.pf (.ret (.ptCast (b := b5) (l' := stC (statD τ p)) (by repeat' constructor) rfl (.ndFold (x := (p, px)) (by repeat' constructor) rfl rfl rfl rfl (.bigPut (f := inN) (m := m) p px rfl (by repeat' constructor) ?_)))))))
 rw [aset_self hal]
 refine .trFold (τ := τ) hI (by repeat' constructor) rfl rfl rfl ?_
 exact .done3 rfl (.tmp rfl) (.cellA rfl ag_92 (by repeat' constructor) (by simp [stC]) rfl) (.tmp rfl) ⟨by rw [if_pos h16, show dataD τ p = px.2.2.data by unfold dataD; rw [hI.at hal]; rfl]; rfl, rfl⟩ (by repeat' constructor) (by repeat' constructor)
theorem aclequal_spec (va vb : Value) (xs ys : List Ac) (hn : xs.length ≤ 1048576) : Fn Tryz.prog 46 #[va, vb] [rdO 2 va xs.length (xs.flatMap acC), rdO 2 vb ys.length (ys.flatMap acC)] fun v L => v = .bool (decide (xs = ys)) ∧ L = [rdO 2 va xs.length (xs.flatMap acC), rdO 2 vb ys.length (ys.flatMap acC)] := by
 refine Fn.intro Tryz.func46 rfl rfl fun F W => ?_
 refine .rdAny (p := rdO 2 va xs.length (xs.flatMap acC)) (fun h hp => hp) (by repeat' constructor) fun aa ca e0 _ => ?_
 subst e0
 refine .rdAny (p := rdO 2 vb ys.length (ys.flatMap acC)) (fun h hp => hp) (by repeat' constructor) fun ab cb e0 _ => ?_
 subst e0
 refine .sr (.an rfl (.seq (.sm rfl (.q (.slen rfl Tryz.underlying34 rfl) rfl (.m rfl (.q (.slen rfl Tryz.underlying34 rfl) rfl (.ui rfl rfl rfl (.nt (.condN rfl (fun h10 => ?_) (fun h10 => ?_))))))))))
 ·refine .sr (.an rfl (.rt ?_))
  exact .dn rfl rfl ⟨by rw [decide_eq_false (fun e => h10 (by rw [e]))], rfl⟩
 have hlen : xs.length = ys.length := by omega
 refine .sk (.seq (.sm rfl (.q (.slen rfl Tryz.underlying34 rfl) rfl (.m rfl (.nt (.block (.loopK (ι := Nat) (fun q E => (13, vint q) :: E) (fun q => []) (fun q => q ≤ xs.length ∧ xs.take q = ys.take q) (fun q => xs.length - q) (0) (ts := [0, 1, 12]) (.cons rfl (.cons rfl (.cons rfl (.nil)))) (⟨Nat.zero_le _, rfl⟩) ⟨rfl, rfl, rfl, rfl, trivial⟩ (by repeat' constructor) ?_)))))))
 rintro i ⟨hi, hpre⟩
 refine .sr (.ui rfl rfl rfl (.nt (.seq (.condD rfl (fun h14 => ?_) (fun h14 => ?_)))))
 ·have hi2 : i < xs.length := by omega
  have hi3 : i < ys.length := by omega
  refine .rdShape (p := rdO 2 _ xs.length (xs.flatMap acC)) (fun h hp => hp) (by repeat' constructor) (by omega) fun ba oa e0 => ?_
  subst e0
  refine .rdShape (p := rdO 2 (.slice ab ys.length cb) ys.length (ys.flatMap acC)) (fun h hp => hp) (by repeat' constructor) (by omega) fun bb ob e0 => ?_
  subst e0
  refine .sk (.seq (.block (.sm rfl (.an rfl (.seq (.draw [] [[0, 1, 2, 3, 4, 5, 6, 7, 8]] mixed (by kernel_rfl) (.g0 (.mv rfl rfl (.mv rfl rfl (.kv rfl (.indexAddr rfl rfl el_34 (by omega)) (.kv rfl (.loadRdA (sz := 2) (j := i * 2) (k := 2) (p := rdO 2 _ xs.length (xs.flatMap acC)) (vs := acC xs[i]) rfl ag_90 (by repeat' constructor) (fun h hp => hp) (by simp) (by omega) (by omega) (flatMap_at (f := acC) (sz := 2) (fun _ _ => rfl) (by omega))) (.mv rfl rfl (.mv rfl rfl (.kv rfl (.indexAddr rfl rfl el_34 (by omega)) (.kv rfl (.loadRdA (sz := 2) (j := i * 2) (k := 2) (p := rdO 2 _ ys.length (ys.flatMap acC)) (vs := acC ys[i]) rfl ag_90 (by repeat' constructor) (fun h hp => hp) (by simp) (by omega) (by omega) (flatMap_at (f := acC) (sz := 2) (fun _ _ => rfl) (by omega))) ?_)))))))))))))))
  refine D.kv rfl (.structNe (r := decide (xs[i] = ys[i])) rfl rfl (by kernel_rfl) (ac_eq 9998 _ _)) (.pf (.condN rfl (fun h24 => ?_) (fun h24 => ?_)))
  ·refine .sr (.an rfl (.ret (.blk_r (.then_r (.then_r (.blk_r (.then_r ?_)))))))
   exact .dn rfl rfl ⟨by rw [decide_eq_false (fun e => h24 (by simp only [e]))], rfl⟩
  refine .skip (.blk_n (.then_n (.region (.q (.add rfl rfl (by omega)) rfl (.m rfl (.nt ?_))))))
  exact .rk (i + 1) (⟨by omega, by rw [List.take_succ_eq_append_getElem hi2, List.take_succ_eq_append_getElem hi3, hpre, h24]⟩) (by omega) ⟨rfl, rfl, rfl, rfl, trivial⟩
 refine .exit (.then_e (.then_e (.blk_e (.then_n (.sr (.an rfl (.ret ?_)))))))
 exact .dn rfl rfl ⟨by rw [decide_eq_true (by have hii : i = xs.length := (by omega); rw [hii, List.take_length] at hpre; rw [hlen, List.take_length] at hpre; exact hpre)], rfl⟩
theorem nd_ext {a b : Nd} (h1 : a.data = b.data) (h2 : a.acl = b.acl) (h3 : a.st = b.st) : a = b := by cases a; cases b; cases h1; cases h2; cases h3; rfl
theorem trsame1_spec (a b : Bs) (px py : Nm) (hn : px.2.2.acl.length ≤ 1048576) : Fn Tryz.prog 45 #[vptr px.1, vptr py.1] [inN (a, px), inN (b, py)] fun v L => v = .bool (decide (px.2.2 = py.2.2)) ∧ L = [inN (a, px), inN (b, py)] := by
 refine Fn.intro Tryz.func45 rfl rfl fun F W => ?_
 refine .ndOpen (x := (a, px)) (by repeat' constructor) (.ndOpen (x := (b, py)) (by repeat' constructor) (.sr (.an rfl (.seq (.draw [] [[0, 1, 2, 3, 4, 5, 6, 7, 8, 9, 10, 11, 12, 13, 14, 15, 16, 17, 18, 19, 20, 21, 22, 23, 24, 25, 26, 27, 28, 29, 30, 31]] mixed (by kernel_rfl) (.go [ptc px.1 _ _, ptc py.1 _ _, rdO 2 px.2.1 _ _, rdO 2 py.2.1 _ _] (by repeat' constructor) (.mv rfl rfl (.nf rfl rfl rfl fo_94_0 (.kv rfl (.ld rfl ag_9) (.mv rfl rfl (.nf rfl rfl rfl fo_94_0 (.kv rfl (.ld rfl ag_9) (.kv rfl (.streq rfl rfl) (.mv rfl rfl (.dec (t := 14) rfl (fun h1_14 => ?_) (fun h1_14 => ?_))))))))))))))))
 ·refine D.kDT (t := 13) rfl h1_14 (.gv rfl (.move rfl) (.gv rfl (.nilp rfl) (.gv rfl (.fieldAddr rfl fo_94_2) (.gv rfl (.loadAs (vs := stC px.2.2.st) rfl ag_92 (by repeat' constructor) (by simp [ndC]) rfl) (.gv rfl (.move rfl) (.gv rfl (.nilp rfl) (.gv rfl (.fieldAddr rfl fo_94_2) (.gv rfl (.loadAs (vs := stC py.2.2.st) rfl ag_92 (by repeat' constructor) (by simp [ndC]) rfl) (.gv rfl (.structEq (r := decide (px.2.2.st = py.2.2.st)) rfl rfl (by kernel_rfl) (st_eq 9998 _ _)) (.kv rfl (.pickT rfl rfl) (.mv rfl rfl (.dec (t := 25) rfl (fun h1_25 => ?_) (fun h1_25 => ?_)))))))))))))
  ·refine D.kDT (t := 23) rfl h1_25 (.kDT (t := 24) rfl h1_25 (.gv rfl (.move rfl) (.gv rfl (.nilp rfl) (.gv rfl (.fieldAddr rfl fo_94_1) (.gv rfl (.ld rfl ag_34) (.gv rfl (.move rfl) (.gv rfl (.nilp rfl) (.gv rfl (.fieldAddr rfl fo_94_1) (.gv rfl (.ld rfl ag_34) (.gm (t := 25) rfl rfl rfl (by kernel_rfl) (.c Tryz.func46 [_, _] (aclequal_spec px.2.1 py.2.1 px.2.2.acl py.2.2.acl hn)) (by repeat' constructor) ?_))))))))))
   refine D.kv rfl (.pickT rfl rfl) (.kv rfl (.assign rfl) (.pf (.ret (.ndFold (x := (a, px)) (by repeat' constructor) rfl rfl rfl rfl (.ndFold (x := (b, py)) (by repeat' constructor) rfl rfl rfl rfl ?_)))))
   exact .dn rfl rfl ⟨by congr 1; exact decide_eq_decide.2 ⟨fun e => nd_ext h1_14 e h1_25, fun e => by rw [e]⟩, rfl⟩
  refine D.kDF (t := 23) rfl h1_25 (.kDF (t := 24) rfl h1_25 (.gz rfl (.gz rfl (.gz rfl (.gz rfl (.gz rfl (.gz rfl (.gz rfl (.gz rfl (.gz rfl (.kv rfl (.pickF rfl rfl) (.kv rfl (.assign rfl) (.pf (.ret (.ndFold (x := (a, px)) (by repeat' constructor) rfl rfl rfl rfl (.ndFold (x := (b, py)) (by repeat' constructor) rfl rfl rfl rfl ?_))))))))))))))))
  exact .dn rfl rfl ⟨by rw [decide_eq_false (fun e => h1_25 (by rw [e]))], rfl⟩
 refine D.kDF (t := 13) rfl h1_14 (.gz rfl (.gz rfl (.gz rfl (.gz rfl (.gz rfl (.gz rfl (.gz rfl (.gz rfl (.gz rfl (.kv rfl (.pickF rfl rfl) (.mv rfl rfl (.gz rfl (.gz rfl (.gz rfl (.gz rfl (.gz rfl (.gz rfl (.gz rfl (.gz rfl (.gz rfl (.kv rfl (.pickF rfl rfl) (.kv rfl (.assign rfl) (.pf (.ret (.ndFold (x := (a, px)) (by repeat' constructor) rfl rfl rfl rfl (.ndFold (x := (b, py)) (by repeat' constructor) rfl rfl rfl rfl ?_))))))))))))))))))))))))))
 exact .dn rfl rfl ⟨by rw [decide_eq_false (fun e => h1_14 (by rw [e]))], rfl⟩
theorem ss_eq (d : Nat) (a b : Int × Bs) : EqAt Tryz.prog (d + 2) 100 (ssV a) (ssV b) (decide (a = b)) := by
 have h := EqAt.struct (d := d + 1) (xs := [vint a.1, vstr a.2]) (ys := [vint b.1, vstr b.2]) Tryz.underlying100 (by kernel_rfl)
  (.cons (FEq.cell (by decide) ag_3 rfl rfl (EqAt.int Tryz.underlying3 a.1 b.1)) (.cons (FEq.cell (by decide) ag_9 rfl rfl (EqAt.str Tryz.underlying9 a.2 b.2)) .nil))
 have e : ([decide (a.1 = b.1), decide (a.2 = b.2)].all id) = decide (a = b) := by
  obtain ⟨a1, a2⟩ := a; obtain ⟨b1, b2⟩ := b
  simp [Bool.decide_and]
 rw [← e]; exact h
theorem al_len_of {K β : Type} [DecidableEq K] {a b : List (K × β)} (ha : (a.map (·.1)).Nodup) (hb : (b.map (·.1)).Nodup) (h : ∀ i, alook a i = alook b i) : a.length = b.length := (al_ext_perm ha hb h).length_eq
theorem eq_of_all {K β : Type} [DecidableEq K] {a b : List (K × β)} (ha : (a.map (·.1)).Nodup) (hl : a.length = b.length) (h : ∀ x ∈ a, alook b x.1 = some x.2) : ∀ i, alook a i = alook b i := fun i => by
 rcases e : alook a i with _ | y
 ·exact (keys_same ha hl (fun x hx => by rw [h x hx]; rfl) e).symm
 ·exact (h (i, y) (al_mem e)).symm
theorem mapseq_spec (r1 r2 : Nat) (s1 s2 : SsM) (hn1 : (s1.map (·.1)).Nodup) (hn2 : (s2.map (·.1)).Nodup) : Fn Tryz.prog 43 #[.map (some r1), .map (some r2)] [mapR r1 (ssE s1), mapR r2 (ssE s2)] fun v L => ∃ b, v = .bool b ∧ (b = true ↔ ∀ i, alook s1 i = alook s2 i) ∧ L = [mapR r1 (ssE s1), mapR r2 (ssE s2)] := by
 refine Fn.intro Tryz.func43 rfl rfl fun F W => ?_
 refine .sr (.an rfl (.seq (.sm rfl (.q (.to (.maplen rfl Tryz.underlying96 rfl (by repeat' constructor)) (show _ = vint s1.length by simp [ssE])) rfl (.m rfl (.q (.to (.maplen rfl Tryz.underlying96 rfl (by repeat' constructor)) (show _ = vint s2.length by simp [ssE])) rfl (.ui rfl rfl rfl (.nt (.condN rfl (fun h13 => ?_) (fun h13 => ?_))))))))))
 ·refine .sr (.an rfl (.rt ?_))
  exact .dn rfl rfl ⟨false, rfl, ⟨fun e => (by cases e), fun e => absurd (al_len_of hn1 hn2 e) (by omega)⟩, rfl⟩
 refine .sk (.seq (.sm rfl (.oq (.range (f := fun x : Int × (Int × Bs) => (vint x.1, ssV x.2)) (m := s1) rfl Tryz.underlying96 ?he9) ?_)))
 case he9 => rfl
 rintro v L' ⟨it, rfl, rfl⟩
 refine .nt (.block (.loopK (ι := SsM) (fun q E => E) (fun q => [rangeR (fun x : Int × (Int × Bs) => (vint x.1, ssV x.2)) it r1 s1 q]) (fun q => (∀ x ∈ q, alook s2 x.1 = some x.2) ∧ ∃ rest, s1.Perm (q ++ rest)) (fun q => s1.length - q.length) ([]) (ts := [1, 15]) (.cons rfl (.cons rfl (.nil))) (⟨by simp, s1, .refl _⟩) ⟨rfl, rfl, trivial⟩ (by repeat' constructor) ?_))
 rintro ss ⟨hall, rest, hm⟩
 have hml := hm.length_eq
 rw [List.length_append] at hml
 refine .sr (.oq (.next rfl) ?_)
 rintro v L' (⟨rfl, hp4, rfl⟩ | ⟨x, rest4, rfl, hp4, rfl⟩)
 ·refine .rangeDone (by repeat' constructor) (.u (.extract rfl rfl) (.nt (.seq (.condF rfl (.exit (.then_e (.then_e (.blk_e (.then_n (.sr (.an rfl (.ret ?_))))))))))))
  exact .dn rfl rfl ⟨true, rfl, ⟨fun _ => eq_of_all hn1 (by omega) (fun x hx => hall x (hp4.mem_iff.1 hx)), fun _ => rfl⟩, rfl⟩
 refine .u (.extract rfl rfl) (.nt (.seq (.condT rfl (.sk (.block (.sr (.q (.entryE (v := .tuple #[vint x.1, ssV x.2]) rfl (by repeat' constructor) rfl) rfl (.u (.extract rfl rfl) (.u (.extract rfl rfl) (.oq (.allocA ze_100) ?_))))))))))
 rintro v L' ⟨b6, rfl, rfl⟩
 refine .a rfl (.oq (.storeA (vs := [vint x.2.1, vstr x.2.2]) rfl rfl ?c123 sz_100 rfl ?c224 (nfz0 _ _)) ?_)
 case c123 => (first | (simp [isCell]; done) | (simp [isCell, setAll, Value.cells]; done))
 case c224 => (first | (simp; done) | (simp [setAll, spl, Value.cells]; done))
 rintro v L' rfl
 refine .nil (.ptCast (b := b6) (l' := [vint x.2.1, vstr x.2.2]) (by repeat' constructor) rfl ?_)
 have hxm : x ∈ s1 := hp4.mem_iff.2 (by simp)
 have hx1 := al_of_mem (k := x.1) (b := x.2) hn1 hxm
 refine .then_n (.sr ?_)
 rcases hy2 : alook s2 x.1 with _ | y
 ·refine .m rfl (.m rfl (.q (.lookupOkN (m := s2) (enc := ssV) (KeyLaw.int Tryz.underlying3) hy2 rfl rfl Tryz.underlying96 ze_100 (by repeat' constructor) rfl) rfl (.m rfl (.u (.extract rfl rfl) (.u (.extract rfl rfl) (.oq (.allocA ze_100) ?_))))))
  rintro v L' ⟨b7, rfl, rfl⟩
  refine .oq (.storeA (vs := [.int .i64 0, .string (bs [])]) rfl rfl ?c133 sz_100 rfl ?c234 (nfz0 _ _)) ?_
  case c133 => (first | (simp [isCell]; done) | (simp [isCell, setAll, Value.cells]; done))
  case c234 => (first | (simp; done) | (simp [setAll, spl, Value.cells]; done))
  rintro v L' rfl
  refine .an rfl (.sm rfl (.u (.not rfl) (.m rfl (.gk (.gk (.gk (.u (.pickT rfl rfl) (.nt (.condT rfl (.sr (.an rfl (.ret (.blk_r (.then_r (.blk_r (.then_r (.rangeDone (by repeat' constructor) ?_)))))))))))))))))
  exact .dn rfl rfl ⟨false, rfl, ⟨fun e => (by cases e), fun e => absurd (e x.1) (by rw [hx1, hy2]; simp)⟩, rfl⟩
 refine .m rfl (.m rfl (.q (.lookupOkY (m := s2) (enc := ssV) (KeyLaw.int Tryz.underlying3) hy2 rfl rfl Tryz.underlying96 ze_100 (by repeat' constructor) rfl) rfl (.m rfl (.u (.extract rfl rfl) (.u (.extract rfl rfl) (.oq (.allocA ze_100) ?_))))))
 rintro v L' ⟨b7, rfl, rfl⟩
 refine .oq (.storeA (vs := [vint y.1, vstr y.2]) rfl rfl ?c146 sz_100 rfl ?c247 (nfz0 _ _)) ?_
 case c146 => (first | (simp [isCell]; done) | (simp [isCell, setAll, Value.cells]; done))
 case c247 => (first | (simp; done) | (simp [setAll, spl, Value.cells]; done))
 rintro v L' rfl
 refine .a rfl (.nil (.ptCast (b := b7) (l' := [vint y.1, vstr y.2]) (by repeat' constructor) rfl (.then_n (.sm rfl (.u (.not rfl) (.m rfl (.grun (t := 29) rfl rfl rfl (.q (.loadAs (vs := [vint x.2.1, vstr x.2.2]) rfl ag_100 (by repeat' constructor) (by simp) rfl) rfl (.grun (t := 29) rfl rfl rfl (.q (.loadAs (vs := [vint y.1, vstr y.2]) rfl ag_100 (by repeat' constructor) (by simp) rfl) rfl (.grun (t := 29) rfl rfl rfl (.q (.structNe (r := decide (x.2 = y)) rfl rfl (by kernel_rfl) (ss_eq 9998 x.2 y)) rfl (.u (.pickF rfl rfl) (.nt (.condN rfl (fun h33 => ?_) (fun h33 => ?_))))))))))))))))
 ·refine .sr (.an rfl (.ret (.blk_r (.then_r (.blk_r (.then_r (.rangeDone (by repeat' constructor) ?_)))))))
  exact .dn rfl rfl ⟨false, rfl, ⟨fun e => (by cases e), fun e => absurd (e x.1) (by rw [hx1, hy2]; intro g; exact h33 (Option.some.inj g))⟩, rfl⟩
 have h7_x := h33.symm
 refine .skip (.blk_n (.then_n ?_))
 have hl := hp4.length_eq
 simp at hl
 exact .rk ((ss ++ [x])) (⟨fun z hz => by rcases List.mem_append.1 hz with hz | hz; exact hall z hz; (have hz : z = x := by simpa using hz); subst hz; rw [hy2, h7_x], ⟨_, by simpa using hp4⟩⟩) (by simp; omega) ⟨rfl, rfl, trivial⟩
theorem nd_all {a b : NmM} (ha : (a.map (·.1)).Nodup) (hl : a.length = b.length) (h : ∀ x ∈ a, ∃ y, alook b x.1 = some y ∧ y.2.2 = x.2.2.2) : ∀ p, (alook a p).map (fun x : Nm => x.2.2) = (alook b p).map (fun x : Nm => x.2.2) := fun p => by
 rcases e : alook a p with _ | y
 ·rw [keys_same ha hl (fun x hx => by obtain ⟨y, hy, -⟩ := h x hx; rw [hy]; rfl) e]
 ·obtain ⟨z, hz, hq⟩ := h (p, y) (al_mem e)
  dsimp only at hz hq
  rw [hz]; simp [hq]
theorem nd_len {a b : NmM} (ha : (a.map (·.1)).Nodup) (hb : (b.map (·.1)).Nodup) (h : ∀ p, (alook a p).map (fun x : Nm => x.2.2) = (alook b p).map (fun x : Nm => x.2.2)) : a.length = b.length := by
 have := ((List.perm_ext_iff_of_nodup ha hb).2 fun p => by
  rw [← al_isSome, ← al_isSome]
  have := congrArg Option.isSome (h p)
  rw [Option.isSome_map, Option.isSome_map] at this
  rw [this]).length_eq
 simpa using this
theorem mapsef_spec (r1 r2 : Nat) (m1 m2 : NmM) (hn1 : (m1.map (·.1)).Nodup) (hn2 : (m2.map (·.1)).Nodup) (hacl : ∀ x ∈ m1, x.2.2.2.acl.length ≤ 1048576) : Fn Tryz.prog 44 #[.map (some r1), .map (some r2), .func (.func 45) #[] #[]] [mapR r1 (ndE m1), mapR r2 (ndE m2), bigR inN m1, bigR inN m2] fun v L => ∃ b, v = .bool b ∧ (b = true ↔ ∀ p, (alook m1 p).map (fun x : Nm => x.2.2) = (alook m2 p).map (fun x : Nm => x.2.2)) ∧ L = [mapR r1 (ndE m1), mapR r2 (ndE m2), bigR inN m1, bigR inN m2] := by
 refine Fn.intro Tryz.func44 rfl rfl fun F W => ?_
 refine .sr (.an rfl (.seq (.sm rfl (.q (.to (.maplen rfl Tryz.underlying95 rfl (by repeat' constructor)) (show _ = vint m1.length by simp [ndE])) rfl (.m rfl (.q (.to (.maplen rfl Tryz.underlying95 rfl (by repeat' constructor)) (show _ = vint m2.length by simp [ndE])) rfl (.ui rfl rfl rfl (.nt (.condN rfl (fun h15 => ?_) (fun h15 => ?_))))))))))
 ·refine .sr (.an rfl (.rt ?_))
  exact .dn rfl rfl ⟨false, rfl, ⟨fun e => (by cases e), fun e => absurd (nd_len hn1 hn2 e) (by omega)⟩, rfl⟩
 refine .sk (.seq (.sm rfl (.oq (.range (f := fun x : Bs × Nm => (vstr x.1, ndV x.2)) (m := m1) rfl Tryz.underlying95 ?he9) ?_)))
 case he9 => rfl
 rintro v L' ⟨it, rfl, rfl⟩
 refine .nt (.block (.loopK (ι := NmM) (fun q E => E) (fun q => [rangeR (fun x : Bs × Nm => (vstr x.1, ndV x.2)) it r1 m1 q]) (fun q => (∀ x ∈ q, ∃ y, alook m2 x.1 = some y ∧ y.2.2 = x.2.2.2) ∧ ∃ rest, m1.Perm (q ++ rest)) (fun q => m1.length - q.length) ([]) (ts := [1, 2, 17]) (.cons rfl (.cons rfl (.cons rfl (.nil)))) (⟨by simp, m1, .refl _⟩) ⟨rfl, rfl, rfl, trivial⟩ (by repeat' constructor) ?_))
 rintro ss ⟨hall, rest, hm⟩
 have hml := hm.length_eq
 rw [List.length_append] at hml
 refine .sr (.oq (.next rfl) ?_)
 rintro v L' (⟨rfl, hp4, rfl⟩ | ⟨x, rest4, rfl, hp4, rfl⟩)
 ·refine .rangeDone (by repeat' constructor) (.u (.extract rfl rfl) (.nt (.seq (.condF rfl (.exit (.then_e (.then_e (.blk_e (.then_n (.sr (.an rfl (.ret ?_))))))))))))
  exact .dn rfl rfl ⟨true, rfl, ⟨fun _ => nd_all hn1 (by omega) (fun x hx => hall x (hp4.mem_iff.1 hx)), fun _ => rfl⟩, rfl⟩
 refine .u (.extract rfl rfl) (.nt (.seq (.condT rfl (.sk (.block (.sr (.q (.entryE (v := .tuple #[vstr x.1, ndV x.2]) rfl (by repeat' constructor) rfl) rfl (.u (.extract rfl rfl) (.u (.extract rfl rfl) (.a rfl (.a rfl (.nil ?_))))))))))))
 have hxm : x ∈ m1 := hp4.mem_iff.2 (by simp)
 have hx1 := al_of_mem (k := x.1) (b := x.2) hn1 hxm
 refine .then_n (.sr ?_)
 rcases hy2 : alook m2 x.1 with _ | y
 ·refine .m rfl (.m rfl (.q (.lookupOkN (m := m2) (enc := ndV) (KeyLaw.str Tryz.underlying9) hy2 rfl rfl Tryz.underlying95 ze_88 (by repeat' constructor) rfl) rfl (.m rfl (.u (.extract rfl rfl) (.u (.extract rfl rfl) (.a rfl (.an rfl (.sm rfl (.u (.not rfl) (.m rfl (.gk (.gk (.gk (.gk (.gk (.u (.pickT rfl rfl) (.nt (.condT rfl (.sr (.an rfl (.ret (.blk_r (.then_r (.blk_r (.then_r (.rangeDone (by repeat' constructor) ?_))))))))))))))))))))))))))
  exact .dn rfl rfl ⟨false, rfl, ⟨fun e => (by cases e), fun e => absurd (e x.1) (by rw [hx1, hy2]; simp)⟩, rfl⟩
 refine .m rfl (.m rfl (.q (.lookupOkY (m := m2) (enc := ndV) (KeyLaw.str Tryz.underlying9) hy2 rfl rfl Tryz.underlying95 ze_88 (by repeat' constructor) rfl) rfl (.m rfl (.u (.extract rfl rfl) (.u (.extract rfl rfl) (.a rfl (.an rfl (.sm rfl (.u (.not rfl) (.m rfl (.bigTake hx1 (by repeat' constructor) (.bigTake hy2 (by repeat' constructor) (.grun (t := 31) rfl rfl rfl (.m rfl (.grun (t := 31) rfl rfl rfl (.m rfl (.grun (t := 31) rfl rfl rfl (.m rfl (.grun (t := 31) rfl rfl rfl (.oq (.callV Tryz.func45 rfl rfl (us := []) (vs := [_, _]) (ws := []) rfl rfl (trsame1_spec x.1 x.1 x.2 y (hacl _ hxm))) ?_))))))))))))))))))))
 rintro v L' ⟨rfl, rfl⟩
 refine .bigPut (f := inN) (m := m1) x.1 x.2 rfl (by repeat' constructor) (.bigPut (f := inN) (m := m2) x.1 y rfl (by repeat' constructor) ?_)
 rw [aset_self hx1, aset_self hy2]
 refine .grun (t := 31) rfl rfl rfl (.u (.not rfl) (.u (.pickF rfl rfl) (.nt (.condN rfl (fun h37 => ?_) (fun h37 => ?_)))))
 ·refine .sr (.an rfl (.ret (.blk_r (.then_r (.blk_r (.then_r (.rangeDone (by repeat' constructor) ?_)))))))
  exact .dn rfl rfl ⟨false, rfl, ⟨fun e => (by cases e), fun e => absurd (e x.1) (by rw [hx1, hy2]; intro g; exact h37 (Option.some.inj g))⟩, rfl⟩
 have h35 := h37
 refine .skip (.blk_n (.then_n ?_))
 have hl := hp4.length_eq
 simp at hl
 exact .rk ((ss ++ [x])) (⟨fun z hz => by rcases List.mem_append.1 hz with hz | hz; exact hall z hz; (have hz : z = x := by simpa using hz); subst hz; exact ⟨y, hy2, h35.symm⟩, ⟨_, by simpa using hp4⟩⟩) (by simp; omega) ⟨rfl, rfl, rfl, trivial⟩
theorem trsame_spec (t u : Nat) (τ υ : Tr) (N M : Nat) (ho : τ.Ok N) (hυ : υ.Ok M) : Fn Tryz.prog 15 #[vptr t, vptr u] [treeR t τ, treeR u υ] fun v L => v = .bool (decide (τ = υ)) ∧ L = [treeR t τ, treeR u υ] := by
 refine Fn.intro Tryz.func15 rfl rfl fun F W => ?_
 refine .trOpen (τ := τ) (by repeat' constructor) fun rn rs m s hI => (.trOpen (t := u) (τ := υ) (by repeat' constructor) fun rn2 rs2 m2 s2 hI2 => ?_)
 have hts := tr_same ho hυ hI hI2
 refine .sr (.an rfl (.seq (.draw [22, 33] [[0, 1, 2, 3, 4, 5, 6, 7, 8, 9, 10, 11, 12, 13, 14, 15, 16, 17, 18, 19, 20, 21, 22], [23, 24, 25, 26, 27, 28, 29, 30, 31, 32, 33], [34, 35]] mixed (by kernel_rfl) (.g0 (.mv rfl rfl (.kv rfl (.as (v' := .bool true) (by rfl) (.ptrne rfl rfl Tryz.underlying28)) (.mv rfl rfl (.gv rfl (.move rfl) (.gv rfl (.nilp rfl) (.gv rfl (.fieldAddr rfl fo_98_2) (.gv rfl (.ld rfl ag_3) (.gv rfl (.move rfl) (.gv rfl (.nilp rfl) (.gv rfl (.fieldAddr rfl fo_98_2) (.gv rfl (.ld rfl ag_3) (.gv rfl (.int rfl rfl rfl) (.kv rfl (.pickT rfl rfl) (.mv rfl rfl (.dec (t := 18) rfl (fun h1_18 => ?_) (fun h1_18 => ?_))))))))))))))))))))
 ·refine D.kDT (t := 16) rfl h1_18 (.kDT (t := 17) rfl h1_18 (.gv rfl (.move rfl) (.gv rfl (.nilp rfl) (.gv rfl (.fieldAddr rfl fo_98_1) (.gv rfl (.ld rfl ag_96) (.gv rfl (.move rfl) (.gv rfl (.nilp rfl) (.gv rfl (.fieldAddr rfl fo_98_1) (.gv rfl (.ld rfl ag_96) (.gh (t := 18) rfl rfl rfl (by kernel_rfl) (.c Tryz.func43 [_, _] (mapseq_spec rs rs2 s s2 hI.skeys hI2.skeys)) (by repeat' constructor) ?_))))))))))
  rintro v L' ⟨b1, rfl, hb1, rfl⟩
  refine D.ph (.g0 (.kv rfl (.pickT rfl rfl) (.mv rfl rfl (.bool (t := 29) rfl (fun h1_29 => ?_) (fun h1_29 => ?_)))))
  ·refine D.kB (t := 27) rfl h1_29 (.kB (t := 28) rfl h1_29 (.gv rfl (.move rfl) (.gv rfl (.nilp rfl) (.gv rfl (.fieldAddr rfl fo_98_0) (.gv rfl (.ld rfl ag_95) (.gv rfl (.move rfl) (.gv rfl (.nilp rfl) (.gv rfl (.fieldAddr rfl fo_98_0) (.gv rfl (.ld rfl ag_95) (.gh (t := 29) rfl rfl rfl (by kernel_rfl) (.c Tryz.func44 [_, _, _] (mapsef_spec rn rn2 m m2 hI.keys hI2.keys (fun x hx => hI.acl ho (al_of_mem (k := x.1) (b := x.2) hI.keys hx)))) (by repeat' constructor) ?_))))))))))
   rintro v L' ⟨b2, rfl, hb2, rfl⟩
   refine D.ph (.g0 (.kv rfl (.pickT rfl rfl) (.kv rfl (.assign rfl) (.pf (.ret (.trFold (τ := τ) hI (by repeat' constructor) rfl rfl rfl (.trFold (t := u) (τ := υ) hI2 (by repeat' constructor) rfl rfl rfl ?_)))))))
   exact .dn rfl rfl ⟨by congr 1; exact Bool.eq_iff_iff.2 (by rw [decide_eq_true_iff, hts]; exact ⟨fun e => ⟨h1_18, hb1.1 h1_29, hb2.1 e⟩, fun e => hb2.2 e.2.2⟩), rfl⟩
  refine D.kB (t := 27) rfl h1_29 (.kB (t := 28) rfl h1_29 (.gz rfl (.gz rfl (.gz rfl (.gz rfl (.gz rfl (.gz rfl (.gz rfl (.gz rfl (.gz rfl (.ph (.g0 (.kv rfl (.pickF rfl rfl) (.kv rfl (.assign rfl) (.pf (.ret (.trFold (τ := τ) hI (by repeat' constructor) rfl rfl rfl (.trFold (t := u) (τ := υ) hI2 (by repeat' constructor) rfl rfl rfl ?_))))))))))))))))))
  exact .dn rfl rfl ⟨by rw [decide_eq_false (fun e => by have := hb1.2 (hts.1 e).2.1; rw [h1_29] at this; cases this)], rfl⟩
 refine D.kDF (t := 16) rfl h1_18 (.kDF (t := 17) rfl h1_18 (.gz rfl (.gz rfl (.gz rfl (.gz rfl (.gz rfl (.gz rfl (.gz rfl (.gz rfl (.gz rfl (.ph (.g0 (.kv rfl (.pickF rfl rfl) (.mv rfl rfl (.gz rfl (.gz rfl (.gz rfl (.gz rfl (.gz rfl (.gz rfl (.gz rfl (.gz rfl (.gz rfl (.ph (.g0 (.kv rfl (.pickF rfl rfl) (.kv rfl (.assign rfl) (.pf (.ret (.trFold (τ := τ) hI (by repeat' constructor) rfl rfl rfl (.trFold (t := u) (τ := υ) hI2 (by repeat' constructor) rfl rfl rfl ?_)))))))))))))))))))))))))))))))
 exact .dn rfl rfl ⟨by rw [decide_eq_false (fun e => h1_18 (hts.1 e).1)], rfl⟩
theorem trapply_spec (t : Nat) (τ : Tr) (zx ses xid : Int) (x : Pt) (subs : List Pt) (p : HP) (hx : TxA p x subs) (N : Nat) (ho : τ.Ok N) (hN : N + subs.length ≤ 1099511627776) : Fn Tryz.prog 12 #[vptr t, .agg ([vint zx, vint ses, vint xid] ++ ptC x).toArray] [treeR t τ, p] fun v L => ∃ u e, v = .tuple #[u, vint e] ∧ e = (applyZ τ zx x subs).2.2 ∧ (∃ a c, u = .slice a (applyZ τ zx x subs).2.1.length c) ∧ L = [treeR t (applyZ τ zx x subs).1, p, slR 150 3 u (applyZ τ zx x subs).2.1.length ((applyZ τ zx x subs).2.1.flatMap evC)] := by
 refine Fn.intro Tryz.func12 rfl rfl fun F W => ?_
 refine .rdAny (p := p) hx.rd (by repeat' constructor) fun asb csb esub _ => ?_
 have hrd := hx.rd
 rw [esub] at hrd
 have hfs := hx.few
 refine .sr (.oq (.box rfl) ?_)
 rintro v L' ⟨be, rfl, rfl⟩
 refine .a rfl (.a rfl (.nil (.ptCast (b := be) (l' := ([vint zx, vint ses, vint xid] ++ ptC x)) (by repeat' constructor) rfl (.then_n (.sr (.an rfl (.sr (.u (.fieldAddr rfl fo_39_3) (.q (.loadAs (vs := ptC x) rfl ag_37 (by repeat' constructor) (by simp [ptC]) rfl) rfl (.oq (.allocA ze_37) ?_))))))))))
 rintro v L' ⟨bx, rfl, rfl⟩
 refine .oq (.storeA rfl rfl ?c10 sz_37 ?c13 ?c11 (nfz0 _ _)) ?_
 case c10 => exact hx.own.all
 case c13 => rfl
 case c11 => simp [ptC]
 rintro v L' rfl
 refine .nil (.ptCast (b := bx) (l' := ptC x) (by repeat' constructor) rfl (.then_n (.seq (.trOpen (τ := τ) (by repeat' constructor) fun rn rs m s hI => (.region (.m rfl (.u (.fieldAddr rfl fo_39_0) (.u (.ld rfl ag_3) (.nf rfl fo_98_2 (.st rfl rfl rfl sz_3 ?_))))))))))
 refine .nil (.trFold (τ := (zxT τ zx)) (hI.zx zx) (by repeat' constructor) rfl rfl rfl (.then_n (.seq (.sr (.u (.fieldAddr rfl fo_37_0) (.u (.ld rfl ag_3) (.nt (.block (.sr (.ui rfl rfl rfl (.an rfl (.condD rfl (fun h26 => ?_) (fun h26 => ?_)))))))))))))
 ·refine .sr (.u (.fieldAddr rfl fo_37_4) (.u (.ld rfl ag_3) (.ui rfl rfl rfl (.nt (.condD rfl (fun h30 => ?_) (fun h30 => ?_))))))
  ·refine .trOpen (τ := (zxT τ zx)) (by repeat' constructor) fun rn rs m s hI => (.draw [11] [[0, 1, 2, 3, 4, 5, 6, 7, 8, 9, 10, 11]] mixed (by kernel_rfl) (.g0 (.mv rfl rfl (.nf rfl rfl rfl fo_98_1 (.kv rfl (.ld rfl ag_96) (.kv rfl (.fieldAddr rfl fo_37_4) (.kv rfl (.ld rfl ag_3) (.kv rfl (.fieldAddr rfl fo_37_5) (.kv rfl (.ld rfl ag_3) (.kv rfl (.fieldAddr rfl fo_37_2) (.kv rfl (.ld rfl ag_9) (.kv rfl (.build (us := [(0, _), (1, _)]) fl_100 ze_100 rfl rfl (by simp [isCell])) (.hh rfl (.mapSet (m := s) (enc := ssV) (v := (x.num, x.data)) (k := x.own) (KeyLaw.int Tryz.underlying3) rfl rfl rfl Tryz.underlying96 ?he40) ?_)))))))))))))
   case he40 => rfl
   rintro v L' rfl
   refine D.ph (.fin (.trFold (τ := (openS (zxT τ zx) x.own x.num x.data)) (hI.open x.own x.num x.data) (by repeat' constructor) rfl rfl rfl (.blk_n (.then_n (.sm rfl (.a rfl (.an rfl (.ret (.add (slR_nil 150 3) ?_)))))))))
   have hc : applyZ τ zx x subs = (openS (zxT τ zx) x.own x.num x.data, ([], 0)) := by unfold applyZ; dsimp only; rw [if_pos h26, if_pos (by omega)]
   refine .trCast (τ' := (applyZ τ zx x subs).1) (by repeat' constructor) (by rw [hc]) (.slCast (T := 150) (sz := 3) (m' := (applyZ τ zx x subs).2.1.length) (xs' := (applyZ τ zx x subs).2.1.flatMap evC) (by repeat' constructor) (by (rw [hc]; try rfl)) (by (rw [hc]; try rfl)) ?_)
   exact .dn rfl rfl ⟨_, _, rfl, by rw [hc], ⟨_, _, by (rw [hc]; try rfl)⟩, rfl⟩
  refine .skip (.blk_n (.then_n (.sm rfl (.a rfl (.an rfl (.ret (.add (slR_nil 150 3) ?_)))))))
  have hc : applyZ τ zx x subs = ((zxT τ zx), ([], 0)) := by unfold applyZ; dsimp only; rw [if_pos h26, if_neg (by omega)]
  refine .trCast (τ' := (applyZ τ zx x subs).1) (by repeat' constructor) (by rw [hc]) (.slCast (T := 150) (sz := 3) (m' := (applyZ τ zx x subs).2.1.length) (xs' := (applyZ τ zx x subs).2.1.flatMap evC) (by repeat' constructor) (by (rw [hc]; try rfl)) (by (rw [hc]; try rfl)) ?_)
  exact .dn rfl rfl ⟨_, _, rfl, by rw [hc], ⟨_, _, by (rw [hc]; try rfl)⟩, rfl⟩
 refine .sr (.ui rfl rfl rfl (.an rfl (.condD rfl (fun h42 => ?_) (fun h42 => ?_))))
 ·refine .seq (.sr (.u (.fieldAddr rfl fo_37_7) (.q (.as (v' := .slice asb subs.length csb) (by exact esub) (.ld rfl ag_35)) rfl (.q (.slen rfl Tryz.underlying35 rfl) rfl (.m rfl (.nt (.block (.add (slR_nil 150 3) (.trCast (τ' := (partsZ (zxT τ zx) zx ((subs.take 0).filter isDel)).1) (by repeat' constructor) (by rw [List.take_zero]; rfl) (.slCast (T := 150) (sz := 3) (m' := (partsZ (zxT τ zx) zx ((subs.take 0).filter isDel)).2.length) (xs' := (partsZ (zxT τ zx) zx ((subs.take 0).filter isDel)).2.flatMap evC) (by repeat' constructor) (by rw [List.take_zero]; rfl) (by rw [List.take_zero]; rfl) (.loopK (ι := Nat × Value) (fun q E => (47, vint q.1) :: (6, q.2) :: E) (fun q => [treeR t (partsZ (zxT τ zx) zx ((subs.take q.1).filter isDel)).1, slR 150 3 q.2 (partsZ (zxT τ zx) zx ((subs.take q.1).filter isDel)).2.length ((partsZ (zxT τ zx) zx ((subs.take q.1).filter isDel)).2.flatMap evC)]) (fun q => q.1 ≤ subs.length ∧ ∃ a c, q.2 = .slice a (partsZ (zxT τ zx) zx ((subs.take q.1).filter isDel)).2.length c) (fun q => subs.length - q.1) (0, .slice none 0 0) (ts := [0, 3, 4, 5, 7, 45, 46]) (.cons rfl (.cons rfl (.cons rfl (.cons rfl (.cons rfl (.cons rfl (.cons rfl (.nil)))))))) (⟨Nat.zero_le _, none, 0, by rw [List.take_zero]; rfl⟩) ⟨rfl, rfl, rfl, rfl, rfl, rfl, rfl, rfl, rfl, trivial⟩ (by repeat' constructor) ?_)))))))))))
  rintro ⟨i, u⟩ ⟨hi, au, cu, hu⟩
  dsimp only
  dsimp only at hi hu
  subst hu
  have hev := parts_ev (zxT τ zx) zx ((subs.take i).filter isDel)
  have hfl := List.length_filter_le isDel (subs.take i)
  rw [List.length_take] at hfl
  have hok : (partsZ (zxT τ zx) zx ((subs.take i).filter isDel)).1.Ok (N + subs.length) := ((ho.zx zx).parts zx _ (fun y hy => (hx.each y (List.mem_of_mem_take (List.mem_filter.1 hy).1)).few)).more (by omega)
  refine .sr (.ui rfl rfl rfl (.nt (.seq (.condD rfl (fun h48 => ?_) (fun h48 => ?_)))))
  ·have hi2 : i < subs.length := by omega
   refine .rdShape (p := p) hrd (by repeat' constructor) (by omega) fun bs os e1 => ?_
   subst e1
   have hys := hx.each _ (List.getElem_mem hi2)
   refine .sk (.seq (.block (.sr (.q (.indexAddr rfl rfl el_35 (by omega)) rfl (.q (.loadRdA (sz := 8) (j := i * 8) (k := 8) (p := p) (vs := ptC subs[i]) rfl ag_37 (by repeat' constructor) hrd (by simp) (by omega) (by omega) (flatMap_at (f := ptC) (sz := 8) (fun _ _ => rfl) (by omega))) rfl (.oq (.allocA ze_37) ?_))))))
   rintro v L' ⟨by1, rfl, rfl⟩
   refine .oq (.storeA rfl rfl ?c54 sz_37 ?c57 ?c55 (nfz0 _ _)) ?_
   case c54 => exact hys.all
   case c57 => rfl
   case c55 => simp [ptC]
   rintro v L' rfl
   refine .nil (.ptCast (b := by1) (l' := ptC subs[i]) (by repeat' constructor) rfl (.then_n (.sr (.u (.fieldAddr rfl fo_37_0) (.u (.ld rfl ag_3) (.ui rfl rfl rfl (.nt (.condD rfl (fun h53 => ?_) (fun h53 => ?_)))))))))
   ·refine .region (.m rfl (.m rfl (.q (.loadAs (vs := ptC subs[i]) rfl ag_37 (by repeat' constructor) (by simp [ptC]) rfl) rfl (.u (.fieldAddr rfl fo_39_0) (.u (.ld rfl ag_3) (.oq (.c Tryz.func39 [_, _, _] (trpart_spec t (partsZ (zxT τ zx) zx ((subs.take i).filter isDel)).1 subs[i] zx p hys (N + subs.length) hok (by omega))) ?_))))))
    rintro v L' ⟨a14, c14, rfl, rfl⟩
    refine .oq (.append (n := (partsZ (zxT τ zx) zx ((subs.take i).filter isDel)).2.length) (m := (partZ (partsZ (zxT τ zx) zx ((subs.take i).filter isDel)).1 subs[i] zx).2.length) (ys := (partZ (partsZ (zxT τ zx) zx ((subs.take i).filter isDel)).1 subs[i] zx).2.flatMap evC) (p := slR 150 3 (.slice a14 (partZ (partsZ (zxT τ zx) zx ((subs.take i).filter isDel)).1 subs[i] zx).2.length c14) (partZ (partsZ (zxT τ zx) zx ((subs.take i).filter isDel)).1 subs[i] zx).2.length ((partZ (partsZ (zxT τ zx) zx ((subs.take i).filter isDel)).1 subs[i] zx).2.flatMap evC)) rfl rfl rfl el_30 (.inl ⟨_, Tryz.underlying30⟩) ze_150 rfl rfl ?hc69 ?hr70 ?hb71 (by decide)) ?_
    case hc69 => exact evC_cells _
    case hr70 => exact fun h hp => slR_rd hp
    case hb71 => have := part_ev (partsZ (zxT τ zx) zx ((subs.take i).filter isDel)).1 subs[i] zx; omega
    rintro v L' ⟨⟨a14_6, c14_6, rfl⟩, rfl⟩
    refine .a rfl (.nil (.blk_n (.then_n (.region (.q (.add rfl rfl (by omega)) rfl (.m rfl (.nt ?_)))))))
    have hst := filter_take_yes (f := isDel) hi2 (by unfold isDel; rw [decide_eq_true h53])
    refine .trCast (τ' := (partsZ (zxT τ zx) zx ((subs.take (i + 1)).filter isDel)).1) (by repeat' constructor) (by rw [hst, parts_snoc]) (.slCast (T := 150) (sz := 3) (m' := (partsZ (zxT τ zx) zx ((subs.take (i + 1)).filter isDel)).2.length) (xs' := (partsZ (zxT τ zx) zx ((subs.take (i + 1)).filter isDel)).2.flatMap evC) (by repeat' constructor) (by rw [hst, parts_snoc]; simp) (by rw [hst, parts_snoc]; simp) ?_)
    exact .rk ((i + 1, .slice a14_6 ((partsZ (zxT τ zx) zx ((subs.take i).filter isDel)).2.length + (partZ (partsZ (zxT τ zx) zx ((subs.take i).filter isDel)).1 subs[i] zx).2.length) c14_6)) (⟨by dsimp only; omega, _, _, by rw [hst, parts_snoc, List.length_append]⟩) (by dsimp only; omega) ⟨rfl, rfl, rfl, rfl, rfl, rfl, rfl, rfl, rfl, trivial⟩
   refine .skip (.blk_n (.then_n (.region (.q (.add rfl rfl (by omega)) rfl (.m rfl (.nt ?_))))))
   have hst := filter_take_no (f := isDel) hi2 (by unfold isDel; rw [decide_eq_false h53])
   refine .trCast (τ' := (partsZ (zxT τ zx) zx ((subs.take (i + 1)).filter isDel)).1) (by repeat' constructor) (by rw [hst]) (.slCast (T := 150) (sz := 3) (m' := (partsZ (zxT τ zx) zx ((subs.take (i + 1)).filter isDel)).2.length) (xs' := (partsZ (zxT τ zx) zx ((subs.take (i + 1)).filter isDel)).2.flatMap evC) (by repeat' constructor) (by rw [hst]) (by rw [hst]) ?_)
   exact .rk ((i + 1, .slice au (partsZ (zxT τ zx) zx ((subs.take i).filter isDel)).2.length cu)) (⟨by dsimp only; omega, _, _, by rw [hst]⟩) (by dsimp only; omega) ⟨rfl, rfl, rfl, rfl, rfl, rfl, rfl, rfl, rfl, trivial⟩
  have hii : i = subs.length := by omega
  rw [hii, List.take_length]
  refine .exit (.then_e (.then_e (.blk_e (.then_n (.trOpen (τ := (partsZ (zxT τ zx) zx (subs.filter isDel)).1) (by repeat' constructor) fun rn rs m s hI => (.draw [6] [[0, 1, 2, 3, 4, 5, 6]] mixed (by kernel_rfl) (.g0 (.mv rfl rfl (.nf rfl rfl rfl fo_98_1 (.kv rfl (.ld rfl ag_96) (.kv rfl (.fieldAddr rfl fo_37_4) (.kv rfl (.ld rfl ag_3) (.hh rfl (.mapDel (m := s) (enc := ssV) (k := x.own) (KeyLaw.int Tryz.underlying3) rfl rfl rfl Tryz.underlying96 ?he82) ?_)))))))))))))
  case he82 => rfl
  rintro v L' rfl
  refine D.ph (.fin (.trFold (τ := (dropS (partsZ (zxT τ zx) zx (subs.filter isDel)).1 x.own)) (hI.drop x.own) (by repeat' constructor) rfl rfl rfl (.blk_n (.then_n (.sm rfl (.a rfl (.an rfl (.ret ?_))))))))
  have hc : applyZ τ zx x subs = (dropS (partsZ (zxT τ zx) zx (subs.filter isDel)).1 x.own, ((partsZ (zxT τ zx) zx (subs.filter isDel)).2, 0)) := by unfold applyZ; dsimp only; rw [if_neg h26, if_pos h42]
  refine .trCast (τ' := (applyZ τ zx x subs).1) (by repeat' constructor) (by rw [hc]) (.slCast (T := 150) (sz := 3) (m' := (applyZ τ zx x subs).2.1.length) (xs' := (applyZ τ zx x subs).2.1.flatMap evC) (by repeat' constructor) (by (rw [hc]; try rfl)) (by (rw [hc]; try rfl)) ?_)
  exact .dn rfl rfl ⟨_, _, rfl, by rw [hc], ⟨_, _, by (rw [hc]; try rfl)⟩, rfl⟩
 refine .sr (.ui rfl rfl rfl (.an rfl (.condD rfl (fun h68 => ?_) (fun h68 => ?_))))
 ·refine .sr (.u (.fieldAddr rfl fo_37_7) (.q (.as (v' := .slice asb subs.length csb) (by exact esub) (.ld rfl ag_35)) rfl (.q (.slen rfl Tryz.underlying35 rfl) rfl (.m rfl (.nt (.block (.add (slR_nil 150 3) (.trCast (τ' := (partsZ (zxT τ zx) zx (subs.take 0)).1) (by repeat' constructor) (by rw [List.take_zero]; rfl) (.slCast (T := 150) (sz := 3) (m' := (partsZ (zxT τ zx) zx (subs.take 0)).2.length) (xs' := (partsZ (zxT τ zx) zx (subs.take 0)).2.flatMap evC) (by repeat' constructor) (by rw [List.take_zero]; rfl) (by rw [List.take_zero]; rfl) (.loopK (ι := Nat × Value) (fun q E => (73, vint q.1) :: (6, q.2) :: E) (fun q => [treeR t (partsZ (zxT τ zx) zx (subs.take q.1)).1, slR 150 3 q.2 (partsZ (zxT τ zx) zx (subs.take q.1)).2.length ((partsZ (zxT τ zx) zx (subs.take q.1)).2.flatMap evC)]) (fun q => q.1 ≤ subs.length ∧ ∃ a c, q.2 = .slice a (partsZ (zxT τ zx) zx (subs.take q.1)).2.length c) (fun q => subs.length - q.1) (0, .slice none 0 0) (ts := [0, 3, 4, 5, 71, 72]) (.cons rfl (.cons rfl (.cons rfl (.cons rfl (.cons rfl (.cons rfl (.nil))))))) (⟨Nat.zero_le _, none, 0, by rw [List.take_zero]; rfl⟩) ⟨rfl, rfl, rfl, rfl, rfl, rfl, rfl, rfl, trivial⟩ (by repeat' constructor) ?_))))))))))
  rintro ⟨i, u⟩ ⟨hi, au, cu, hu⟩
  dsimp only
  dsimp only at hi hu
  subst hu
  have hev := parts_ev (zxT τ zx) zx (subs.take i)
  have hfl := List.length_take_le i subs
  have hok : (partsZ (zxT τ zx) zx (subs.take i)).1.Ok (N + subs.length) := ((ho.zx zx).parts zx _ (fun y hy => (hx.each y (List.mem_of_mem_take hy)).few)).more (by rw [List.length_take]; omega)
  refine .sr (.ui rfl rfl rfl (.nt (.seq (.condD rfl (fun h74 => ?_) (fun h74 => ?_)))))
  ·have hi2 : i < subs.length := by omega
   refine .rdShape (p := p) hrd (by repeat' constructor) (by omega) fun bs os e1 => ?_
   subst e1
   have hys := hx.each _ (List.getElem_mem hi2)
   refine .sk (.seq (.block (.sr (.q (.indexAddr rfl rfl el_35 (by omega)) rfl (.q (.loadRdA (sz := 8) (j := i * 8) (k := 8) (p := p) (vs := ptC subs[i]) rfl ag_37 (by repeat' constructor) hrd (by simp) (by omega) (by omega) (flatMap_at (f := ptC) (sz := 8) (fun _ _ => rfl) (by omega))) rfl (.oq (.allocA ze_37) ?_))))))
   rintro v L' ⟨by1, rfl, rfl⟩
   refine .oq (.storeA rfl rfl ?c96 sz_37 ?c99 ?c97 (nfz0 _ _)) ?_
   case c96 => exact hys.all
   case c99 => rfl
   case c97 => simp [ptC]
   rintro v L' rfl
   refine .nil (.ptCast (b := by1) (l' := ptC subs[i]) (by repeat' constructor) rfl (.then_n (.region (.m rfl (.m rfl (.q (.loadAs (vs := ptC subs[i]) rfl ag_37 (by repeat' constructor) (by simp [ptC]) rfl) rfl (.u (.fieldAddr rfl fo_39_0) (.u (.ld rfl ag_3) (.oq (.c Tryz.func39 [_, _, _] (trpart_spec t (partsZ (zxT τ zx) zx (subs.take i)).1 subs[i] zx p hys (N + subs.length) hok (by omega))) ?_)))))))))
   rintro v L' ⟨a21, c21, rfl, rfl⟩
   refine .oq (.append (n := (partsZ (zxT τ zx) zx (subs.take i)).2.length) (m := (partZ (partsZ (zxT τ zx) zx (subs.take i)).1 subs[i] zx).2.length) (ys := (partZ (partsZ (zxT τ zx) zx (subs.take i)).1 subs[i] zx).2.flatMap evC) (p := slR 150 3 (.slice a21 (partZ (partsZ (zxT τ zx) zx (subs.take i)).1 subs[i] zx).2.length c21) (partZ (partsZ (zxT τ zx) zx (subs.take i)).1 subs[i] zx).2.length ((partZ (partsZ (zxT τ zx) zx (subs.take i)).1 subs[i] zx).2.flatMap evC)) rfl rfl rfl el_30 (.inl ⟨_, Tryz.underlying30⟩) ze_150 rfl rfl ?hc108 ?hr109 ?hb110 (by decide)) ?_
   case hc108 => exact evC_cells _
   case hr109 => exact fun h hp => slR_rd hp
   case hb110 => have := part_ev (partsZ (zxT τ zx) zx (subs.take i)).1 subs[i] zx; omega
   rintro v L' ⟨⟨a21_6, c21_6, rfl⟩, rfl⟩
   refine .a rfl (.nil (.blk_n (.then_n (.region (.q (.add rfl rfl (by omega)) rfl (.m rfl (.nt ?_)))))))
   have hst := List.take_succ_eq_append_getElem hi2
   refine .trCast (τ' := (partsZ (zxT τ zx) zx (subs.take (i + 1))).1) (by repeat' constructor) (by rw [hst, parts_snoc]) (.slCast (T := 150) (sz := 3) (m' := (partsZ (zxT τ zx) zx (subs.take (i + 1))).2.length) (xs' := (partsZ (zxT τ zx) zx (subs.take (i + 1))).2.flatMap evC) (by repeat' constructor) (by rw [hst, parts_snoc]; simp) (by rw [hst, parts_snoc]; simp) ?_)
   exact .rk ((i + 1, .slice a21_6 ((partsZ (zxT τ zx) zx (subs.take i)).2.length + (partZ (partsZ (zxT τ zx) zx (subs.take i)).1 subs[i] zx).2.length) c21_6)) (⟨by dsimp only; omega, _, _, by rw [hst, parts_snoc, List.length_append]⟩) (by dsimp only; omega) ⟨rfl, rfl, rfl, rfl, rfl, rfl, rfl, rfl, trivial⟩
  have hii : i = subs.length := by omega
  rw [hii, List.take_length]
  refine .exit (.then_e (.then_e (.blk_e (.blk_n (.then_n (.sm rfl (.a rfl (.an rfl (.ret ?_)))))))))
  have hc : applyZ τ zx x subs = ((partsZ (zxT τ zx) zx subs).1, ((partsZ (zxT τ zx) zx subs).2, 0)) := by unfold applyZ; dsimp only; rw [if_neg h26, if_neg h42, if_pos h68]
  refine .trCast (τ' := (applyZ τ zx x subs).1) (by repeat' constructor) (by rw [hc]) (.slCast (T := 150) (sz := 3) (m' := (applyZ τ zx x subs).2.1.length) (xs' := (applyZ τ zx x subs).2.1.flatMap evC) (by repeat' constructor) (by (rw [hc]; try rfl)) (by (rw [hc]; try rfl)) ?_)
  exact .dn rfl rfl ⟨_, _, rfl, by rw [hc], ⟨_, _, by (rw [hc]; try rfl)⟩, rfl⟩
 refine .sr (.ui rfl rfl rfl (.an rfl (.condD rfl (fun h85 => ?_) (fun h85 => ?_))))
 ·refine .seq (.draw [] [[0, 1, 2, 3]] mixed (by kernel_rfl) (.g0 (.kv rfl (.fieldAddr rfl fo_37_6) (.kv rfl (.ld rfl ag_31) (.kv rfl (.assign rfl) (.kv rfl (.assign rfl) (.pf (.ret (.blk_r (.then_r (.add (slR_nil 150 3) ?_)))))))))))
  have hc : applyZ τ zx x subs = ((zxT τ zx), ([], x.err)) := by unfold applyZ; dsimp only; rw [if_neg h26, if_neg h42, if_neg h68, if_pos h85]
  refine .trCast (τ' := (applyZ τ zx x subs).1) (by repeat' constructor) (by rw [hc]) (.slCast (T := 150) (sz := 3) (m' := (applyZ τ zx x subs).2.1.length) (xs' := (applyZ τ zx x subs).2.1.flatMap evC) (by repeat' constructor) (by (rw [hc]; try rfl)) (by (rw [hc]; try rfl)) ?_)
  exact .dn rfl rfl ⟨_, _, rfl, by rw [hc], ⟨_, _, by (rw [hc]; try rfl)⟩, rfl⟩
 refine .region (.m rfl (.q (.loadAs (vs := ptC x) rfl ag_37 (by repeat' constructor) (by simp [ptC]) rfl) rfl (.u (.fieldAddr rfl fo_39_0) (.u (.ld rfl ag_3) (.oq (.c Tryz.func39 [_, _, _] (trpart_spec t (zxT τ zx) x zx p hx.own N (ho.zx zx) (by omega))) ?_)))))
 rintro v L' ⟨a5, c5, rfl, rfl⟩
 refine .a rfl (.nil (.blk_n (.then_n (.sm rfl (.a rfl (.an rfl (.ret ?_)))))))
 have hc : applyZ τ zx x subs = ((partZ (zxT τ zx) x zx).1, ((partZ (zxT τ zx) x zx).2, 0)) := by unfold applyZ; dsimp only; rw [if_neg h26, if_neg h42, if_neg h68, if_neg h85]
 refine .trCast (τ' := (applyZ τ zx x subs).1) (by repeat' constructor) (by rw [hc]) (.slCast (T := 150) (sz := 3) (m' := (applyZ τ zx x subs).2.1.length) (xs' := (applyZ τ zx x subs).2.1.flatMap evC) (by repeat' constructor) (by (rw [hc]; try rfl)) (by (rw [hc]; try rfl)) ?_)
 exact .dn rfl rfl ⟨_, _, rfl, by rw [hc], ⟨_, _, by (rw [hc]; try rfl)⟩, rfl⟩
def appE (τ : Tr) (e : En) : Tr := (applyZ τ e.zx e.x e.subs).1
def appL (τ : Tr) (l : List En) : Tr := l.foldl appE τ
theorem appL_snoc (τ : Tr) (l : List En) (e : En) : appL τ (l ++ [e]) = appE (appL τ l) e := by unfold appL; rw [List.foldl_append]; rfl
def ptS (kind : Int) (path data : Bs) (num : Int) : Pt := ⟨kind, path, data, .slice none 0 0, [], 0, num, 0, .slice none 0 0⟩
theorem rd_none (sz : Nat) (h : Hp) : rdS sz h (.slice none 0 0) 0 [] := .inl ⟨rfl, rfl, none, 0, rfl⟩
theorem ptS_ok (p : HP) {kind : Int} {path data : Bs} {num : Int} (hp : path.length ≤ 1048576) : PtA p (ptS kind path data num) := ⟨fun h _ => rd_none 2 h, Nat.zero_le _, hp, rfl, rfl⟩
theorem txS_ok (p : HP) {kind : Int} {path data : Bs} {num : Int} (hp : path.length ≤ 1048576) : TxA p (ptS kind path data num) [] := ⟨ptS_ok p hp, fun h _ => rd_none 8 h, Nat.zero_le _, fun y hy => by cases hy⟩
/-! ### Raw acts -/
/-! ### Parts touch what is theirs -/
theorem part_sess (τ : Tr) (x : Pt) (zx : Int) : (partZ τ x zx).1.sess = τ.sess := by
 unfold partZ createZ eraseZ
 repeat' split
 all_goals rfl
/-! ### The chapter's examples -/
theorem numB_len8 {n : Int} (h : I64 n) : (numB n).length ≤ 10 := sev_len10 (zig_lt h)
theorem fm_most8 {α : Type} {f : α → Bs} {c : Nat} : ∀ {l : List α}, (∀ x ∈ l, (f x).length ≤ c) → (l.flatMap f).length ≤ l.length * c
 | [], _ => by simp
 | y :: l, h => by
  have h1 := h y (List.mem_cons_self ..)
  have h2 := fm_most8 (l := l) (f := f) (fun x hx => h x (List.mem_cons_of_mem _ hx))
  rw [List.flatMap_cons, List.length_append, List.length_cons, Nat.add_mul]; omega
structure AclW (l : List Ac) : Prop where
 few : l.length ≤ 1048576
 long : (aclB l).length ≤ 33000000
 each : ∀ a ∈ l, AcI a ∧ a.2.length ≤ 1048576
structure PnW (y : PN) : Prop where
 p : y.1.length ≤ 60
 d : y.2.data.length ≤ 1048576
 acl : AclW y.2.acl
 st : ∀ n ∈ nums7 y.2.st, I64 n
 bare : y.2.st.len = 0 ∧ y.2.st.kids = 0
structure SnW (x : SN) : Prop where
 i : I64 x.1
 t : I64 x.2.1
 s : x.2.2.length ≤ 1048576
structure TrW (τ : Tr) : Prop where
 nd : ∀ y ∈ τ.nodes, PnW y
 ss : ∀ x ∈ τ.sess, SnW x
 zx : I64 τ.zx
theorem txtB_len8 {s : Bs} (h : s.length ≤ 1048576) : (txtB s).length ≤ 1048586 := by
 have h1 := sev_len10 (u := s.length) (by have : U64 = 18446744073709551616 := rfl; omega)
 unfold txtB cntB
 rw [List.length_append]; omega
theorem PnW.len {y : PN} (h : PnW y) : (ndB y).length ≤ 35200000 := by
 have h1 := txtB_len8 (s := y.1) (by have := h.p; omega)
 have h2 := txtB_len8 h.d
 have h3 := h.acl.long
 have h4 := fm_most8 (f := numB) (c := 10) (l := nums7 y.2.st) (fun n hn => numB_len8 (h.st n hn))
 have h5 : (nums7 y.2.st).length = 7 := rfl
 rw [h5] at h4
 unfold ndB
 rw [List.length_append, List.length_append, List.length_append]
 omega
theorem SnW.len {x : SN} (h : SnW x) : (ssB x).length ≤ 1048606 := by
 have h1 := numB_len8 h.i
 have h2 := numB_len8 h.t
 have h3 := txtB_len8 h.s
 unfold ssB
 rw [List.length_append, List.length_append]
 omega
theorem nodes_len8 {l : List PN} (h : ∀ y ∈ l, PnW y) (hl : l.length ≤ 1048576) : (l.flatMap ndB).length ≤ 36909875200000 := by
 have := fm_most8 (f := ndB) (c := 35200000) (l := l) (fun y hy => (h y hy).len)
 have h2 : l.length * 35200000 ≤ 1048576 * 35200000 := Nat.mul_le_mul_right _ hl
 omega
theorem sess_len8 {l : List SN} (h : ∀ y ∈ l, SnW y) (hl : l.length ≤ 1048576) : (l.flatMap ssB).length ≤ 1099550000000 := by
 have := fm_most8 (f := ssB) (c := 1048606) (l := l) (fun y hy => (h y hy).len)
 have h2 : l.length * 1048606 ≤ 1048576 * 1048606 := Nat.mul_le_mul_right _ hl
 omega
/-! ### Who keeps it -/
structure PtN (x : Pt) : Prop where
 own : I64 x.own
 num : I64 x.num
 data : x.data.length ≤ 1048576
 acl : AclW x.acl
theorem nums7_mem {s : Stt} {n : Int} : n ∈ nums7 s ↔ n = s.cz ∨ n = s.mz ∨ n = s.pz ∨ n = s.ver ∨ n = s.cver ∨ n = s.av ∨ n = s.own := by
 simp [nums7]
theorem PnW.kid {p : Bs} {n : Nd} (h : PnW (p, n)) {num zx : Int} (h1 : I64 num) (h2 : I64 zx) : PnW (p, kidN num zx n) := by
 refine ⟨h.p, h.d, h.acl, fun k hk => ?_, h.bare⟩
 have hs := h.st
 rw [nums7_mem] at hk
 rcases hk with rfl | rfl | rfl | rfl | rfl | rfl | rfl
 ·exact hs _ (nums7_mem.2 (.inl rfl))
 ·exact hs _ (nums7_mem.2 (.inr (.inl rfl)))
 ·exact h2
 ·exact hs _ (nums7_mem.2 (.inr (.inr (.inr (.inl rfl)))))
 ·exact h1
 ·exact hs _ (nums7_mem.2 (.inr (.inr (.inr (.inr (.inr (.inl rfl)))))))
 ·exact hs _ (nums7_mem.2 (.inr (.inr (.inr (.inr (.inr (.inr rfl)))))))
theorem PnW.set {p : Bs} {n : Nd} (h : PnW (p, n)) {d : Bs} {num zx : Int} (hd : d.length ≤ 1048576) (h1 : I64 num) (h2 : I64 zx) : PnW (p, setN d num zx n) := by
 refine ⟨h.p, hd, h.acl, fun k hk => ?_, h.bare⟩
 have hs := h.st
 rw [nums7_mem] at hk
 rcases hk with rfl | rfl | rfl | rfl | rfl | rfl | rfl
 ·exact hs _ (nums7_mem.2 (.inl rfl))
 ·exact h2
 ·exact hs _ (nums7_mem.2 (.inr (.inr (.inl rfl))))
 ·exact h1
 ·exact hs _ (nums7_mem.2 (.inr (.inr (.inr (.inr (.inl rfl))))))
 ·exact hs _ (nums7_mem.2 (.inr (.inr (.inr (.inr (.inr (.inl rfl)))))))
 ·exact hs _ (nums7_mem.2 (.inr (.inr (.inr (.inr (.inr (.inr rfl)))))))
theorem PnW.acl' {p : Bs} {n : Nd} (h : PnW (p, n)) {l : List Ac} {num : Int} (hl : AclW l) (h1 : I64 num) : PnW (p, aclN l num n) := by
 refine ⟨h.p, h.d, hl, fun k hk => ?_, h.bare⟩
 have hs := h.st
 rw [nums7_mem] at hk
 rcases hk with rfl | rfl | rfl | rfl | rfl | rfl | rfl
 ·exact hs _ (nums7_mem.2 (.inl rfl))
 ·exact hs _ (nums7_mem.2 (.inr (.inl rfl)))
 ·exact hs _ (nums7_mem.2 (.inr (.inr (.inl rfl))))
 ·exact hs _ (nums7_mem.2 (.inr (.inr (.inr (.inl rfl)))))
 ·exact hs _ (nums7_mem.2 (.inr (.inr (.inr (.inr (.inl rfl))))))
 ·exact h1
 ·exact hs _ (nums7_mem.2 (.inr (.inr (.inr (.inr (.inr (.inr rfl)))))))
theorem i64_0 : I64 0 := by decide
theorem PnW.new {x : Pt} (h : PtN x) (hp : ableZ x.path) {zx : Int} (hz : I64 zx) : PnW (x.path, newN x zx) := by
 refine ⟨able_len (.inr hp), h.data, h.acl, fun k hk => ?_, ⟨rfl, rfl⟩⟩
 rw [nums7_mem] at hk
 rcases hk with rfl | rfl | rfl | rfl | rfl | rfl | rfl
 ·exact hz
 ·exact hz
 ·exact hz
 ·exact i64_0
 ·exact i64_0
 ·exact i64_0
 ·exact h.own
theorem nd_mod {l : List PN} {p : Bs} {f : Nd → Nd} (h : ∀ y ∈ l, PnW y) (hf : ∀ n, PnW (p, n) → PnW (p, f n)) : ∀ y ∈ amod l p f, PnW y := by
 intro y hy
 obtain ⟨x, hx, e1, e2 | ⟨e2, e3⟩⟩ := amod_mem hy
 ·have : y = x := Prod.ext e1.symm e2
  rw [this]; exact h x hx
 ·have e : y = (p, f x.2) := Prod.ext (e1.symm.trans e2) e3
  rw [e]
  refine hf _ ?_
  have := h x hx
  rw [← e2]; exact this
theorem TrW.part {τ : Tr} (h : TrW τ) {x : Pt} (hx : PtN x) {zx : Int} (hz : I64 zx) : TrW (partZ τ x zx).1 := by
 unfold partZ
 split
 ·unfold createZ
  split
  ·rename_i g
   refine ⟨nd_mod (fun y hy => ?_) fun n hn => hn.kid hx.num hz, h.ss, h.zx⟩
   rcases sset_mem hy with rfl | hy
   ·exact PnW.new hx g.1 hz
   ·exact h.nd y hy
  ·exact h
 split
 ·unfold eraseZ
  split
  ·exact ⟨nd_mod (fun y hy => h.nd y (List.mem_filter.1 hy).1) fun n hn => hn.kid hx.num hz, h.ss, h.zx⟩
  ·exact h
 split
 ·exact ⟨nd_mod h.nd fun n hn => hn.set hx.data hx.num hz, h.ss, h.zx⟩
 split
 ·exact ⟨nd_mod h.nd fun n hn => hn.acl' hx.acl hx.num, h.ss, h.zx⟩
 ·exact h
theorem TrW.parts {τ : Tr} (h : TrW τ) {zx : Int} (hz : I64 zx) {l : List Pt} (hl : ∀ x ∈ l, PtN x) : TrW (partsZ τ zx l).1 := by
 have key : ∀ (l : List Pt) (r : Tr × List Ev), TrW r.1 → (∀ x ∈ l, PtN x) → TrW (l.foldl (fun r x => ((partZ r.1 x zx).1, r.2 ++ (partZ r.1 x zx).2)) r).1 := by
  intro l
  induction l with
  | nil => intro r h _; exact h
  | cons x l ih =>
   intro r h hl
   rw [List.foldl_cons]
   exact ih _ (h.part (hl x (by simp)) hz) (fun y hy => hl y (by simp [hy]))
 exact key l _ h hl
theorem TrW.zxT {τ : Tr} (h : TrW τ) {z : Int} (hz : I64 z) : TrW (Go.Proofs.YtgppfpmmijbncaaGreatDoor.zxT τ z) := ⟨h.nd, h.ss, hz⟩
theorem TrW.new : TrW newT := by
 refine ⟨fun y hy => ?_, fun x hx => (by cases hx), i64_0⟩
 simp only [newT, List.mem_singleton] at hy
 subst hy
 refine ⟨by decide, by decide, ⟨by decide, ?_, fun a ha => ?_⟩, fun n hn => ?_, ⟨rfl, rfl⟩⟩
 ·have h1 := numB_len8 (n := 31) (by decide)
  have h2 := txtB_len8 (s := [119, 111, 114, 108, 100]) (by decide)
  have h3 := sev_len10 (u := 0 + 1) (by decide)
  unfold aclB acB
  simp only [List.flatMap_cons, List.flatMap_nil, List.length_append, List.length_nil, List.length_cons] at *
  unfold cntB
  omega
 ·simp only [List.mem_singleton] at ha; subst ha
  exact ⟨⟨by decide, by decide⟩, by decide⟩
 ·rw [nums7_mem] at hn
  rcases hn with rfl | rfl | rfl | rfl | rfl | rfl | rfl <;> exact i64_0
def cntGt (a : Bs) (l : List PN) : Nat := (l.filter fun y => decide (a < y.1)).length
theorem cnt_find {a : Bs} {y : PN} : ∀ {l : List PN}, SortedK l → (l.find? fun y => decide (a < y.1)) = some y → cntGt y.1 l + 1 ≤ cntGt a l ∧ y ∈ l
 | [], _, h => by cases h
 | x :: l, hs, h => by
  have hs' : SortedK l := (List.pairwise_cons.1 hs).2
  have hx : ∀ z ∈ l, x.1 < z.1 := fun z hz => (List.pairwise_cons.1 hs).1 _ (List.mem_map_of_mem hz)
  rw [List.find?_cons] at h
  by_cases e : a < x.1
  ·rw [decide_eq_true e] at h
   simp only [Option.some.injEq] at h
   subst h
   refine ⟨?_, List.mem_cons_self⟩
   unfold cntGt
   rw [List.filter_cons, List.filter_cons, if_neg (by simp [linB.irr x.1]), if_pos (by simpa using e)]
   have e1 : (l.filter fun z => decide (x.1 < z.1)) = l := List.filter_eq_self.2 fun z hz => by simpa using hx z hz
   have e2 : (l.filter fun z => decide (a < z.1)) = l := List.filter_eq_self.2 fun z hz => by simpa using linB.tr _ _ _ e (hx z hz)
   rw [e1, e2, List.length_cons]; exact Nat.le_refl _
  ·rw [decide_eq_false e] at h
   obtain ⟨h1, h2⟩ := cnt_find hs' h
   refine ⟨?_, List.mem_cons_of_mem _ h2⟩
   unfold cntGt at h1 ⊢
   have hxy := hx y h2
   rw [List.filter_cons, List.filter_cons, if_neg (by simpa using fun g => linB.irr _ (linB.tr _ _ _ g hxy)), if_neg (by simpa using e)]
   exact h1
structure FzN (τ : Tr) (φ : Fz) (M : Nat) : Prop where
 many : φ.nds.length + cntGt (lastP φ.nds) τ.nodes ≤ M
 nds : ∀ y ∈ φ.nds, PnW y
 ss : ∀ x ∈ φ.ss, SnW x
 sm : φ.ss.length ≤ M
 from' : I64 φ.from'
 none' : φ.all = false → φ.ss = []
theorem cnt_le (a : Bs) (l : List PN) : cntGt a l ≤ l.length := List.length_filter_le _ _
theorem FzN.begin {τ : Tr} (h : TrW τ) {M : Nat} (hm : τ.nodes.length ≤ M) : FzN τ (beginZ τ) M :=
 ⟨by show 0 + cntGt _ _ ≤ M; have := cnt_le (lastP (beginZ τ).nds) τ.nodes; omega, fun y hy => (by cases hy), fun y hy => (by cases hy), Nat.zero_le _, h.zx, fun _ => rfl⟩
theorem FzN.next {τ : Tr} (hw : TrW τ) {N : Nat} (ho : τ.Ok N) {φ : Fz} {M : Nat} (hN : τ.sess.length ≤ M) (h : FzN τ φ M) (ha : φ.all = false) : FzN τ (fzNext τ φ) M := by
 unfold fzNext
 rcases e : fzAt τ φ with _ | y
 ·dsimp only
  refine ⟨h.many, h.nds, fun x hx => ?_, ?_, h.from', fun g => (by cases g)⟩
  ·dsimp only at hx; rw [h.none' ha, List.nil_append] at hx; exact hw.ss x hx
  ·dsimp only; rw [h.none' ha, List.nil_append]; exact hN
 ·obtain ⟨h1, h2⟩ := cnt_find ho.sorted e
  dsimp only
  refine ⟨?_, fun x hx => ?_, h.ss, h.sm, h.from', fun _ => h.none' ha⟩
  ·dsimp only
   rw [lastP_snoc, List.length_append, List.length_singleton]
   have := h.many
   omega
  ·rcases List.mem_append.1 hx with hx | hx
   ·exact h.nds x hx
   ·rw [List.mem_singleton] at hx; rw [hx]; exact hw.nd y h2
theorem FzN.step {τ : Tr} (hw : TrW τ) {N : Nat} (ho : τ.Ok N) {M : Nat} (hN : τ.sess.length ≤ M) : ∀ (n : Nat) {φ : Fz}, FzN τ φ M → FzN τ (fzStep τ n φ) M
 | 0, _, h => h
 | n + 1, φ, h => by
  unfold fzStep
  split
  ·exact h
  ·rename_i g; exact FzN.step hw ho hN n (h.next hw ho hN (by simpa using g))
/-! ### How many steps it takes -/
/-! ### A tree that stays -/
theorem sorted_last {l : List PN} (hs : SortedK l) {k : Nat} (hk : k < l.length) (h0 : ∀ y ∈ l, y.1 ≠ []) : (l.find? fun y => decide (lastP (l.take k) < y.1)) = some l[k] := by
 have hlt : ∀ i j (hi : i < l.length) (hj : j < l.length), i < j → l[i].1 < l[j].1 := fun i j hi hj hij => by
  have := (List.pairwise_map.1 hs)
  exact (List.pairwise_iff_getElem.1 this) i j hi hj hij
 have hl : lastP (l.take k) < l[k].1 := by
  cases k with
  | zero =>
   show ([] : Bs) < _
   have := h0 _ (List.getElem_mem hk)
   cases e : (l[0]).1 with
   | nil => exact absurd e this
   | cons c r => simp
  | succ k =>
   rw [List.take_succ_eq_append_getElem (by omega), lastP_snoc]
   exact hlt k (k + 1) (by omega) hk (by omega)
 rw [List.find?_eq_some_iff_getElem]
 refine ⟨by simpa using hl, k, hk, rfl, fun j hj => ?_⟩
 have hjl : j < l.length := by omega
 have : ¬ lastP (l.take k) < l[j].1 := by
  cases k with
  | zero => omega
  | succ k =>
   rw [List.take_succ_eq_append_getElem (by omega), lastP_snoc]
   by_cases e : j = k
   ·subst e; exact linB.irr _
   ·exact fun g => linB.irr _ (linB.tr _ _ _ g (hlt j k hjl (by omega) (by omega)))
 simpa using this
theorem still_at {τ : Tr} {N : Nat} (ho : τ.Ok N) (h0 : ∀ y ∈ τ.nodes, y.1 ≠ []) : ∀ k, k ≤ τ.nodes.length → fzStep τ k (beginZ τ) = ⟨τ.zx, τ.nodes.take k, [], false⟩
 | 0, _ => by rw [List.take_zero]; rfl
 | k + 1, hk => by
  rw [step_succ, still_at ho h0 k (by omega), if_neg (by simp)]
  unfold fzNext fzAt
  dsimp only
  rw [sorted_last ho.sorted (by omega) h0]
  dsimp only
  rw [List.take_succ_eq_append_getElem (by omega)]
theorem still_end {τ : Tr} {N : Nat} (ho : τ.Ok N) (h0 : ∀ y ∈ τ.nodes, y.1 ≠ []) {k : Nat} (hk : τ.nodes.length < k) : fzStep τ k (beginZ τ) = ⟨τ.zx, τ.nodes, τ.sess, true⟩ := by
 have h1 : fzStep τ (τ.nodes.length + 1) (beginZ τ) = ⟨τ.zx, τ.nodes, τ.sess, true⟩ := by
  rw [step_succ, still_at ho h0 _ (Nat.le_refl _), if_neg (by simp), List.take_length]
  unfold fzNext fzAt
  dsimp only
  have : (τ.nodes.find? fun y => decide (lastP τ.nodes < y.1)) = none := by
   rw [List.find?_eq_none]
   intro y hy
   rcases List.eq_nil_or_concat τ.nodes with e | ⟨l, z, e⟩
   ·rw [e] at hy; cases hy
   ·rw [List.concat_eq_append] at e
    rw [e, lastP_snoc]
    have hs := ho.sorted
    rw [e] at hs hy
    have hp := List.pairwise_append.1 (List.pairwise_map.1 hs)
    rcases List.mem_append.1 hy with hy | hy
    ·have := hp.2.2 y hy z (List.mem_singleton_self _)
     simpa using fun g => linB.irr _ (linB.tr _ _ _ g this)
    ·rw [List.mem_singleton] at hy; subst hy
     simp [linB.irr y.1]
  rw [this]
  rfl
 have : k = (τ.nodes.length + 1) + (k - (τ.nodes.length + 1)) := by omega
 rw [this, step_add, h1, step_all _ _ rfl]
theorem still_text {τ : Tr} {N : Nat} (ho : τ.Ok N) (h0 : ∀ y ∈ τ.nodes, y.1 ≠ []) {k : Nat} (hk : τ.nodes.length < k) : textZ (fzStep τ k (beginZ τ)) = encZ τ := by
 rw [still_end ho h0 hk]; rfl
theorem path_ne {τ : Tr} {N : Nat} (ho : τ.Ok N) : ∀ y ∈ τ.nodes, y.1 ≠ [] := fun y hy e => by
 rcases ho.able y hy with g | ⟨-, g⟩
 ·rw [e] at g; cases g
 ·rw [e] at g; exact absurd g (by decide)
def wrR (w : Nat) (bs : Bs) : HP := fun h => ∃ y : Option Addr × Nat, True ∧ sep [ptc w [.slice y.1 bs.length y.2, vint 0] 167, bytR (.slice y.1 bs.length y.2) bs] h
def rdW (r : Nat) (s : Bs) (at' : Nat) (e : Int) : HP := fun h => ∃ y : Nat × Nat, (at' ≤ s.length ∧ s.length ≤ 70368744177664) ∧ sep [ptc r [.slice (some ⟨y.1, 0, none⟩) s.length y.2, vint at', vint e] 188, bytR (.slice (some ⟨y.1, 0, none⟩) s.length y.2) s] h
def stW (s : Bs) (at' : Nat) (e : Int) : Rs := if e = 0 then some (s.drop at') else none
def rdR (r : Nat) (st : Rs) : HP := fun h => ∃ y : Bs × (Nat × Int), stW y.1 y.2.1 y.2.2 = st ∧ sep [rdW r y.1 y.2.1 y.2.2] h
section
variable {P : Program} {W : World} {n : Nat} {ds : List Deferred} {E : Env} {L R : List HP} {X : Act → World → Prop}
theorem G.wrOpen {w : Nat} {bs : Bs} (hL : Pick (wrR w bs) L R) (h : ∀ a c, G W n ds E (ptc w [.slice a bs.length c, vint 0] 167 :: bytR (.slice a bs.length c) bs :: R) X) : G W n ds E L X :=
 G.focus hL (G.open (q := fun y : Option Addr × Nat => [ptc w [.slice y.1 bs.length y.2, vint 0] 167, bytR (.slice y.1 bs.length y.2) bs]) (φ := fun _ => True) (fun _ hp => hp) fun y _ => h y.1 y.2)
theorem G.wrFold {w : Nat} (bs : Bs) {l xs : List Value} {a : Option Addr} {c m : Nat} (hL : Picks [ptc w l 167, slR 5 1 (.slice a m c) m xs] L R) (hl : l = [.slice a m c, vint 0]) (hm : m = bs.length) (hx : xs = bysL bs) (h : G W n ds E (wrR w bs :: R) X) : G W n ds E L X := by
 subst hl; subst hm; subst hx
 exact G.fold hL (fun _ hp => ⟨(a, c), trivial, hp⟩) h
theorem G.rdOpen {r : Nat} {s : Bs} {k : Nat} {e : Int} (hL : Pick (rdW r s k e) L R) (h : ∀ a c, k ≤ s.length → s.length ≤ 70368744177664 → G W n ds E (ptc r [.slice (some ⟨a, 0, none⟩) s.length c, vint k, vint e] 188 :: bytR (.slice (some ⟨a, 0, none⟩) s.length c) s :: R) X) : G W n ds E L X :=
 G.focus hL (G.open (q := fun y : Nat × Nat => [ptc r [.slice (some ⟨y.1, 0, none⟩) s.length y.2, vint k, vint e] 188, bytR (.slice (some ⟨y.1, 0, none⟩) s.length y.2) s]) (φ := fun _ => k ≤ s.length ∧ s.length ≤ 70368744177664) (fun _ hp => hp) fun y hy => h y.1 y.2 hy.1 hy.2)
theorem G.rdFold {r : Nat} (s : Bs) (k : Nat) (e : Int) {l : List Value} {a c : Nat} (hL : Picks [ptc r l 188, bytR (.slice (some ⟨a, 0, none⟩) s.length c) s] L R) (hl : l = [.slice (some ⟨a, 0, none⟩) s.length c, vint k, vint e]) (hk : k ≤ s.length) (hs : s.length ≤ 70368744177664) (h : G W n ds E (rdW r s k e :: R) X) : G W n ds E L X := by
 subst hl
 exact G.fold hL (fun _ hp => ⟨(a, c), ⟨hk, hs⟩, hp⟩) h
theorem Fn.rdUp {f : FuncId} {args : Array Value} {r : Nat} {α : Type} {d : α} {p : Pa α} {v : α → Value} (h : ∀ s k e, Fn P f args [rdW r s k e] fun u L => ∃ k' e', stW s k' e' = (runP d p (stW s k e)).2 ∧ u = v (runP d p (stW s k e)).1 ∧ L = [rdW r s k' e']) (st : Rs) :
  Fn P f args [rdR r st] fun u L => u = v (runP d p st).1 ∧ L = [rdR r (runP d p st).2] := by
 intro F w hs
 obtain ⟨h1, h2, hd, a1, a2, ⟨y, hy, hp⟩, hF⟩ := hs
 subst hy
 have hs' : St ([rdW r y.1 y.2.1 y.2.2] ++ F) w := sep_flat ⟨h1, h2, hd, a1, a2, hp, hF⟩
 refine (h _ _ _ F w hs').mono ?_
 rintro e w' ⟨u, L, ⟨k', e', h3, rfl, rfl⟩, he, hs2, hk⟩
 refine ⟨_, _, ⟨rfl, rfl⟩, he, sep_imp (fun hh hq => ⟨(y.1, (k', e')), h3, hh, fun _ => none, fun _ => .inr rfl, fun _ _ e => e, fun _ _ e => (by cases e), hq, trivial⟩) hs2, hk⟩
theorem Fn.rdEnd {f : FuncId} {args : Array Value} {r : Nat} (h : ∀ s k e, Fn P f args [rdW r s k e] fun u L => ∃ e1, (e1 = 0 ↔ stW s k e = some []) ∧ u = vint e1 ∧ L = [rdW r s k e1]) (st : Rs) :
  Fn P f args [rdR r st] fun u L => ∃ e1, (e1 = 0 ↔ st = some []) ∧ u = vint e1 ∧ ∃ st', L = [rdR r st'] := by
 intro F w hs
 obtain ⟨h1, h2, hd, a1, a2, ⟨y, hy, hp⟩, hF⟩ := hs
 subst hy
 have hs' : St ([rdW r y.1 y.2.1 y.2.2] ++ F) w := sep_flat ⟨h1, h2, hd, a1, a2, hp, hF⟩
 refine (h _ _ _ F w hs').mono ?_
 rintro e w' ⟨u, L, ⟨e1, h3, rfl, rfl⟩, he, hs2, hk⟩
 refine ⟨_, _, ⟨e1, h3, rfl, _, rfl⟩, he, sep_imp (fun hh hq => ⟨(y.1, (y.2.1, e1)), rfl, hh, fun _ => none, fun _ => .inr rfl, fun _ _ e => e, fun _ _ e => (by cases e), hq, trivial⟩) hs2, hk⟩
theorem rdW_up {r : Nat} {s : Bs} {k : Nat} {e : Int} {h : Hp} (hp : sep [rdW r s k e] h) : rdR r (stW s k e) h := ⟨(s, (k, e)), rfl, hp⟩
theorem G.rdUpF {r : Nat} {s : Bs} {k : Nat} {e : Int} {st : Rs} (hL : Pick (rdW r s k e) L R) (hs : stW s k e = st) (h : G W n ds E (rdR r st :: R) X) : G W n ds E L X := by
 subst hs; exact G.fold (.cons hL .nil) (fun _ hp => rdW_up hp) h
end
theorem slR_mid {b i j c : Nat} {s : Bs} {h : Hp} (hi : i ≤ j) (hj : j ≤ s.length) (hp : bytR (.slice (some ⟨b, 0, none⟩) s.length c) s h) : rdS 1 h (.slice (some (if c = i then ⟨b, 0, none⟩ else ⟨b, 0 + i * 1, none⟩)) (j - i) (c - i)) ((s.take j).drop i).length (((s.take j).drop i).map vbyte) := by
 obtain ⟨⟨rest, fr⟩, h1, h2, h3, h4, h5⟩ := slR_get hp
 have hl : ((s.take j).drop i).length = j - i := by rw [List.length_drop, List.length_take]; omega
 rcases Nat.lt_or_ge i j with g | g
 ·refine .inr ⟨b, i, c - i, bysL s ++ rest, 5, fr, ?_, h1, ?_, ?_, by omega⟩
  ·rw [if_neg (by omega), hl]; simp
  ·rw [hl, Nat.mul_one, List.drop_append_of_le_length (by simp [bysL]; omega), List.take_append_of_le_length (by simp [bysL]; omega)]
   unfold bysL
   rw [← List.map_drop, ← List.map_take, List.drop_take]
  ·rw [hl]; simp [bysL]; omega
 ·refine .inl ⟨by omega, ?_, ?_⟩
  ·rw [List.drop_eq_nil_of_le (by rw [List.length_take]; omega)]; rfl
  ·rw [show j - i = 0 by omega]; exact ⟨_, _, rfl⟩
/-! ### Bits -/
theorem u64wrap (x : Int) : IntKind.u64.wrap x = x % 18446744073709551616 := rfl
theorem u8wrap (x : Int) : IntKind.u8.wrap x = x % 256 := rfl
theorem bv8_or : ∀ b : BitVec 8, (b ||| 128#8).toNat = b.toNat % 128 + 128 := by decide +kernel
theorem byte_or (u : Nat) : Value.int .u8 (IntKind.u8.wrap (BitVec.ofInt IntKind.u8.bits (IntKind.u8.wrap (u : Int)) ||| BitVec.ofInt IntKind.u8.bits 128).toNat) = vbyte (UInt8.ofNat (u % 128 + 128)) := by
 show Value.int .u8 _ = Value.int .u8 _
 congr 1
 have h : (BitVec.ofInt 8 (IntKind.u8.wrap (u : Int)) ||| BitVec.ofInt 8 128).toNat = u % 128 + 128 := by
  rw [show BitVec.ofInt 8 128 = 128#8 from rfl, bv8_or, BitVec.toNat_ofInt, u8wrap]
  omega
 show IntKind.u8.wrap ((BitVec.ofInt 8 (IntKind.u8.wrap (u : Int)) ||| BitVec.ofInt 8 128).toNat : Int) = _
 rw [h, u8wrap, u8_ofNat (by omega)]
 omega
theorem byte_low {u : Nat} (h : u < 128) : Value.int .u8 (IntKind.u8.wrap (u : Int)) = vbyte (UInt8.ofNat u) := by
 show Value.int .u8 _ = Value.int .u8 _
 rw [u8wrap, u8_ofNat (by omega)]
 congr 1; omega
theorem zig_bits {n : Int} (h : -9223372036854775808 ≤ n ∧ n ≤ 9223372036854775807) : IntKind.u64.wrap (BitVec.ofInt IntKind.u64.bits (IntKind.u64.wrap (IntKind.u64.wrap n * 2 ^ min (1 : Int).toNat IntKind.u64.bits)) ^^^ BitVec.ofInt IntKind.u64.bits (IntKind.u64.wrap (n.fdiv (2 ^ min (63 : Int).toNat IntKind.i64.bits)))).toNat = (zigZ n : Int) := by
 have e1 : (2 : Int) ^ min (1 : Int).toNat IntKind.u64.bits = 2 := rfl
 have e2 : (2 : Int) ^ min (63 : Int).toNat IntKind.i64.bits = 9223372036854775808 := rfl
 rw [e1, e2, Int.fdiv_eq_ediv_of_nonneg _ (by decide)]
 show IntKind.u64.wrap ((BitVec.ofInt 64 (IntKind.u64.wrap (IntKind.u64.wrap n * 2)) ^^^ BitVec.ofInt 64 (IntKind.u64.wrap (n / 9223372036854775808))).toNat : Int) = _
 unfold zigZ
 by_cases h0 : 0 ≤ n
 ·rw [if_pos h0, show n / 9223372036854775808 = 0 by omega, show BitVec.ofInt 64 (IntKind.u64.wrap 0) = 0#64 from rfl, BitVec.xor_zero, BitVec.toNat_ofInt, u64wrap, u64wrap, u64wrap]
  omega
 ·rw [if_neg h0, show n / 9223372036854775808 = -1 by omega, show BitVec.ofInt 64 (IntKind.u64.wrap (-1)) = BitVec.allOnes 64 from rfl, BitVec.xor_allOnes, BitVec.toNat_not, BitVec.toNat_ofInt, u64wrap, u64wrap, u64wrap]
  omega
theorem u64_and1 (u : Nat) : IntKind.u64.wrap (BitVec.ofInt IntKind.u64.bits (u : Int) &&& BitVec.ofInt IntKind.u64.bits 1).toNat = ((u % 2 : Nat) : Int) := by
 show IntKind.u64.wrap ((BitVec.ofInt 64 (u : Int) &&& BitVec.ofInt 64 1).toNat : Int) = _
 have h : (BitVec.ofInt 64 (u : Int) &&& BitVec.ofInt 64 1).toNat = u % 2 := by
  rw [BitVec.toNat_and, show (BitVec.ofInt 64 1).toNat = 1 from rfl, Nat.and_one_is_mod, BitVec.toNat_ofInt]
  have e : ((2 ^ 64 : Nat) : Int) = 18446744073709551616 := rfl
  rw [e]; omega
 rw [h, u64wrap]; omega
theorem zag_bits {u : Nat} (h : u < U64) : IntKind.i64.wrap (BitVec.ofInt IntKind.i64.bits (IntKind.i64.wrap ((u : Int).fdiv (2 ^ min (1 : Int).toNat IntKind.u64.bits))) ^^^ BitVec.ofInt IntKind.i64.bits (-((u % 2 : Nat) : Int))).toNat = zagZ u := by
 have e1 : (2 : Int) ^ min (1 : Int).toNat IntKind.u64.bits = 2 := rfl
 have e64 : ((2 ^ 64 : Nat) : Int) = 18446744073709551616 := rfl
 unfold U64 at h
 rw [e1, Int.fdiv_eq_ediv_of_nonneg _ (by decide)]
 show IntKind.i64.wrap ((BitVec.ofInt 64 (IntKind.i64.wrap ((u : Int) / 2)) ^^^ BitVec.ofInt 64 (-((u % 2 : Nat) : Int))).toNat : Int) = _
 have e3 : IntKind.i64.wrap ((u : Int) / 2) = (u : Int) / 2 := i64w (by omega)
 rw [e3]
 unfold zagZ
 by_cases h0 : u % 2 = 0
 ·rw [if_pos h0, h0, show BitVec.ofInt 64 (-((0 : Nat) : Int)) = 0#64 from rfl, BitVec.xor_zero, BitVec.toNat_ofInt, wrap64, e64]
  omega
 ·rw [if_neg h0, show u % 2 = 1 by omega, show BitVec.ofInt 64 (-((1 : Nat) : Int)) = BitVec.allOnes 64 from rfl, BitVec.xor_allOnes, BitVec.toNat_not, BitVec.toNat_ofInt, wrap64, e64]
  omega
theorem bv8_and : ∀ b : BitVec 8, (b &&& 127#8).toNat = b.toNat % 128 := by decide +kernel
theorem byte_and (c : UInt8) : IntKind.u64.wrap (IntKind.u8.wrap (BitVec.ofInt IntKind.u8.bits (c.toNat : Int) &&& BitVec.ofInt IntKind.u8.bits 127).toNat) = ((c.toNat % 128 : Nat) : Int) := by
 have hc := c.toNat_lt
 have h : (BitVec.ofInt 8 (c.toNat : Int) &&& BitVec.ofInt 8 127).toNat = c.toNat % 128 := by
  rw [show BitVec.ofInt 8 127 = 127#8 from rfl, bv8_and, BitVec.toNat_ofInt]
  have e : ((2 ^ 8 : Nat) : Int) = 256 := rfl
  rw [e]; omega
 show IntKind.u64.wrap (IntKind.u8.wrap ((BitVec.ofInt 8 (c.toNat : Int) &&& BitVec.ofInt 8 127).toNat : Int)) = _
 rw [h, u8wrap, u64wrap]; omega
theorem pow7 (k : Nat) : (2 : Nat) ^ (7 * k) = 128 ^ k := by rw [Nat.pow_mul]
theorem sev_bits {k u x : Nat} (hk : k ≤ 9) (hu : u < 128 ^ k) (hx : x < 128) (h9 : k = 9 → x ≤ 1) :
  IntKind.u64.wrap (BitVec.ofInt IntKind.u64.bits (u : Int) ||| BitVec.ofInt IntKind.u64.bits (IntKind.u64.wrap ((x : Int) * 2 ^ min (7 * (k : Int)).toNat IntKind.u64.bits))).toNat = ((u + x * 128 ^ k : Nat) : Int) := by
 have em : min (7 * (k : Int)).toNat IntKind.u64.bits = 7 * k := by
  have : IntKind.u64.bits = 64 := rfl
  omega
 have hb : x * 128 ^ k < 18446744073709551616 := by
  rcases Nat.lt_or_ge k 9 with g | g
  ·have h4 : 128 ^ k ≤ 128 ^ 8 := Nat.pow_le_pow_right (by decide) (by omega)
   have e8 : (128 : Nat) ^ 8 = 72057594037927936 := by decide
   have : x * 128 ^ k ≤ 127 * 128 ^ 8 := Nat.mul_le_mul (by omega) h4
   omega
  ·have : k = 9 := by omega
   subst this
   have := h9 rfl
   have e9 : (128 : Nat) ^ 9 = 9223372036854775808 := by decide
   have : x * 128 ^ 9 ≤ 1 * 128 ^ 9 := Nat.mul_le_mul_right _ (by omega)
   omega
 have hu64 : u < 18446744073709551616 := by
  have h4 : 128 ^ k ≤ 128 ^ 9 := Nat.pow_le_pow_right (by decide) hk
  have e9 : (128 : Nat) ^ 9 = 9223372036854775808 := by decide
  omega
 have hs : u + x * 128 ^ k < 18446744073709551616 := by
  rcases Nat.lt_or_ge k 9 with g | g
  ·have h4 : 128 ^ (k + 1) ≤ 128 ^ 9 := Nat.pow_le_pow_right (by decide) (by omega)
   have e9 : (128 : Nat) ^ 9 = 9223372036854775808 := by decide
   have : x * 128 ^ k ≤ 127 * 128 ^ k := Nat.mul_le_mul_right _ (by omega)
   rw [Nat.pow_succ] at h4
   omega
  ·have : k = 9 := by omega
   subst this
   have := h9 rfl
   have e9 : (128 : Nat) ^ 9 = 9223372036854775808 := by decide
   have : x * 128 ^ 9 ≤ 1 * 128 ^ 9 := Nat.mul_le_mul_right _ (by omega)
   omega
 rw [em]
 have e2 : (x : Int) * 2 ^ (7 * k) = ((x * 128 ^ k : Nat) : Int) := by
  rw [← pow7]; simp
 have e4 : IntKind.u64.wrap ((x * 128 ^ k : Nat) : Int) = ((x * 128 ^ k : Nat) : Int) := by rw [u64wrap]; exact Int.emod_eq_of_lt (by omega) (by omega)
 rw [e2, e4]
 show IntKind.u64.wrap ((BitVec.ofInt 64 (u : Int) ||| BitVec.ofInt 64 ((x * 128 ^ k : Nat) : Int)).toNat : Int) = _
 have e3 : (BitVec.ofInt 64 (u : Int) ||| BitVec.ofInt 64 ((x * 128 ^ k : Nat) : Int)).toNat = u + x * 128 ^ k := by
  have e64 : ((2 ^ 64 : Nat) : Int) = 18446744073709551616 := rfl
  have f1 : (BitVec.ofInt 64 (u : Int)).toNat = u := by rw [BitVec.toNat_ofInt, e64]; omega
  have f2 : (BitVec.ofInt 64 ((x * 128 ^ k : Nat) : Int)).toNat = x * 128 ^ k := by rw [BitVec.toNat_ofInt, e64]; omega
  rw [BitVec.toNat_or, f1, f2, Nat.or_comm, ← pow7, ← Nat.shiftLeft_eq, ← Nat.shiftLeft_add_eq_or_of_lt (by rw [pow7]; exact hu), Nat.add_comm]
 rw [e3, u64wrap]
 omega
theorem cnew_spec : Fn Tryz.prog 47 #[] [] fun v L => ∃ w, v = vptr w ∧ L = [wrR w []] := by
 refine Fn.intro Tryz.func47 rfl rfl fun F W => ?_
 refine .sr (.an rfl (.sr (.q (.to (v' := .agg [.slice none 0 0, vint 0].toArray) (.buildN (pl := [(0, 2)]) (us := []) (cells := [.slice none 0 0, vint 0]) Tryz.underlying167 (by kernel_rfl) ze_167 rfl rfl) rfl) rfl (.oq (.box rfl) ?_))))
 rintro v L' ⟨w, rfl, rfl⟩
 refine .an rfl (.ret (.add (slR_nil 5 1) (.wrFold (w := w) [] (a := none) (c := 0) (m := 0) (by repeat' constructor) rfl rfl rfl ?_)))
 exact .dn rfl rfl ⟨w, rfl, rfl⟩
theorem cput_spec (w : Nat) (bs cs : Bs) (va : Value) (p : HP) (hp : ∀ h : Hp, p h → rdS 1 h va cs.length (bysL cs)) (hl : bs.length + cs.length ≤ 70368744177664) : Fn Tryz.prog 98 #[vptr w, va] [wrR w bs, p] fun v L => v = .tuple #[] ∧ L = [wrR w (bs ++ cs), p] := by
 refine Fn.intro Tryz.func98 rfl rfl fun F W => ?_
 refine .wrOpen (by repeat' constructor) fun wa wc => (.region (.m rfl (.m rfl (.nf rfl fo_165_0 (.u (.ld rfl ag_163) (.m rfl (.oq (.append (n := bs.length) (m := cs.length) (ys := bysL cs) (p := p) rfl rfl rfl el_163 (.inl ⟨_, Tryz.underlying163⟩) ze_5 rfl rfl ?hc7 hp ?hb8 (by decide)) ?_)))))))
 case hc7 => exact bysL_cell _
 case hb8 => omega
 rintro v L' ⟨⟨a6, c6, rfl⟩, rfl⟩
 refine .nf rfl fo_165_0 (.st rfl rfl rfl sz_163 ?_)
 refine .nil (.done_n (.wrFold (w := w) (bs ++ cs) (a := a6) (c := c6) (by repeat' constructor) (by rfl) (by simp) (by rw [bysL_append]) ?_))
 exact .vv
theorem sev_step {u : Nat} (h : 127 < u) (bs : Bs) : bs ++ [UInt8.ofNat (u % 128 + 128)] ++ sevZ (u / 128) = bs ++ sevZ u := by
 rw [sevZ.eq_1 u, if_neg (by omega), List.append_assoc]; rfl
theorem sev_last {u : Nat} (h : ¬ 127 < u) (bs : Bs) : bs ++ [UInt8.ofNat u] = bs ++ sevZ u := by
 rw [sevZ.eq_1 u, if_pos (by omega)]
theorem shr7 (u : Nat) : Value.int .u64 ((u : Int).fdiv (2 ^ min (7 : Int).toNat IntKind.u64.bits)) = .int .u64 ((u / 128 : Nat) : Int) := by
 have e1 : (2 : Int) ^ min (7 : Int).toNat IntKind.u64.bits = 128 := rfl
 rw [e1, Int.fdiv_eq_ediv_of_nonneg _ (by decide)]; rfl
theorem csevens_spec (w : Nat) (bs0 : Bs) (u0 : Nat) (hu : u0 < U64) (hl : bs0.length ≤ 70368744177568) : Fn Tryz.prog 99 #[vptr w, .int .u64 u0] [wrR w bs0] fun v L => v = .tuple #[] ∧ L = [wrR w (bs0 ++ sevZ u0)] := by
 refine Fn.intro Tryz.func99 rfl rfl fun F W => ?_
 have hs10 := sev_len10 hu
 refine .seq (.block (.loopK (ι := Nat × Bs) (fun q E => (1, .int .u64 q.1) :: E) (fun q => [wrR w q.2]) (fun q => q.1 ≤ u0 ∧ q.2 ++ sevZ q.1 = bs0 ++ sevZ u0) (fun q => q.1) (u0, bs0) (ts := [0]) (.cons rfl (.nil)) (⟨Nat.le_refl _, rfl⟩) ⟨rfl, rfl, trivial⟩ (by repeat' constructor) ?_))
 rintro ⟨u, bs⟩ ⟨hu0, heq⟩
 dsimp only
 dsimp only at hu0 heq
 have hbl := congrArg List.length heq
 simp only [List.length_append] at hbl
 have hsl := sev_len u
 refine .seq (.sm rfl (.ui rfl rfl rfl (.nt (.condD rfl (fun h5 => ?_) (fun h5 => ?_)))))
 ·have h127 : 127 < u := by omega
  refine .sk (.seq (.block (.region (.m rfl (.nf rfl fo_167_0 (.m rfl (.q (.conv rfl Tryz.underlying171 Tryz.underlying5) rfl (.q (.as (v' := vbyte (UInt8.ofNat (u % 128 + 128))) (by exact byte_or u) (.or rfl rfl)) rfl (.oq (.buildSlice1 (vs := [_]) el_163 ze_5 rfl rfl rfl rfl rfl (by decide)) ?_)))))))))
  rintro v L' ⟨b2, rfl, rfl⟩
  refine .slMake (b := b2) (n := 1) (c := 1) (xs := [vbyte (UInt8.ofNat (u % 128 + 128))]) (by repeat' constructor) (by decide) (by simp) rfl (.oq (.call Tryz.func98 rfl rfl (vs := [_, _]) rfl (cput_spec w bs [(UInt8.ofNat (u % 128 + 128))] _ (slR 5 1 (.slice (some ⟨b2, 0, none⟩) 1 1) 1 [vbyte (UInt8.ofNat (u % 128 + 128))]) (fun h hp => slR_rd hp) (by simp; omega))) ?_)
  rintro v L' ⟨rfl, rfl⟩
  refine .nil (.blk_n (.then_n (.region (.m rfl (.q (.as (v' := .int .u64 ((u / 128 : Nat) : Int)) (by exact shr7 u) (.shr rfl rfl (by first | decide | omega))) rfl (.an rfl ?_))))))
  exact .rk ((u / 128, bs ++ [(UInt8.ofNat (u % 128 + 128))])) (⟨by dsimp only; omega, by dsimp only; rw [sev_step (by omega)]; exact heq⟩) (by dsimp only; omega) ⟨rfl, rfl, trivial⟩
 have h127 : ¬ 127 < u := by omega
 refine .exit (.then_e (.then_e (.blk_e (.then_n (.region (.m rfl (.nf rfl fo_167_0 (.m rfl (.q (.as (v' := vbyte (UInt8.ofNat u)) (by exact byte_low (by omega)) (.conv rfl Tryz.underlying171 Tryz.underlying5)) rfl (.oq (.buildSlice1 (vs := [_]) el_163 ze_5 rfl rfl rfl rfl rfl (by decide)) ?_))))))))))
 rintro v L' ⟨b3, rfl, rfl⟩
 refine .slMake (b := b3) (n := 1) (c := 1) (xs := [vbyte (UInt8.ofNat u)]) (by repeat' constructor) (by decide) (by simp) rfl (.oq (.call Tryz.func98 rfl rfl (vs := [_, _]) rfl (cput_spec w bs [(UInt8.ofNat u)] _ (slR 5 1 (.slice (some ⟨b3, 0, none⟩) 1 1) 1 [vbyte (UInt8.ofNat u)]) (fun h hp => slR_rd hp) (by simp; omega))) ?_)
 rintro v L' ⟨rfl, rfl⟩
 refine .nil (.done_n ?_)
 rw [sev_last h127, heq]
 exact .vv
theorem cnum_spec (w : Nat) (bs : Bs) (n : Int) (hn : -9223372036854775808 ≤ n ∧ n ≤ 9223372036854775807) (hl : bs.length ≤ 70368744177568) : Fn Tryz.prog 53 #[vptr w, vint n] [wrR w bs] fun v L => v = .tuple #[] ∧ L = [wrR w (bs ++ numB n)] := by
 refine Fn.intro Tryz.func53 rfl rfl fun F W => ?_
 have hz := zig_lt hn
 refine .region (.m rfl (.m rfl (.q (.conv rfl Tryz.underlying3 Tryz.underlying171) rfl (.q (.shl rfl rfl (by first | decide | omega)) rfl (.m rfl (.q (.shr rfl rfl (by first | decide | omega)) rfl (.q (.conv rfl Tryz.underlying3 Tryz.underlying171) rfl (.q (.as (v' := .int .u64 (zigZ n : Nat)) (by exact congrArg (Value.int .u64) (zig_bits hn)) (.xor rfl rfl)) rfl (.oq (.c Tryz.func99 [_, _] (csevens_spec _ _ _ ?hu9 ?hl10)) ?_)))))))))
 case hu9 => assumption
 case hl10 => omega
 rintro v L' ⟨rfl, rfl⟩
 refine .nil (.done_n ?_)
 exact .vv
theorem ccount_spec (w : Nat) (bs : Bs) (n : Nat) (hn : n ≤ 70368744177664) (hl : bs.length ≤ 70368744177568) : Fn Tryz.prog 54 #[vptr w, vint n] [wrR w bs] fun v L => v = .tuple #[] ∧ L = [wrR w (bs ++ cntB n)] := by
 refine Fn.intro Tryz.func54 rfl rfl fun F W => ?_
 have hz : n < U64 := by unfold U64; omega
 refine .region (.m rfl (.m rfl (.u (.max2 rfl rfl) (.q (.as (v' := .int .u64 (n : Nat)) (by exact congrArg (Value.int .u64) (by rw [u64wrap]; omega)) (.conv rfl Tryz.underlying3 Tryz.underlying171)) rfl (.oq (.c Tryz.func99 [_, _] (csevens_spec _ _ _ ?hu5 ?hl6)) ?_)))))
 case hu5 => assumption
 case hl6 => omega
 rintro v L' ⟨rfl, rfl⟩
 refine .nil (.done_n ?_)
 exact .vv
theorem ctext_spec (w : Nat) (bs s : Bs) (hl : bs.length + s.length ≤ 70368744177368) : Fn Tryz.prog 52 #[vptr w, vstr s] [wrR w bs] fun v L => v = .tuple #[] ∧ L = [wrR w (bs ++ txtB s)] := by
 refine Fn.intro Tryz.func52 rfl rfl fun F W => ?_
 have hc : (cntB s.length).length ≤ 10 := sev_len10 (by unfold U64; omega)
 refine .sm rfl (.m rfl (.q (.strlen rfl Tryz.underlying9 rfl) rfl (.oq (.c Tryz.func54 [_, _] (ccount_spec _ _ _ ?hn4 ?hb5)) ?_)))
 case hn4 => first | assumption | omega
 case hb5 => omega
 rintro v L' ⟨rfl, rfl⟩
 refine .nt (.region (.m rfl (.nf rfl fo_167_0 (.m rfl (.oq (.strBytes rfl Tryz.underlying9 Tryz.underlying163 Tryz.underlying5) ?_)))))
 rintro v L' ⟨rfl, b8, c8, rfl⟩
 refine .oq (.call Tryz.func98 rfl rfl (vs := [_, _]) rfl (cput_spec w (bs ++ cntB s.length) s _ (slR 5 1 (.slice (some ⟨b8, 0, none⟩) s.length c8) s.length (s.map vbyte)) (fun h hp => slR_rd hp) (by simp; omega))) ?_
 rintro v L' ⟨rfl, rfl⟩
 refine .nil (.done_n ?_)
 rw [List.append_assoc]
 exact .vv
theorem cbytes_spec (w : Nat) (bs : Bs) : Fn Tryz.prog 55 #[vptr w] [wrR w bs] fun v L => v = vstr bs ∧ L = [wrR w bs] := by
 refine Fn.intro Tryz.func55 rfl rfl fun F W => ?_
 refine .wrOpen (by repeat' constructor) fun wa wc => (.sr (.an rfl (.sm rfl (.nf rfl fo_167_0 (.u (.fieldAddr rfl fo_165_0) (.u (.ld rfl ag_163) (.q (.bytesBy (cs := bs) (n := bs.length) (p := bytR (.slice wa bs.length wc) bs) rfl Tryz.underlying163 Tryz.underlying5 Tryz.underlying9 (fun h hp => slR_rd hp) (by repeat' constructor)) rfl (.an rfl (.ret (.wrFold (w := w) bs (by repeat' constructor) rfl rfl rfl ?_))))))))))
 exact .vv
theorem rleft_spec (r : Nat) (s : Bs) (k : Nat) (e : Int) : Fn Tryz.prog 127 #[vptr r] [rdW r s k e] fun v L => v = vint ((s.length : Int) - k) ∧ L = [rdW r s k e] := by
 refine Fn.intro Tryz.func127 rfl rfl fun F W => ?_
 refine .rdOpen (by repeat' constructor) fun ra rc hkl hsz => (.sr (.an rfl (.seq (.draw [] [[0, 1, 2, 3, 4, 5, 6, 7, 8, 9, 10]] mixed (by kernel_rfl) (.g0 (.mv rfl rfl (.nf rfl rfl rfl fo_165_0 (.kv rfl (.ld rfl ag_163) (.kv rfl (.slen rfl Tryz.underlying163 rfl) (.mv rfl rfl (.nf rfl rfl rfl fo_165_1 (.kv rfl (.ld rfl ag_3) (.kv rfl (.sub rfl rfl (by omega)) (.kv rfl (.assign rfl) (.pf (.ret (.rdFold (r := r) s (k) (e) (by repeat' constructor) (by first | rfl | (simp only [List.set]; congr; omega)) (by omega) hsz ?_)))))))))))))))))
 exact .vv
theorem rfails_spec (r : Nat) (s : Bs) (k : Nat) (e e' : Int) : Fn Tryz.prog 128 #[vptr r, vint e'] [rdW r s k e] fun v L => v = .tuple #[] ∧ L = [rdW r s k (if e = 0 then e' else e)] := by
 refine Fn.intro Tryz.func128 rfl rfl fun F W => ?_
 refine .rdOpen (by repeat' constructor) fun ra rc hkl hsz => (.sm rfl (.nf rfl fo_188_1 (.u (.ld rfl ag_31) (.ui rfl rfl rfl (.nt (.condD rfl (fun h8 => ?_) (fun h8 => ?_)))))))
 ·refine .region (.m rfl (.m rfl (.nf rfl fo_188_1 (.st rfl rfl rfl sz_31 ?_))))
  refine .nil (.done_n (.rdFold (r := r) s (k) (if e = 0 then e' else e) (by repeat' constructor) (by rw [if_pos h8]; rfl) (by omega) hsz ?_))
  exact .vv
 refine .skip (.done_n (.rdFold (r := r) s (k) (if e = 0 then e' else e) (by repeat' constructor) (by rw [if_neg h8]) (by omega) hsz ?_))
 exact .vv
theorem rfail_spec (r : Nat) (s : Bs) (k : Nat) (e : Int) : Fn Tryz.prog 91 #[vptr r] [rdW r s k e] fun v L => v = .tuple #[] ∧ L = [rdW r s k (if e = 0 then 11 else e)] := by
 refine Fn.intro Tryz.func91 rfl rfl fun F W => ?_
 refine .region (.m rfl (.cv Tryz.func128 [_, _] (rfails_spec _ _ _ _ _) ?_))
 refine .nil (.done_n ?_)
 exact .vv
def SevA (s : Bs) (k : Nat) (e : Int) (u m : Nat) (e' : Int) : Prop :=
 ((e ≠ 0 ∨ sevP 0 0 (s.drop k) = none) ∧ u = 0 ∧ m = 0 ∧ e' ≠ 0) ∨ (e = 0 ∧ e' = 0 ∧ k + m ≤ s.length ∧ sevP 0 0 (s.drop k) = some (u, s.drop (k + m)))
def badB (k : Nat) (c : UInt8) : Prop := (k = 9 ∧ 1 < c.toNat) ∨ (c.toNat = 0 ∧ 0 < k)
instance (k : Nat) (c : UInt8) : Decidable (badB k c) := inferInstanceAs (Decidable (_ ∨ _))
theorem sevP_at {s : Bs} {k j u : Nat} (h : k + j < s.length) : sevP j u (s.drop (k + j)) = if badB j s[k + j] then none else if s[k + j].toNat < 128 then some (u + s[k + j].toNat % 128 * 128 ^ j, s.drop (k + j + 1)) else sevP (j + 1) (u + s[k + j].toNat % 128 * 128 ^ j) (s.drop (k + j + 1)) := by
 rw [List.drop_eq_getElem_cons h]
 conv => lhs; unfold sevP
 rfl
theorem sevP_out {s : Bs} {k j u : Nat} (h : s.length ≤ k + j) : sevP j u (s.drop (k + j)) = none := by
 rw [List.drop_eq_nil_of_le h]; unfold sevP; rfl
theorem rsevens_spec (r : Nat) (s : Bs) (k : Nat) (e : Int) : Fn Tryz.prog 129 #[vptr r] [rdW r s k e] fun v L => ∃ u m e', SevA s k e u m e' ∧ v = .tuple #[.int .u64 (u : Nat), vint (m : Nat)] ∧ L = [rdW r s k e'] := by
 refine Fn.intro Tryz.func129 rfl rfl fun F W => ?_
 refine .rdOpen (by repeat' constructor) fun ra rc hkl hsz => (.sr (.a rfl (.an rfl (.seq (.sr ?_)))))
 rcases Decidable.em (e = 0) with he0 | he0
 ·subst he0
  refine .m rfl (.nf rfl fo_188_1 (.u (.ld rfl ag_31) (.q (.as (v' := .bool false) (by rfl) (.int rfl rfl rfl)) rfl (.nt (.condF rfl (.sk (.sr (.an rfl (.seq (.sm rfl (.nf rfl fo_188_0 (.rdFold (r := r) s (k) (0) (by repeat' constructor) (by first | rfl | (simp only [List.set]; congr; omega)) (by omega) hsz (.cv Tryz.func127 [_] (rleft_spec r s k 0) ?_)))))))))))))
  refine .m rfl (.nil (.rdOpen (by repeat' constructor) fun ra1 rc1 _ _ => (.then_n (.block (.loopK (ι := Nat × Nat) (fun q E => (16, vint q.1) :: (4, .int .u64 q.2) :: E) (fun q => []) (fun q => k + q.1 ≤ s.length ∧ q.1 ≤ 9 ∧ q.2 < 128 ^ q.1 ∧ sevP q.1 q.2 (s.drop (k + q.1)) = sevP 0 0 (s.drop k)) (fun q => s.length - q.1) (0, 0) (ts := [0, 15]) (.cons rfl (.cons rfl (.nil))) (⟨by dsimp only; omega, by dsimp only; omega, by dsimp only; decide, rfl⟩) ⟨rfl, rfl, rfl, rfl, trivial⟩ (by repeat' constructor) ?_)))))
  rintro ⟨j, u⟩ ⟨hj, hj9, huj, hsv⟩
  dsimp only
  dsimp only at hj hj9 huj hsv
  refine .sr (.ui rfl rfl rfl (.nt (.seq (.condD rfl (fun h17 => ?_) (fun h17 => ?_)))))
  ·have hlt : k + j < s.length := by omega
   have hxl := s[k + j].toNat_lt
   refine .sk (.seq (.block (.sm rfl (.an rfl (.seq (.draw [] [[0, 1, 2, 3, 4, 5, 6, 7, 8, 9, 10, 11, 12, 13, 14]] mixed (by kernel_rfl) (.g0 (.mv rfl rfl (.nf rfl rfl rfl fo_188_0 (.kv rfl (.fieldAddr rfl fo_165_0) (.kv rfl (.ld rfl ag_163) (.mv rfl rfl (.nf rfl rfl rfl fo_188_0 (.kv rfl (.fieldAddr rfl fo_165_1) (.kv rfl (.ld rfl ag_3) (.mv rfl rfl (.kv rfl (.add rfl rfl (by omega)) (.kv rfl (.indexAddr rfl rfl el_163 (by omega)) (.kv rfl (.loadRd (sz := 1) (j := k + j) (p := bytR (.slice _ s.length _) s) (v := vbyte s[k + j]) rfl ag_5 (by repeat' constructor) (fun h hp => slR_rd hp) (by omega) (by simp [bysL, List.getElem?_eq_getElem hlt])) ?_)))))))))))))))))))
   refine D.kv rfl (.assign rfl) (.pf (.seq (.seq (.joinK (ι := Bool) (fun q E => (46, .bool q) :: E) (fun q => []) (fun q => q = decide (badB j s[k + j])) (pre := []) (ts := [0, 4, 5, 6, 15, 16, 17, 18, 19, 20, 21, 22, 23, 24, 25, 26, 27, 28, 29, 30, 31, 32]) (.cons rfl (.cons rfl (.cons rfl (.cons rfl (.cons rfl (.cons rfl (.cons rfl (.cons rfl (.cons rfl (.cons rfl (.cons rfl (.cons rfl (.cons rfl (.cons rfl (.cons rfl (.cons rfl (.cons rfl (.cons rfl (.cons rfl (.cons rfl (.cons rfl (.cons rfl (.nil))))))))))))))))))))))) (by repeat' constructor) ?_ ?_))))
   ·refine .region (.m rfl (.ui rfl rfl rfl (.m rfl (.dec (t := 35) rfl (fun h8_35 => ?_) (fun h8_35 => ?_)))))
    ·refine .kDT (t := 34) rfl h8_35 (.grun (t := 35) rfl rfl rfl (.m rfl (.grun (t := 35) rfl rfl rfl (.ui rfl rfl rfl (.u (.pickT rfl rfl) (.m rfl (.dec (t := 39) rfl (fun h8_39 => ?_) (fun h8_39 => ?_))))))))
     ·refine .kDT (t := 37) rfl h8_39 (.kDT (t := 38) rfl h8_39 (.gk (.gk (.gk (.gskipU (t := 42) rfl rfl rfl (.gskipU (t := 42) rfl rfl rfl (.gk (.u (.pickT rfl rfl) (.nt ?_)))))))))
      exact .mk (true) ((by rw [decide_eq_true]; exact .inl ⟨by omega, by omega⟩)) ⟨rfl, rfl, rfl, rfl, rfl, rfl, rfl, rfl, rfl, rfl, rfl, rfl, rfl, rfl, rfl, rfl, rfl, rfl, rfl, rfl, rfl, rfl, rfl, trivial⟩
     refine .kDF (t := 37) rfl h8_39 (.kDF (t := 38) rfl h8_39 (.grun (t := 39) rfl rfl rfl (.m rfl (.grun (t := 39) rfl rfl rfl (.ui rfl rfl rfl (.grun (t := 39) rfl rfl rfl (.m rfl (.dec (t := 42) rfl (fun h8_42 => ?_) (fun h8_42 => ?_)))))))))
     ·refine .kDT (t := 41) rfl h8_42 (.grun (t := 42) rfl rfl rfl (.m rfl (.grun (t := 42) rfl rfl rfl (.ui rfl rfl rfl (.grun (t := 39) rfl rfl rfl (.u (.pickT rfl rfl) (.u (.pickF rfl rfl) (.nt ?_))))))))
      exact .mk ((decide ((j : Int) > 0))) ((by exact decide_eq_decide.2 ⟨fun g => .inr ⟨by omega, by omega⟩, fun g => by rcases g with ⟨g1, g2⟩ | ⟨g1, g2⟩ <;> omega⟩)) ⟨rfl, rfl, rfl, rfl, rfl, rfl, rfl, rfl, rfl, rfl, rfl, rfl, rfl, rfl, rfl, rfl, rfl, rfl, rfl, rfl, rfl, rfl, rfl, trivial⟩
     refine .kDF (t := 41) rfl h8_42 (.gk (.gk (.grun (t := 39) rfl rfl rfl (.u (.pickF rfl rfl) (.u (.pickF rfl rfl) (.nt ?_))))))
     exact .mk (false) ((by exact (decide_eq_false (by rintro (⟨g1, g2⟩ | ⟨g1, g2⟩) <;> omega)).symm)) ⟨rfl, rfl, rfl, rfl, rfl, rfl, rfl, rfl, rfl, rfl, rfl, rfl, rfl, rfl, rfl, rfl, rfl, rfl, rfl, rfl, rfl, rfl, rfl, trivial⟩
    refine .kDF (t := 34) rfl h8_35 (.gk (.gk (.u (.pickF rfl rfl) (.m rfl (.grun (t := 39) rfl rfl rfl (.m rfl (.grun (t := 39) rfl rfl rfl (.ui rfl rfl rfl (.grun (t := 39) rfl rfl rfl (.m rfl (.dec (t := 42) rfl (fun h8_42 => ?_) (fun h8_42 => ?_))))))))))))
    ·refine .kDT (t := 41) rfl h8_42 (.grun (t := 42) rfl rfl rfl (.m rfl (.grun (t := 42) rfl rfl rfl (.ui rfl rfl rfl (.grun (t := 39) rfl rfl rfl (.u (.pickT rfl rfl) (.u (.pickF rfl rfl) (.nt ?_))))))))
     exact .mk ((decide ((j : Int) > 0))) ((by exact decide_eq_decide.2 ⟨fun g => .inr ⟨by omega, by omega⟩, fun g => by rcases g with ⟨g1, g2⟩ | ⟨g1, g2⟩ <;> omega⟩)) ⟨rfl, rfl, rfl, rfl, rfl, rfl, rfl, rfl, rfl, rfl, rfl, rfl, rfl, rfl, rfl, rfl, rfl, rfl, rfl, rfl, rfl, rfl, rfl, trivial⟩
    refine .kDF (t := 41) rfl h8_42 (.gk (.gk (.grun (t := 39) rfl rfl rfl (.u (.pickF rfl rfl) (.u (.pickF rfl rfl) (.nt ?_))))))
    exact .mk (false) ((by exact (decide_eq_false (by rintro (⟨g1, g2⟩ | ⟨g1, g2⟩) <;> omega)).symm)) ⟨rfl, rfl, rfl, rfl, rfl, rfl, rfl, rfl, rfl, rfl, rfl, rfl, rfl, rfl, rfl, rfl, rfl, rfl, rfl, rfl, rfl, rfl, rfl, trivial⟩
   rintro b hb
   subst hb
   refine .condD rfl (fun h46 => ?_) (fun h46 => ?_)
   ·refine .seq (.rdFold (r := r) s (k) (0) (by repeat' constructor) (by first | rfl | (simp only [List.set]; congr; omega)) (by omega) hsz (.region (.m rfl (.oq (.c Tryz.func128 [_, _] (rfails_spec r s k 0 11)) ?_))))
    rintro v L' ⟨rfl, rfl⟩; rw [if_pos rfl]
    refine .nt (.sr (.a rfl (.an rfl (.rt (.blk_r (.then_r (.then_r (.blk_r (.then_r ?_)))))))))
    exact .dn rfl rfl ⟨0, 0, 11, .inl ⟨.inr (by rw [← hsv, sevP_at hlt, if_pos h46]), rfl, rfl, by decide⟩, rfl, rfl⟩
   have h9 : j = 9 → s[k + j].toNat ≤ 1 := fun g => by rcases Nat.lt_or_ge 1 s[k + j].toNat with g2 | g2; exact absurd (.inl ⟨g, g2⟩) h46; exact g2
   refine .sk (.sm rfl (.m rfl (.u (.and rfl rfl) (.q (.as (v' := .int .u64 ((s[k + j].toNat % 128 : Nat) : Int)) (by exact congrArg (Value.int .u64) (byte_and _)) (.conv rfl Tryz.underlying5 Tryz.underlying171)) rfl (.m rfl (.q (.mul rfl rfl (by omega)) rfl (.q (.shl rfl rfl (by first | decide | omega)) rfl (.q (.as (v' := .int .u64 ((u + s[k + j].toNat % 128 * 128 ^ j : Nat) : Int)) (by exact congrArg (Value.int .u64) (sev_bits hj9 huj (by omega) (fun g => by have := h9 g; omega))) (.or rfl rfl)) rfl (.an rfl (.sm rfl (.ui rfl rfl rfl (.nt (.condD rfl (fun h58 => ?_) (fun h58 => ?_))))))))))))))
   ·refine .sm rfl (.m rfl (.q (.add rfl rfl (by omega)) rfl (.a rfl (.an rfl (.ret (.blk_r (.then_r (.then_r (.blk_r (.then_r (.rdFold (r := r) s (k) (0) (by repeat' constructor) (by first | rfl | (simp only [List.set]; congr; omega)) (by omega) hsz ?_)))))))))))
    exact .dn rfl rfl ⟨_, j + 1, 0, .inr ⟨rfl, rfl, by omega, by rw [← hsv, sevP_at hlt, if_neg h46, if_pos (by omega)]; rfl⟩, rfl, rfl⟩
   refine .skip (.blk_n (.then_n (.region (.q (.add rfl rfl (by omega)) rfl (.m rfl (.nt ?_))))))
   exact .rk ((j + 1, u + s[k + j].toNat % 128 * 128 ^ j)) (⟨by dsimp only; omega, by dsimp only; rcases Nat.lt_or_ge j 9 with g | g; (omega); exact absurd (h9 (by omega)) (by omega), by dsimp only; rw [Nat.pow_succ]; have := Nat.mul_le_mul_right (128 ^ j) (show s[k + j].toNat % 128 ≤ 127 by omega); omega, by dsimp only; rw [← hsv, sevP_at hlt, if_neg h46, if_neg (by omega)]; rfl⟩) (by dsimp only; omega) ⟨rfl, rfl, rfl, rfl, trivial⟩
  refine .exit (.then_e (.then_e (.blk_e (.then_n (.seq (.rdFold (r := r) s (k) (0) (by repeat' constructor) (by first | rfl | (simp only [List.set]; congr; omega)) (by omega) hsz (.region (.m rfl (.oq (.c Tryz.func128 [_, _] (rfails_spec r s k 0 10)) ?_)))))))))
  rintro v L' ⟨rfl, rfl⟩; rw [if_pos rfl]
  refine .nt (.sr (.a rfl (.an rfl (.ret ?_))))
  exact .dn rfl rfl ⟨0, 0, 10, .inl ⟨.inr (by rw [← hsv]; exact sevP_out (by omega)), rfl, rfl, by decide⟩, rfl, rfl⟩
 refine .m rfl (.nf rfl fo_188_1 (.u (.ld rfl ag_31) (.q (.as (v' := .bool true) (by simp [he0]) (.int rfl rfl rfl)) rfl (.nt (.condT rfl (.sr (.a rfl (.an rfl (.rt (.rdFold (r := r) s (k) (e) (by repeat' constructor) (by first | rfl | (simp only [List.set]; congr; omega)) (by omega) hsz ?_))))))))))
 exact .dn rfl rfl ⟨0, 0, e, .inl ⟨.inl he0, rfl, rfl, he0⟩, rfl, rfl⟩
theorem SevA.lt {s : Bs} {k : Nat} {e : Int} {u m : Nat} {e' : Int} (h : SevA s k e u m e') : u < U64 := by
 rcases h with ⟨-, rfl, -⟩ | ⟨-, -, -, h⟩
 ·decide
 ·exact sevP_lt 0 0 _ _ _ h (by decide) (by decide)
theorem SevA.le {s : Bs} {k : Nat} {e : Int} {u m : Nat} {e' : Int} (h : SevA s k e u m e') (hk : k ≤ s.length) : k + m ≤ s.length := by
 rcases h with ⟨-, -, rfl, -⟩ | ⟨-, -, h, -⟩
 ·exact hk
 ·exact h
theorem SevA.num {s : Bs} {k : Nat} {e : Int} {u m : Nat} {e' : Int} (h : SevA s k e u m e') : stW s (k + m) e' = (runP 0 numP (stW s k e)).2 ∧ zagZ u = (runP 0 numP (stW s k e)).1 := by
 rcases h with ⟨h1, rfl, rfl, h2⟩ | ⟨rfl, rfl, -, h⟩
 ·have e2 : stW s (k + 0) e' = none := if_neg h2
  rw [e2]
  rcases h1 with h1 | h1
  ·have e1 : stW s k e = none := if_neg h1
   rw [e1]; exact ⟨rfl, rfl⟩
  ·unfold stW
   split
   ·unfold runP numP; dsimp only; rw [h1]; exact ⟨rfl, rfl⟩
   ·exact ⟨rfl, rfl⟩
 ·have e1 : stW s k 0 = some (s.drop k) := if_pos rfl
  have e2 : stW s (k + m) 0 = some (s.drop (k + m)) := if_pos rfl
  rw [e1, e2]
  unfold runP numP; dsimp only; rw [h]; exact ⟨rfl, rfl⟩
theorem SevA.cntT {s : Bs} {k : Nat} {e : Int} {u m : Nat} {e' : Int} {most : Nat} (h : SevA s k e u m e') (hm : most < u) : runP 0 (cntP most) (stW s k e) = (0, none) := by
 rcases h with ⟨h1, rfl, rfl, h2⟩ | ⟨rfl, rfl, -, h⟩
 ·omega
 ·have e1 : stW s k 0 = some (s.drop k) := if_pos rfl
  rw [e1]
  unfold runP cntP; dsimp only; rw [h]; dsimp only; rw [if_pos hm]
theorem SevA.cntF {s : Bs} {k : Nat} {e : Int} {u m : Nat} {e' : Int} {most : Nat} (h : SevA s k e u m e') (hm : ¬ most < u) : stW s (k + m) e' = (runP 0 (cntP most) (stW s k e)).2 ∧ u = (runP 0 (cntP most) (stW s k e)).1 := by
 rcases h with ⟨h1, rfl, rfl, h2⟩ | ⟨rfl, rfl, -, h⟩
 ·have e2 : stW s (k + 0) e' = none := if_neg h2
  rw [e2]
  rcases h1 with h1 | h1
  ·have e1 : stW s k e = none := if_neg h1
   rw [e1]; exact ⟨rfl, rfl⟩
  ·unfold stW
   split
   ·unfold runP cntP; dsimp only; rw [h1]; exact ⟨rfl, rfl⟩
   ·exact ⟨rfl, rfl⟩
 ·have e1 : stW s k 0 = some (s.drop k) := if_pos rfl
  have e2 : stW s (k + m) 0 = some (s.drop (k + m)) := if_pos rfl
  rw [e1, e2]
  unfold runP cntP; dsimp only; rw [h]; dsimp only; rw [if_neg hm]; exact ⟨rfl, rfl⟩
theorem st_none {s : Bs} {k : Nat} {e x : Int} (hx : x ≠ 0) : stW s k (if e = 0 then x else e) = none := by
 refine if_neg ?_
 split
 ·exact hx
 ·assumption
theorem txt_run {s : Bs} {k : Nat} {e : Int} {most n k1 : Nat} {e1 : Int} (h1 : stW s k1 e1 = (runP 0 (cntP most) (stW s k e)).2) (hn : n = (runP 0 (cntP most) (stW s k e)).1) (hk : k1 ≤ s.length) :
  ((s.length : Int) - k1 < n → runP [] (txtP most) (stW s k e) = ([], none)) ∧ (¬ (s.length : Int) - k1 < n → stW s (k1 + n) e1 = (runP [] (txtP most) (stW s k e)).2 ∧ (s.take (k1 + n)).drop k1 = (runP [] (txtP most) (stW s k e)).1) := by
 cases hst : stW s k e with
 | none =>
  rw [hst] at h1 hn
  have h1 : stW s k1 e1 = none := h1
  have hn : n = 0 := hn
  subst hn
  refine ⟨fun h => by omega, fun _ => ⟨?_, ?_⟩⟩
  ·unfold stW at h1 ⊢
   split at h1
   ·cases h1
   ·rename_i g; rw [if_neg g]; rfl
  ·rw [Nat.add_zero, List.drop_eq_nil_of_le (by rw [List.length_take]; omega)]; rfl
 | some q =>
  rw [hst] at h1 hn
  cases hc : cntP most q with
  | none =>
   have f : runP 0 (cntP most) (some q) = (0, none) := by unfold runP; dsimp only; rw [hc]
   have f2 : runP [] (txtP most) (some q) = ([], none) := by unfold runP txtP; dsimp only; rw [hc]
   rw [f] at h1 hn
   rw [f2]
   have h1 : stW s k1 e1 = none := h1
   have hn : n = 0 := hn
   subst hn
   refine ⟨fun h => by omega, fun _ => ⟨?_, ?_⟩⟩
   ·unfold stW at h1 ⊢
    split at h1
    ·cases h1
    ·rename_i g; rw [if_neg g]
   ·rw [Nat.add_zero, List.drop_eq_nil_of_le (by rw [List.length_take]; omega)]
  | some x =>
   obtain ⟨m, z⟩ := x
   have f : runP 0 (cntP most) (some q) = (m, some z) := by unfold runP; dsimp only; rw [hc]
   rw [f] at h1 hn
   have h1 : stW s k1 e1 = some z := h1
   have hn : n = m := hn
   subst hn
   unfold stW at h1
   split at h1
   ·rename_i g
    subst g
    have h1 : s.drop k1 = z := Option.some.inj h1
    subst h1
    have hl : (s.drop k1).length = s.length - k1 := List.length_drop
    refine ⟨fun h => ?_, fun h => ?_⟩
    ·unfold runP txtP; dsimp only; rw [hc]; dsimp only; rw [if_pos (by omega)]
    ·have e2 : stW s (k1 + n) 0 = some (s.drop (k1 + n)) := if_pos rfl
     have f2 : runP [] (txtP most) (some q) = ((s.drop k1).take n, some ((s.drop k1).drop n)) := by unfold runP txtP; dsimp only; rw [hc]; dsimp only; rw [if_neg (by omega)]
     rw [e2, f2, List.drop_drop, List.drop_take]
     exact ⟨rfl, by rw [show k1 + n - k1 = n by omega]⟩
   ·cases h1
theorem rnumW_spec (r : Nat) (s : Bs) (k : Nat) (e : Int) : Fn Tryz.prog 92 #[vptr r] [rdW r s k e] fun v L => ∃ k' e', stW s k' e' = (runP 0 numP (stW s k e)).2 ∧ v = vint (runP 0 numP (stW s k e)).1 ∧ L = [rdW r s k' e'] := by
 refine Fn.intro Tryz.func92 rfl rfl fun F W => ?_
 refine .sr (.an rfl (.sm rfl (.oq (.c Tryz.func129 [_] (rsevens_spec r s k e)) ?_)))
 rintro v L' ⟨u, m, e', hA, rfl, rfl⟩; have hu := hA.lt
 refine .m rfl (.u (.extract rfl rfl) (.u (.extract rfl rfl) (.a rfl (.an rfl (.seq (.rdOpen (by repeat' constructor) fun ra rc hkl hsz => ?_))))))
 have hkm := hA.le hkl
 refine .region (.m rfl (.nf rfl fo_188_0 (.u (.fieldAddr rfl fo_165_1) (.u (.ld rfl ag_3) (.m rfl (.q (.add rfl rfl (by omega)) rfl (.nf rfl fo_188_0 (.u (.fieldAddr rfl fo_165_1) (.st rfl rfl rfl sz_3 ?_)))))))))
 refine .nt (.sm rfl (.q (.shr rfl rfl (by first | decide | omega)) rfl (.q (.conv rfl Tryz.underlying171 Tryz.underlying3) rfl (.m rfl (.q (.as (v' := .int .u64 ((u % 2 : Nat) : Int)) (by exact congrArg (Value.int .u64) (u64_and1 u)) (.and rfl rfl)) rfl (.q (.as (v' := vint ((u % 2 : Nat) : Int)) (by rw [i64w (by omega)]) (.conv rfl Tryz.underlying171 Tryz.underlying3)) rfl (.q (.neg rfl (by omega)) rfl (.q (.as (v' := vint (zagZ u)) (by exact congrArg (Value.int .i64) (zag_bits hu)) (.xor rfl rfl)) rfl (.an rfl (.ret (.rdFold (r := r) s (k + m) (e') (by repeat' constructor) (by first | rfl | (simp only [List.set]; congr; omega)) (by omega) hsz ?_)))))))))))
 rw [hA.num.2]
 exact .dn rfl rfl ⟨k + m, e', hA.num.1, rfl, rfl⟩
theorem rcountW_spec (r most : Nat) (hm : most ≤ 70368744177664) (s : Bs) (k : Nat) (e : Int) : Fn Tryz.prog 93 #[vptr r, vint most] [rdW r s k e] fun v L => ∃ k' e', stW s k' e' = (runP 0 (cntP most) (stW s k e)).2 ∧ v = vint ((runP 0 (cntP most) (stW s k e)).1 : Nat) ∧ L = [rdW r s k' e'] := by
 refine Fn.intro Tryz.func93 rfl rfl fun F W => ?_
 refine .sr (.an rfl (.sm rfl (.oq (.c Tryz.func129 [_] (rsevens_spec r s k e)) ?_)))
 rintro v L' ⟨u, m, e', hA, rfl, rfl⟩; have hu := hA.lt
 refine .m rfl (.u (.extract rfl rfl) (.u (.extract rfl rfl) (.a rfl (.an rfl (.seq (.sm rfl (.m rfl (.u (.max2 rfl rfl) (.q (.as (v' := .int .u64 (most : Nat)) (by exact congrArg (Value.int .u64) (by rw [u64wrap]; omega)) (.conv rfl Tryz.underlying3 Tryz.underlying171)) rfl (.ui rfl rfl rfl (.nt (.condD rfl (fun h16 => ?_) (fun h16 => ?_)))))))))))))
 ·refine .sm rfl (.cv Tryz.func128 [_, _] (rfails_spec r s k e' 12) ?_)
  refine .nt (.sr (.an rfl (.rt ?_)))
  rw [hA.cntT (most := most) (by omega)]
  exact .dn rfl rfl ⟨k, _, st_none (x := 12) (by decide), rfl, rfl⟩
 refine .sk (.seq (.rdOpen (by repeat' constructor) fun ra rc hkl hsz => ?_))
 have hkm := hA.le hkl
 refine .region (.m rfl (.nf rfl fo_188_0 (.u (.fieldAddr rfl fo_165_1) (.u (.ld rfl ag_3) (.m rfl (.q (.add rfl rfl (by omega)) rfl (.nf rfl fo_188_0 (.u (.fieldAddr rfl fo_165_1) (.st rfl rfl rfl sz_3 ?_)))))))))
 refine .nt (.sm rfl (.q (.as (v' := vint (u : Nat)) (by rw [i64w (by omega)]) (.conv rfl Tryz.underlying171 Tryz.underlying3)) rfl (.an rfl (.ret (.rdFold (r := r) s (k + m) (e') (by repeat' constructor) (by first | rfl | (simp only [List.set]; congr; omega)) (by omega) hsz ?_)))))
 obtain ⟨hc1, hc2⟩ := hA.cntF (most := most) (by omega)
 rw [hc2]
 exact .dn rfl rfl ⟨k + m, e', hc1, rfl, rfl⟩
theorem rtextW_spec (r most : Nat) (hm : most ≤ 70368744177664) (s : Bs) (k : Nat) (e : Int) : Fn Tryz.prog 90 #[vptr r, vint most] [rdW r s k e] fun v L => ∃ k' e', stW s k' e' = (runP [] (txtP most) (stW s k e)).2 ∧ v = vstr (runP [] (txtP most) (stW s k e)).1 ∧ L = [rdW r s k' e'] := by
 refine Fn.intro Tryz.func90 rfl rfl fun F W => ?_
 refine .rdOpen (by repeat' constructor) fun ra rc hkl hsz => (.sr (.an rfl (.sm rfl (.nf rfl fo_188_0 (.u (.fieldAddr rfl fo_165_1) (.u (.ld rfl ag_3) (.a rfl (.nil (.rdFold (r := r) s (k) (e) (by repeat' constructor) (by first | rfl | (simp only [List.set]; congr; omega)) (by omega) hsz (.then_n (.sm rfl (.m rfl (.oq (.c Tryz.func93 [_, _] (rcountW_spec r most hm s k e)) ?_)))))))))))))
 rintro v L' ⟨k1, e1, hs1, rfl, rfl⟩
 obtain ⟨n, hn⟩ : ∃ n, n = (runP 0 (cntP most) (stW s k e)).1 := ⟨_, rfl⟩
 rw [← hn]
 refine .a rfl (.nil (.rdOpen (by repeat' constructor) fun ra2 rc2 hk1 _ => ?_))
 have hrun := txt_run hs1 hn hk1
 refine .rdFold (r := r) s k1 e1 (by repeat' constructor) rfl hk1 hsz (.then_n (.seq (.sm rfl (.nf rfl fo_188_0 (.cv Tryz.func127 [_] (rleft_spec r s k1 e1) ?_)))))
 refine .m rfl (.ui rfl rfl rfl (.nt (.condD rfl (fun h20 => ?_) (fun h20 => ?_))))
 ·refine .seq (.rdOpen (by repeat' constructor) fun ra3 rc3 _ _ => (.region (.m rfl (.m rfl (.nf rfl fo_188_0 (.u (.fieldAddr rfl fo_165_1) (.st rfl rfl rfl sz_3 ?_)))))))
  refine .nil (.rdFold (r := r) s (k) (e1) (by repeat' constructor) (by first | rfl | (simp only [List.set]; congr; omega)) (by omega) hsz (.then_n (.sm rfl (.cv Tryz.func128 [_, _] (rfails_spec r s k e1 10) ?_))))
  refine .nt (.sr (.an rfl (.rt ?_)))
  rw [hrun.1 h20]
  exact .dn rfl rfl ⟨k, _, st_none (x := 10) (by decide), rfl, rfl⟩
 refine .sk (.seq (.rdOpen (by repeat' constructor) fun ra3 rc3 _ _ => ?_))
 obtain ⟨hr1, hr2⟩ := hrun.2 h20
 refine .region (.m rfl (.nf rfl fo_188_0 (.u (.fieldAddr rfl fo_165_1) (.u (.ld rfl ag_3) (.m rfl (.q (.add rfl rfl (by omega)) rfl (.nf rfl fo_188_0 (.u (.fieldAddr rfl fo_165_1) (.st rfl rfl rfl sz_3 ?_)))))))))
 refine .nil (.ptCast (b := r) (l' := [.slice (some ⟨ra3, 0, none⟩) s.length rc3, vint ((k1 + n : Nat) : Int), vint e1]) (by repeat' constructor) rfl (.slAddr (by repeat' constructor) fun hcap _ => (.then_n (.seq (.draw [] [[0, 1, 2, 3, 4, 5, 6, 7, 8, 9, 10, 11, 12, 13, 14, 15, 16, 17, 18, 19]] mixed (by kernel_rfl) (.g0 (.mv rfl rfl (.nf rfl rfl rfl fo_188_0 (.kv rfl (.fieldAddr rfl fo_165_0) (.kv rfl (.ld rfl ag_163) (.mv rfl rfl (.nf rfl rfl rfl fo_188_0 (.kv rfl (.fieldAddr rfl fo_165_1) (.kv rfl (.ld rfl ag_3) (.mv rfl rfl (.kv rfl (.as (v' := vint (k1 : Nat)) (by congr 1; omega) (.sub rfl rfl (by omega))) (.mv rfl rfl (.nf rfl rfl rfl fo_188_0 (.kv rfl (.fieldAddr rfl fo_165_1) (.kv rfl (.ld rfl ag_3) (.kv rfl (.to (v' := .slice (some (if rc3 = k1 then ⟨ra3, 0, none⟩ else ⟨ra3, 0 + k1 * 1, none⟩)) (k1 + n - k1) (rc3 - k1)) (.slSlice (i := (k1 : Int)) (j := ((k1 + n : Nat) : Int)) rfl el_163 (by exact rfl) (by exact rfl) (by omega)) (by simp only [Int.toNat_natCast])) ?_)))))))))))))))))))))
 refine D.kv rfl (.bytesBy (cs := (s.take (k1 + n)).drop k1) (n := ((s.take (k1 + n)).drop k1).length) (p := bytR (.slice (some ⟨ra3, 0, none⟩) s.length rc3) s) rfl Tryz.underlying163 Tryz.underlying5 Tryz.underlying9 (fun h hp => slR_mid (by omega) (by omega) hp) (by repeat' constructor)) (.kv rfl (.assign rfl) (.pf (.ret (.rdFold (r := r) s (k1 + n) (e1) (by repeat' constructor) (by first | rfl | (simp only [List.set]; congr; omega)) (by omega) hsz ?_))))
 rw [hr2]
 exact .dn rfl rfl ⟨k1 + n, e1, hr1, rfl, rfl⟩
theorem end_T {s : Bs} {k : Nat} {e : Int} (h : k < s.length) : (if e = 0 then (11 : Int) else e) = 0 ↔ stW s k e = some [] := by
 have hl : (s.drop k).length = s.length - k := List.length_drop
 unfold stW
 split
 ·refine ⟨fun g => absurd g (by decide), fun g => ?_⟩
  rw [Option.some.inj g] at hl; simp at hl; omega
 ·rename_i g; exact ⟨fun q => absurd q g, fun q => by cases q⟩
theorem end_F {s : Bs} {k : Nat} {e : Int} (h : s.length ≤ k) : e = 0 ↔ stW s k e = some [] := by
 unfold stW
 split
 ·rename_i g; exact ⟨fun _ => by rw [List.drop_eq_nil_of_le h], fun _ => g⟩
 ·rename_i g; exact ⟨fun q => absurd q g, fun q => by cases q⟩
theorem rendW_spec (r : Nat) (s : Bs) (k : Nat) (e : Int) : Fn Tryz.prog 95 #[vptr r] [rdW r s k e] fun v L => ∃ e1, (e1 = 0 ↔ stW s k e = some []) ∧ v = vint e1 ∧ L = [rdW r s k e1] := by
 refine Fn.intro Tryz.func95 rfl rfl fun F W => ?_
 refine .rdOpen (by repeat' constructor) fun ra rc hkl hsz => (.rdFold (r := r) s (k) (e) (by repeat' constructor) (by first | rfl | (simp only [List.set]; congr; omega)) (by omega) hsz (.sr (.an rfl (.seq (.sm rfl (.nf rfl fo_188_0 (.cv Tryz.func127 [_] (rleft_spec r s k e) ?_)))))))
 refine .ui rfl rfl rfl (.nt (.condD rfl (fun h7 => ?_) (fun h7 => ?_)))
 ·refine .region (.m rfl (.cv Tryz.func91 [_] (rfail_spec r s k e) ?_))
  refine .nt (.seq (.rdOpen (by repeat' constructor) fun ra3 rc3 _ _ => (.region (.m rfl (.nf rfl fo_188_1 (.u (.ld rfl ag_31) (.an rfl (.ret (.rdFold (r := r) s (k) (if e = 0 then 11 else e) (by repeat' constructor) (by first | rfl | (simp only [List.set]; congr; omega)) (by omega) hsz ?_)))))))))
  exact .dn rfl rfl ⟨_, end_T (by omega), rfl, rfl⟩
 refine .sk (.seq (.rdOpen (by repeat' constructor) fun ra3 rc3 _ _ => (.region (.m rfl (.nf rfl fo_188_1 (.u (.ld rfl ag_31) (.an rfl (.ret (.rdFold (r := r) s (k) (e) (by repeat' constructor) (by first | rfl | (simp only [List.set]; congr; omega)) (by omega) hsz ?_)))))))))
 exact .dn rfl rfl ⟨_, end_F (by omega), rfl, rfl⟩
theorem cread_spec (s : Bs) (hs : s.length ≤ 70368744177664) : Fn Tryz.prog 89 #[vstr s] [] fun v L => ∃ r, v = vptr r ∧ L = [rdR r (some s)] := by
 refine Fn.intro Tryz.func89 rfl rfl fun F W => ?_
 refine .sr (.an rfl (.sm rfl (.oq (.strBytes rfl Tryz.underlying9 Tryz.underlying163 Tryz.underlying5) ?_)))
 rintro v L' ⟨rfl, b8, c8, rfl⟩
 refine .q (.to (v' := .agg [.slice (some ⟨b8, 0, none⟩) s.length c8, vint 0].toArray) (.build (us := [(0, _)]) fl_165 ze_165 rfl rfl (by simp [isCell])) rfl) rfl (.q (.to (v' := .agg [.slice (some ⟨b8, 0, none⟩) s.length c8, vint 0, vint 0].toArray) (.buildN (pl := [(0, 2), (2, 1)]) (us := [(0, _)]) (cells := [.slice (some ⟨b8, 0, none⟩) s.length c8, vint 0, vint 0]) Tryz.underlying188 (by kernel_rfl) ze_188 rfl rfl) rfl) rfl (.oq (.box rfl) ?_))
 rintro v L' ⟨r, rfl, rfl⟩
 refine .an rfl (.ret (.rdFold (r := r) s 0 0 (by repeat' constructor) rfl (Nat.zero_le _) hs (.rdUpF (r := r) (st := some s) (by repeat' constructor) rfl ?_)))
 exact .dn rfl rfl ⟨r, rfl, rfl⟩
theorem rnum_spec (r : Nat) (st : Rs) : Fn Tryz.prog 92 #[vptr r] [rdR r st] fun v L => v = vint (runP 0 numP st).1 ∧ L = [rdR r (runP 0 numP st).2] := Fn.rdUp (v := vint) (fun s k e => rnumW_spec r s k e) st
theorem rcount_spec (r most : Nat) (hm : most ≤ 70368744177664) (st : Rs) : Fn Tryz.prog 93 #[vptr r, vint most] [rdR r st] fun v L => v = vint ((runP 0 (cntP most) st).1 : Nat) ∧ L = [rdR r (runP 0 (cntP most) st).2] := Fn.rdUp (v := fun n : Nat => vint n) (fun s k e => rcountW_spec r most hm s k e) st
theorem rtext_spec (r most : Nat) (hm : most ≤ 70368744177664) (st : Rs) : Fn Tryz.prog 90 #[vptr r, vint most] [rdR r st] fun v L => v = vstr (runP [] (txtP most) st).1 ∧ L = [rdR r (runP [] (txtP most) st).2] := Fn.rdUp (v := vstr) (fun s k e => rtextW_spec r most hm s k e) st
theorem rend_spec (r : Nat) (st : Rs) : Fn Tryz.prog 95 #[vptr r] [rdR r st] fun v L => ∃ e1, (e1 = 0 ↔ st = some []) ∧ v = vint e1 ∧ ∃ st', L = [rdR r st'] := Fn.rdEnd (fun s k e => rendW_spec r s k e) st
section
variable {P : Program} {E : Env} {L : List HP} {ty : TypeId}
theorem Quiet.strge {t t' : TypeId} {x y : Operand} {a b : List UInt8} (hx : ev E x = some (vstr a)) (hy : ev E y = some (vstr b)) : Quiet P ⟨none, .binOp .geq t x y t', ty, "", #[], none⟩ E L (.bool (decide (¬ a < b))) := by
 intro ρ w ha _
 have key : (!Op.bytesLess a b) = decide (¬ a < b) := by rw [bytesLess_eq, decide_not]
 rw [← key]
 simp [execOp, ha x _ hx, ha y _ hy, eqGuard, binOp, Op.stringOp, Bind.bind, Sem.bind, Pure.pure, Sem.run]
theorem Quiet.strle {t t' : TypeId} {x y : Operand} {a b : List UInt8} (hx : ev E x = some (vstr a)) (hy : ev E y = some (vstr b)) : Quiet P ⟨none, .binOp .leq t x y t', ty, "", #[], none⟩ E L (.bool (decide (¬ b < a))) := by
 intro ρ w ha _
 have key : (Op.bytesLess a b || decide (a = b)) = decide (¬ b < a) := by
  rw [bytesLess_eq]
  rcases linB.tri a b with h | h | h
  ·rw [decide_eq_true h, decide_eq_true (show ¬ b < a from fun g => linB.irr _ (linB.tr _ _ _ h g))]; rfl
  ·subst h; rw [decide_eq_true rfl, decide_eq_true (linB.irr a), Bool.or_true]
  ·rw [decide_eq_false (fun g => linB.irr _ (linB.tr _ _ _ h g)), decide_eq_false (fun e => by subst e; exact linB.irr _ h), decide_eq_false (show ¬ ¬ b < a from fun g => g h)]; rfl
 rw [← key]
 simp [execOp, ha x _ hx, ha y _ hy, eqGuard, binOp, Op.stringOp, Bind.bind, Sem.bind, Pure.pure, Sem.run]
 by_cases h : a = b <;> simp [h]
end
abbrev Rno := Bs × (Value × Nd)
def rnC (z : Rno) : List Value := [vstr z.1, vstr z.2.2.data, z.2.1, vint z.2.2.st.cz, vint z.2.2.st.mz, vint z.2.2.st.pz, vint z.2.2.st.ver, vint z.2.2.st.cver, vint z.2.2.st.av, vint z.2.2.st.own, vint z.2.2.st.len, vint z.2.2.st.kids]
def rsC (y : Int × (Int × Bs)) : List Value := [vint y.1, vint y.2.1, vstr y.2.2]
def inA (z : Rno) : HP := rdO 2 z.2.1 z.2.2.acl.length (z.2.2.acl.flatMap acC)
def ndsZ (l : List Rno) : List (Bs × Nd) := l.map fun z => (z.1, z.2.2)
abbrev rnR (v : Value) (l : List Rno) : HP := slR 129 12 v l.length (l.flatMap rnC)
abbrev rsR (v : Value) (l : SsM) : HP := slR 127 3 v l.length (l.flatMap rsC)
def refR (x : Nat) (τ : Tr) : HP := fun h => ∃ y : (Value × Value) × List Rno, ndsZ y.2 = τ.nodes ∧ sep [ptc x [y.1.1, y.1.2, vint τ.zx] 87, rnR y.1.1 y.2, rsR y.1.2 τ.sess, bigR inA y.2] h
section
variable {W : World} {n : Nat} {ds : List Deferred} {E : Env} {L R : List HP} {X : Act → World → Prop}
theorem G.rtOpen {x : Nat} {τ : Tr} (hL : Pick (refR x τ) L R) (h : ∀ (an cn as' cs : _) (l : List Rno), ndsZ l = τ.nodes → G W n ds E (ptc x [.slice an l.length cn, .slice as' τ.sess.length cs, vint τ.zx] 87 :: rnR (.slice an l.length cn) l :: rsR (.slice as' τ.sess.length cs) τ.sess :: bigR inA l :: R) X) : G W n ds E L X := by
 refine G.focus hL (G.open (q := fun y : (Value × Value) × List Rno => [ptc x [y.1.1, y.1.2, vint τ.zx] 87, rnR y.1.1 y.2, rsR y.1.2 τ.sess, bigR inA y.2]) (φ := fun y : (Value × Value) × List Rno => ndsZ y.2 = τ.nodes) (fun _ hp => hp) fun y hy => ?_)
 obtain ⟨⟨v1, v2⟩, l⟩ := y
 dsimp only at hy ⊢
 refine G.slAny (v := v1) (by repeat (first | exact Pick.here | apply Pick.there)) fun an cn e0 _ => ?_
 subst e0
 refine G.slAny (v := v2) (by repeat (first | exact Pick.here | apply Pick.there)) fun as' cs e0 _ => ?_
 subst e0
 exact fun a w he hk hs => h an cn as' cs l hy a w he hk (hs.picks (by repeat (first | exact Picks.nil | (apply Picks.cons; (repeat (first | exact Pick.here | apply Pick.there))))))
theorem G.rtFold {x : Nat} {τ : Tr} {l : List Rno} {v1 v2 : Value} {c : List Value} {k1 k2 : Nat} {y1 y2 : List Value} (hn : ndsZ l = τ.nodes) (hL : Picks [ptc x c 87, slR 129 12 v1 k1 y1, slR 127 3 v2 k2 y2, bigR inA l] L R) (hc : c = [v1, v2, vint τ.zx]) (h1 : k1 = l.length) (h2 : y1 = l.flatMap rnC) (h3 : k2 = τ.sess.length) (h4 : y2 = τ.sess.flatMap rsC)
  (h : G W n ds E (refR x τ :: R) X) : G W n ds E L X := by
 subst hc; subst h1; subst h2; subst h3; subst h4
 exact G.fold hL (fun _ hp => ⟨((v1, v2), l), hn, hp⟩) h
theorem G.rfCast {x : Nat} {τ τ' : Tr} (hL : Pick (refR x τ) L R) (hw : τ' = τ) (h : G W n ds E (refR x τ' :: R) X) : G W n ds E L X := by
 subst hw; exact G.focus hL h
end
theorem nds_len {l : List Rno} {m : List (Bs × Nd)} (h : ndsZ l = m) : l.length = m.length := by rw [← h]; simp [ndsZ]
theorem nds_get {l : List Rno} {m : List (Bs × Nd)} (h : ndsZ l = m) {i : Nat} (hi : i < l.length) : m[i]'(by rw [← nds_len h]; exact hi) = (l[i].1, l[i].2.2) := by
 subst h; simp [ndsZ]
theorem rn_cell {l : List Rno} {i k : Nat} (hi : i < l.length) (hk : k < 12) : (l.flatMap rnC)[i * 12 + k]? = (rnC l[i])[k]? := flatMap_cell (f := rnC) (sz := 12) (fun _ _ => rfl) hi hk
theorem rs_cell {l : SsM} {i k : Nat} (hi : i < l.length) (hk : k < 3) : (l.flatMap rsC)[i * 3 + k]? = (rsC l[i])[k]? := flatMap_cell (f := rsC) (sz := 3) (fun _ _ => rfl) hi hk
/-! ### Places -/
def placeTo {β : Type} (l : List (Bs × β)) (p : Bs) : Int := match posK p (l.map (·.1)) with
 | some i => i
 | none => -1
def placeZ (τ : Tr) (p : Bs) : Int := placeTo τ.nodes p
theorem posK_at {K : Type} [DecidableEq K] {l : List K} {k : K} : ∀ {i : Nat} (hi : i < l.length), l[i] = k → (∀ j (hj : j < i), l[j]'(by omega) ≠ k) → posK k l = some i := by
 induction l with
 | nil => intro i hi; simp at hi
 | cons a l ih =>
  intro i hi h1 h2
  unfold posK
  cases i with
  | zero => simp at h1; rw [if_pos h1.symm]
  | succ i =>
   rw [if_neg (fun e => h2 0 (by omega) (by simpa using e.symm)), ih (i := i) (by simpa using hi) (by simpa using h1) (fun j hj => by simpa using h2 (j + 1) (by omega))]
   rfl
theorem posK_none {K : Type} [DecidableEq K] {l : List K} {k : K} (h : k ∉ l) : posK k l = none := by
 induction l with
 | nil => rfl
 | cons a l ih =>
  unfold posK
  rw [if_neg (fun e => h (by rw [e]; exact List.mem_cons_self)), ih (fun g => h (List.mem_cons_of_mem _ g))]; rfl
theorem posK_get {K : Type} [DecidableEq K] {l : List K} {k : K} : ∀ {i : Nat}, posK k l = some i → ∃ hi : i < l.length, l[i] = k ∧ ∀ j (hj : j < i), l[j]'(by omega) ≠ k := by
 induction l with
 | nil => intro i h; cases h
 | cons a l ih =>
  intro i h
  unfold posK at h
  split at h
  ·rename_i e; cases h; exact ⟨by simp, by simp [e], fun j hj => by omega⟩
  ·rename_i e
   rcases h2 : posK k l with _ | i'
   ·rw [h2] at h; cases h
   ·rw [h2] at h; cases h
    obtain ⟨g1, g2, g3⟩ := ih h2
    refine ⟨by simp; omega, by simpa using g2, fun j hj => ?_⟩
    cases j with
    | zero => simpa using fun e2 => e e2.symm
    | succ j => simpa using g3 j (by have hj' : j + 1 < i' + 1 := hj; omega)
theorem place_at {β : Type} {l : List (Bs × β)} {p : Bs} {i : Nat} (hi : i < l.length) (h1 : l[i].1 = p) (h2 : ∀ j (hj : j < i), l[j].1 ≠ p) : placeTo l p = i := by
 unfold placeTo
 rw [posK_at (i := i) (by simpa using hi) (by simpa using h1) (fun j hj => by simpa using h2 j hj)]
theorem place_none {β : Type} {l : List (Bs × β)} {p : Bs} (h : ∀ j (hj : j < l.length), l[j].1 ≠ p) : placeTo l p = -1 := by
 unfold placeTo
 rw [posK_none]
 intro hm
 obtain ⟨x, hx, e⟩ := List.mem_map.1 hm
 obtain ⟨j, hj, rfl⟩ := List.mem_iff_getElem.1 hx
 exact h j hj e
theorem place_get {β : Type} {l : List (Bs × β)} {p : Bs} (h : 0 ≤ placeTo l p) : ∃ k : Nat, ∃ hk : k < l.length, placeTo l p = k ∧ l[k].1 = p := by
 unfold placeTo at h ⊢
 rcases e : posK p (l.map (·.1)) with _ | k
 ·rw [e] at h; exact absurd h (by decide)
 ·obtain ⟨g1, g2, -⟩ := posK_get e
  exact ⟨k, by simpa using g1, by rw [e], by simpa using g2⟩
theorem place_iff {β : Type} {l : List (Bs × β)} {p : Bs} : 0 ≤ placeTo l p ↔ (alook l p).isSome = true := by
 rw [al_isSome]
 constructor
 ·intro h
  obtain ⟨k, hk, -, e⟩ := place_get h
  exact List.mem_map.2 ⟨l[k], List.getElem_mem hk, e⟩
 ·intro h
  unfold placeTo
  rcases e : posK p (l.map (·.1)) with _ | k
  ·exfalso
   have key : ∀ l : List Bs, p ∈ l → posK p l ≠ none := by
    intro l
    induction l with
    | nil => intro h; cases h
    | cons a l ih =>
     intro h
     unfold posK
     split
     ·simp
     ·rename_i hne
      rcases List.mem_cons.1 h with g | g
      ·exact absurd g hne
      ·intro e2
       have := ih g
       rcases e3 : posK p l with _ | j
       ·exact this e3
       ·rw [e3] at e2; cases e2
   exact key _ h e
  ·first | (rw [e]; exact Int.natCast_nonneg _) | exact Int.natCast_nonneg _
theorem place_nds (l : List Rno) (p : Bs) : placeTo (ndsZ l) p = placeTo l p := by
 unfold placeTo ndsZ; rw [List.map_map]; rfl
theorem amod_set {β : Type} {l : List (Bs × β)} (hn : (l.map (·.1)).Nodup) {k : Nat} (hk : k < l.length) (f : β → β) : amod l l[k].1 f = l.set k (l[k].1, f l[k].2) := by
 apply List.ext_getElem
 ·simp [amod]
 ·intro i h1 h2
  have hi : i < l.length := by simpa [amod] using h1
  simp only [amod, List.getElem_map, List.getElem_set]
  by_cases e : k = i
  ·subst e; simp
  ·have : l[i].1 ≠ l[k].1 := fun g => by
    have := (List.getElem_inj (i := i) (j := k) (h₀ := by simpa using hi) (h₁ := by simpa using hk) hn).1 (by simpa using g)
    exact e this.symm
   rw [if_neg this, if_neg e]
theorem flatMap_set {α : Type} {f : α → List Value} {sz : Nat} : ∀ {l : List α} {i k : Nat} {v : Value} {y : α} (hf : ∀ x, (f x).length = sz) (hi : i < l.length) (hk : k < sz) (hy : (f l[i]).set k v = f y), (l.flatMap f).set (i * sz + k) v = (l.set i y).flatMap f
 | x :: l, 0, k, v, y, hf, hi, hk, hy => by
  simp only [List.flatMap_cons, List.set_cons_zero, Nat.zero_mul, Nat.zero_add]
  rw [List.set_append_left _ _ (by rw [hf]; exact hk)]
  congr 1
 | x :: l, i + 1, k, v, y, hf, hi, hk, hy => by
  simp only [List.flatMap_cons, List.set_cons_succ]
  rw [List.set_append_right _ _ (by rw [hf, Nat.add_mul]; omega), hf, show (i + 1) * sz + k - sz = i * sz + k by rw [Nat.add_mul]; omega]
  congr 1
  exact flatMap_set hf (by simpa using hi) hk (by simpa using hy)
theorem nds_set {l : List Rno} {i : Nat} (y : Rno) : ndsZ (l.set i y) = (ndsZ l).set i (y.1, y.2.2) := by unfold ndsZ; rw [List.map_set]
theorem big_set {l : List Rno} {i : Nat} {y : Rno} (hi : i < l.length) (h1 : inA y = inA l[i]) {h : Hp} (hs : bigR inA l h) : bigR inA (l.set i y) h := by
 unfold bigR at hs ⊢
 rw [List.map_set, h1]
 have : (l.map inA).set i (inA l[i]) = l.map inA := by
  apply List.ext_getElem
  ·simp
  ·intro j _ _
   rw [List.getElem_set]
   split
   ·rename_i e; subst e; simp
   ·rfl
 rw [this]; exact hs
theorem G.bigSet {W : World} {n : Nat} {ds : List Deferred} {E : Env} {L R : List HP} {X : Act → World → Prop} {l : List Rno} {i : Nat} {y : Rno} (hi : i < l.length) (h1 : inA y = inA l[i]) (hL : Pick (bigR inA l) L R) (h : G W n ds E (bigR inA (l.set i y) :: R) X) : G W n ds E L X :=
 fun a w he hk hs => h a w he hk (sep_imp (fun _ hp => big_set hi h1 hp) (hs.pick hL))
theorem nds_sset {l : List Rno} (p : Bs) (y : Value × Nd) : ndsZ (sset l p y) = sset (ndsZ l) p y.2 := by
 induction l with
 | nil => rfl
 | cons x l ih =>
  show ndsZ (sset (x :: l) p y) = sset ((x.1, x.2.2) :: ndsZ l) p y.2
  unfold sset
  dsimp only
  split
  ·rfl
  ·split
   ·rfl
   ·show (x.1, x.2.2) :: ndsZ (sset l p y) = _
    rw [ih]
theorem nds_sorted {l : List Rno} (h : SortedK (ndsZ l)) : SortedK l := by
 unfold SortedK ndsZ at *
 rw [List.map_map] at h; exact h
theorem sset_perm {K β : Type} [LT K] [DecidableEq K] [DecidableLT K] (ho : Lin K) {l : List (K × β)} (h : SortedK l) (k : K) (v : β) : (sset l k v).Perm ((k, v) :: adel l k) := by
 have hn := h.nodup ho
 refine al_ext_perm ((h.sset ho k v).nodup ho) ?_ fun x => ?_
 ·rw [List.map_cons]
  refine List.nodup_cons.2 ⟨fun g => ?_, nodup_adel hn k⟩
  have := al_isSome.2 g
  rw [al_adel hn, if_pos rfl] at this; cases this
 ·rw [al_sset]
  by_cases e : x = k
  ·subst e; simp [alook]
  ·rw [if_neg e]; simp only [alook, e, if_false]; rw [al_adel hn, if_neg e]
theorem big_sset {l : List Rno} (hs : SortedK l) {k : Bs} {v : Value × Nd} {h : Hp} (hp : sep [inA (k, v), bigR inA l] h) : bigR inA (sset l k v) h := by
 refine big_perm (sset_perm linB hs k v).symm (big_of_cons ?_)
 obtain ⟨h1, h2, hd, a1, a2, p1, h3, h4, hd2, b1, b2, p2, p3⟩ := hp
 exact ⟨h1, h2, hd, a1, a2, p1, h3, h4, hd2, b1, b2, big_del k p2, p3⟩
theorem G.bigSset {W : World} {n : Nat} {ds : List Deferred} {E : Env} {L R : List HP} {X : Act → World → Prop} {l : List Rno} (hs : SortedK l) (k : Bs) (v : Value × Nd) {p : HP} (hp : p = inA (k, v)) (hL : Picks [p, bigR inA l] L R) (h : G W n ds E (bigR inA (sset l k v) :: R) X) : G W n ds E L X := by
 subst hp
 exact G.fold hL (fun _ hp => big_sset hs hp) h
theorem big_sub {α : Type} {f : α → HP} {l m : List α} (hs : l.Sublist m) {h : Hp} (hp : bigR f m h) : bigR f l h := by
 induction hs generalizing h with
 | slnil => exact hp
 | cons a _ ih =>
  obtain ⟨h1, h2, -, -, a2, -, p2⟩ := hp
  exact sep_mono (ih p2) a2
 | cons_cons a _ ih =>
  obtain ⟨h1, h2, hd, a1, a2, p1, p2⟩ := hp
  exact ⟨h1, h2, hd, a1, a2, p1, ih p2⟩
theorem G.bigSub {W : World} {n : Nat} {ds : List Deferred} {E : Env} {L R : List HP} {X : Act → World → Prop} {l m : List Rno} (hs : l.Sublist m) (hL : Pick (bigR inA m) L R) (h : G W n ds E (bigR inA l :: R) X) : G W n ds E L X :=
 fun a w he hk hs' => h a w he hk (sep_imp (fun _ hp => big_sub hs hp) (hs'.pick hL))
theorem nds_filter {l : List Rno} (f : Bs → Bool) : ndsZ (l.filter fun y => f y.1) = (ndsZ l).filter fun y => f y.1 := by
 unfold ndsZ
 rw [List.filter_map]; rfl
structure LayI {β : Type} (l : List (Bs × β)) (p : Bs) (v : β) (i : Nat) (b : Bool) (acc : List (Bs × β)) : Prop where
 no : b = false → acc = l.take i ∧ ∀ x ∈ l.take i, x.1 < p
 yes : b = true → acc = sset (l.take i) p v ∧ ∃ x ∈ l.take i, ¬ x.1 < p
theorem sset_end {β : Type} {l : List (Bs × β)} {p : Bs} (v : β) (h : ∀ x ∈ l, x.1 < p) : sset l p v = l ++ [(p, v)] := by
 induction l with
 | nil => rfl
 | cons x l ih =>
  have hx := h x List.mem_cons_self
  unfold sset
  rw [if_neg (fun e => linB.irr p (by rw [← e] at hx ⊢; exact hx)), if_neg (fun g => linB.irr _ (linB.tr _ _ _ hx g)), ih (fun y hy => h y (List.mem_cons_of_mem _ hy))]; rfl
theorem sset_past {β : Type} {l : List (Bs × β)} {p : Bs} (v : β) (y : Bs × β) (h : ∃ x ∈ l, ¬ x.1 < p) : sset (l ++ [y]) p v = sset l p v ++ [y] := by
 induction l with
 | nil => obtain ⟨x, hx, -⟩ := h; cases hx
 | cons x l ih =>
  rw [List.cons_append]
  unfold sset
  split
  ·rfl
  ·split
   ·rfl
   ·rename_i e1 e2
    have hx : x.1 < p := by
     rcases linB.tri x.1 p with g | g | g
     ·exact g
     ·exact absurd g e1
     ·exact absurd g e2
    rw [ih]; rfl
    obtain ⟨z, hz, g⟩ := h
    rcases List.mem_cons.1 hz with rfl | hz
    ·exact absurd hx g
    ·exact ⟨z, hz, g⟩
theorem LayI.start {β : Type} (l : List (Bs × β)) (p : Bs) (v : β) : LayI l p v 0 false [] := ⟨fun _ => ⟨by simp, by simp⟩, fun h => by cases h⟩
theorem take_lt {β : Type} {l : List (Bs × β)} (hs : SortedK l) {i : Nat} (hi : i < l.length) : ∀ x ∈ l.take i, x.1 < l[i].1 := fun x hx => by
 obtain ⟨j, hj, rfl⟩ := List.mem_iff_getElem.1 hx
 rw [List.length_take] at hj
 rw [List.getElem_take]
 have := List.pairwise_iff_getElem.1 hs j i (by simp; omega) (by simpa using hi) (by omega)
 simpa using this
theorem LayI.low {β : Type} {l : List (Bs × β)} {p : Bs} {v : β} {i : Nat} {acc : List (Bs × β)} (h : LayI l p v i false acc) (hi : i < l.length) (hl : l[i].1 < p) : LayI l p v (i + 1) false (acc ++ [l[i]]) := by
 obtain ⟨h1, h2⟩ := h.no rfl
 refine ⟨fun _ => ⟨by rw [h1, List.take_succ_eq_append_getElem hi], fun x hx => ?_⟩, fun g => by cases g⟩
 rw [List.take_succ_eq_append_getElem hi] at hx
 rcases List.mem_append.1 hx with hx | hx
 ·exact h2 x hx
 ·simp at hx; rw [hx]; exact hl
theorem LayI.put {β : Type} {l : List (Bs × β)} {p : Bs} {v : β} {i : Nat} {acc : List (Bs × β)} (h : LayI l p v i false acc) (hi : i < l.length) (hl : ¬ l[i].1 < p) (hne : l[i].1 ≠ p) : LayI l p v (i + 1) true ((acc ++ [(p, v)]) ++ [l[i]]) := by
 obtain ⟨h1, h2⟩ := h.no rfl
 refine ⟨(fun g => by cases g), fun _ => ⟨?_, l[i], by rw [List.take_succ_eq_append_getElem hi]; exact List.mem_append_right _ List.mem_cons_self, hl⟩⟩
 have hgt : p < l[i].1 := by
  rcases linB.tri l[i].1 p with g | g | g
  ·exact absurd g hl
  ·exact absurd g hne
  ·exact g
 rw [List.take_succ_eq_append_getElem hi, h1]
 have key : ∀ (m : List (Bs × β)), (∀ x ∈ m, x.1 < p) → sset (m ++ [l[i]]) p v = m ++ [(p, v)] ++ [l[i]] := by
  intro m
  induction m with
  | nil => intro _; show sset [l[i]] p v = _; unfold sset; rw [if_neg hne, if_pos hgt]; rfl
  | cons x m ih =>
   intro hm
   have hx := hm x List.mem_cons_self
   rw [List.cons_append]
   unfold sset
   rw [if_neg (fun e => linB.irr p (by rw [← e] at hx ⊢; exact hx)), if_neg (fun g => linB.irr _ (linB.tr _ _ _ hx g)), ih (fun y hy => hm y (List.mem_cons_of_mem _ hy))]; rfl
 exact (key _ h2).symm
theorem LayI.sub {β : Type} {l : List (Bs × β)} {p : Bs} {v : β} {i : Nat} {acc : List (Bs × β)} (h : LayI l p v i false acc) (hi : i < l.length) (he : l[i].1 = p) : LayI l p v (i + 1) true (acc ++ [(p, v)]) := by
 obtain ⟨h1, h2⟩ := h.no rfl
 refine ⟨(fun g => by cases g), fun _ => ⟨?_, l[i], by rw [List.take_succ_eq_append_getElem hi]; exact List.mem_append_right _ List.mem_cons_self, by rw [he]; exact linB.irr p⟩⟩
 rw [List.take_succ_eq_append_getElem hi, h1]
 have key : ∀ (m : List (Bs × β)), (∀ x ∈ m, x.1 < p) → sset (m ++ [l[i]]) p v = m ++ [(p, v)] := by
  intro m
  induction m with
  | nil => intro _; show sset [l[i]] p v = _; unfold sset; rw [if_pos he]; rfl
  | cons x m ih =>
   intro hm
   have hx := hm x List.mem_cons_self
   rw [List.cons_append]
   unfold sset
   rw [if_neg (fun e => linB.irr p (by rw [← e] at hx ⊢; exact hx)), if_neg (fun g => linB.irr _ (linB.tr _ _ _ hx g)), ih (fun y hy => hm y (List.mem_cons_of_mem _ hy))]; rfl
 exact (key _ h2).symm
theorem LayI.more {β : Type} {l : List (Bs × β)} {p : Bs} {v : β} {i : Nat} {acc : List (Bs × β)} (h : LayI l p v i true acc) (hi : i < l.length) : LayI l p v (i + 1) true (acc ++ [l[i]]) := by
 obtain ⟨h1, h2⟩ := h.yes rfl
 refine ⟨(fun g => by cases g), fun _ => ⟨by rw [h1, List.take_succ_eq_append_getElem hi, sset_past v _ h2], ?_⟩⟩
 obtain ⟨x, hx, g⟩ := h2
 exact ⟨x, by rw [List.take_succ_eq_append_getElem hi]; exact List.mem_append_left _ hx, g⟩
theorem LayI.not {β : Type} {l : List (Bs × β)} (hs : SortedK l) {p : Bs} {v : β} {i : Nat} {acc : List (Bs × β)} (h : LayI l p v i true acc) (hi : i < l.length) : l[i].1 ≠ p := by
 obtain ⟨-, x, hx, g⟩ := h.yes rfl
 intro e
 exact g (by rw [← e]; exact take_lt hs hi x hx)
theorem LayI.last {β : Type} {l : List (Bs × β)} {p : Bs} {v : β} {acc : List (Bs × β)} {b : Bool} (h : LayI l p v l.length b acc) : (if b then acc else acc ++ [(p, v)]) = sset l p v := by
 cases b with
 | true => obtain ⟨h1, -⟩ := h.yes rfl; rw [List.take_length] at h1; exact h1
 | false =>
  obtain ⟨h1, h2⟩ := h.no rfl
  rw [List.take_length] at h1 h2
  rw [sset_end v h2, h1]; rfl
theorem sset_at {β : Type} {l : List (Int × β)} {k : Int} {v : β} {i : Nat} (hi : i ≤ l.length) (h1 : ∀ x ∈ l.take i, x.1 < k) (h2 : ∀ h : i < l.length, ¬ l[i].1 < k) (h3 : ∀ x ∈ l, x.1 ≠ k) : l.take i ++ [(k, v)] ++ l.drop i = sset l k v := by
 induction l generalizing i with
 | nil => simp at hi; subst hi; rfl
 | cons x l ih =>
  have hx3 := h3 x List.mem_cons_self
  cases i with
  | zero =>
   have hx2 := h2 (by simp)
   simp at hx2
   unfold sset
   rw [if_neg hx3, if_pos (by omega)]; rfl
  | succ i =>
   have hx1 := h1 x (by simp)
   unfold sset
   rw [if_neg hx3, if_neg (by omega), ← ih (i := i) (by simpa using hi) (fun y hy => h1 y (by simp [hy])) (fun h => by have := h2 (by simpa using h); simpa using this) (fun y hy => h3 y (List.mem_cons_of_mem _ hy))]
   simp
theorem open_drop {τ : Tr} {N : Nat} (ho : τ.Ok N) (id n : Int) (s : Bs) : openS (dropS τ id) id n s = openS τ id n s := by
 refine Tr.ext' rfl ?_ rfl
 show sset (τ.sess.filter _) id (n, s) = sset τ.sess id (n, s)
 refine sorted_same linI ((ho.ssorted.filter _).sset linI _ _) (ho.ssorted.sset linI _ _) fun i => ?_
 rw [al_sset, al_sset, al_filter (fun k => !decide (k = id))]
 by_cases e : i = id
 ·rw [if_pos e, if_pos e]
 ·rw [if_neg e, if_neg e]; simp [e]
theorem nds_mod {l : List Rno} {m : List (Bs × Nd)} (hl : ndsZ l = m) (hn : (m.map (·.1)).Nodup) {k : Nat} (hk : k < l.length) {p : Bs} (hp : l[k].1 = p) (f : Nd → Nd) {v : Value} {n : Nd} (hy : n = f l[k].2.2) : ndsZ (l.set k (l[k].1, (v, n))) = amod m p f := by
 subst hl; subst hp; subst hy
 have h2 : (ndsZ l)[k]'(by simpa [ndsZ] using hk) = (l[k].1, l[k].2.2) := by simp [ndsZ]
 have := amod_set hn (k := k) (by simpa [ndsZ] using hk) f
 rw [h2] at this
 rw [nds_set, this]
theorem big_rep {l : List Rno} {k : Nat} {y : Rno} (hk : k < l.length) {h : Hp} (hs : sep [inA y, bigR inA l] h) : bigR inA (l.set k y) h := by
 have e1 : (l.set k y).Perm (y :: (l.take k ++ l.drop (k + 1))) := by
  rw [List.set_eq_take_append_cons_drop, if_pos hk]
  exact List.perm_middle
 have e2 : (l.take k ++ l.drop (k + 1)).Sublist l := by
  have : l.take k ++ l.drop (k + 1) = l.eraseIdx k := (List.eraseIdx_eq_take_drop_succ l k).symm
  rw [this]; exact List.eraseIdx_sublist l k
 refine big_perm e1.symm (big_of_cons ?_)
 obtain ⟨h1, h2, hd, a1, a2, p1, h3, h4, hd2, b1, b2, p2, p3⟩ := hs
 exact ⟨h1, h2, hd, a1, a2, p1, h3, h4, hd2, b1, b2, big_sub e2 p2, p3⟩
theorem G.bigRep {W : World} {n : Nat} {ds : List Deferred} {E : Env} {L R : List HP} {X : Act → World → Prop} {l : List Rno} {k : Nat} (y : Rno) (hk : k < l.length) {p : HP} (hp : p = inA y) (hL : Picks [p, bigR inA l] L R) (h : G W n ds E (bigR inA (l.set k y) :: R) X) : G W n ds E L X := by
 subst hp
 exact G.fold hL (fun _ hp => big_rep hk hp) h
theorem Fn.pre2 {P : Program} {f : FuncId} {args : Array Value} {pre pre' : List HP} {post : Value → List HP → Prop} (h : Fn P f args pre post) (hp : ∀ F w, St (pre' ++ F) w → St (pre ++ F) w) : Fn P f args pre' post := fun F w hs => h F w (hp F w hs)
/-! ### Parts of slices -/
def cutA (a : Option Addr) (c i sz : Nat) : Option Addr := if c = i then a else a.map (·.add (i * sz))
section
variable {P : Program} {E : Env} {L : List HP} {ty : TypeId}
theorem Quiet.slFromO {t : TypeId} {x y : Operand} {a : Option Addr} {n c e sz by' : Nat} {i : Int} (hx : ev E x = some (.slice a n c)) (ht : elemOf' P t = some (e, sz, by')) (hy : ev E y = some (.int .i64 i)) (hb : 0 ≤ i ∧ i ≤ n ∧ n ≤ c) :
  Quiet P ⟨none, .slice t x (some y) none none, ty, "", #[], none⟩ E L (.slice (cutA a c i.toNat sz) (n - i.toNat) (c - i.toNat)) := by
 intro ρ w ha _
 unfold elemOf' at ht
 split at ht <;> (try cases ht)
 rename_i e' hu
 split at ht <;> (try cases ht)
 rename_i inf hin
 refine run_v ?_
 show (Instr.sliceAt t (ρ x) (some (ρ y)) none none).run P w = _
 rw [ha x _ hx, ha y _ hy]
 unfold Instr.sliceAt
 rw [run_bind (run_underlying hu)]
 show (Instr.slice t (.slice a n c) (some (.int .i64 i)) none none).run P w = _
 unfold Instr.slice
 rw [run_bind (run_underlying hu)]
 show (do let (l, h, m) ← Instr.sliceBounds true n c (some (.int .i64 i)) none none; let size ← sizeOf e; pure (.slice (if m = l then a else a.map (·.add (l * size))) (h - l) (m - l)) : Sem Value).run P w = _
 rw [run_bind (run_sliceBounds (i := i) (j := n) (.inl rfl) (.inr ⟨rfl, rfl⟩) ⟨hb.1, by omega, by omega⟩)]
 show (do let size ← sizeOf e; pure (.slice (if c = i.toNat then a else a.map (·.add (i.toNat * size))) ((n : Int).toNat - i.toNat) (c - i.toNat)) : Sem Value).run P w = _
 rw [run_bind (run_sizeOf (k := inf.size) (by simp [sizeOf', hin]))]
 rw [Int.toNat_natCast]; rfl
end
theorem slR_rd_to {T : TypeId} {sz n k c : Nat} {a : Option Addr} {xs : List Value} {h : Hp} (hk : k ≤ n) (hp : slR T sz (.slice a n c) n xs h) : rdS sz h (.slice a k c) k (xs.take (k * sz)) := by
 rcases hp with ⟨h1, h2, h3⟩ | ⟨b, cap, rest, fr, hv, hb, h1, h2, h3, h4⟩
 ·subst h2; subst h3
  obtain rfl : k = 0 := by omega
  exact .inl ⟨rfl, by simp, a, c, rfl⟩
 ·simp only [Value.slice.injEq, true_and] at hv
  obtain ⟨rfl, rfl⟩ := hv
  have hm := Nat.mul_le_mul_right sz hk
  refine .inr ⟨b, 0, c, xs ++ rest, T, fr, rfl, hb, ?_, by simp; omega, by omega⟩
  rw [List.drop_zero, List.take_append_of_le_length (by omega)]
theorem slR_rd_from {T : TypeId} {sz n k c : Nat} {a : Option Addr} {xs : List Value} {h : Hp} (hk : k ≤ n) (hp : slR T sz (.slice a n c) n xs h) : rdS sz h (.slice (cutA a c k sz) (n - k) (c - k)) (n - k) (xs.drop (k * sz)) := by
 rcases hp with ⟨h1, h2, h3⟩ | ⟨b, cap, rest, fr, hv, hb, h1, h2, h3, h4⟩
 ·subst h2; subst h3
  obtain rfl : k = 0 := by omega
  exact .inl ⟨rfl, by simp, _, _, rfl⟩
 ·simp only [Value.slice.injEq, true_and] at hv
  obtain ⟨rfl, rfl⟩ := hv
  unfold cutA
  by_cases e : c = k
  ·rw [if_pos e]
   have hnk : n = k := by omega
   subst hnk
   have h0 : n - n = 0 := by omega
   rw [h0]
   exact .inl ⟨rfl, List.drop_eq_nil_of_le (by omega), _, _, rfl⟩
  ·rw [if_neg e]
   have hm := Nat.mul_le_mul_right sz hk
   have hms : (n - k) * sz = n * sz - k * sz := Nat.sub_mul n k sz
   refine .inr ⟨b, k * sz, c - k, xs ++ rest, T, fr, ?_, hb, ?_, by simp; omega, by omega⟩
   ·simp [Addr.add_eq]
   ·rw [List.drop_append_of_le_length (by omega), List.take_append_of_le_length (by rw [List.length_drop]; omega), List.take_of_length_le (by rw [List.length_drop]; omega)]
theorem flat_take {α : Type} {f : α → List Value} {sz : Nat} (hf : ∀ x, (f x).length = sz) : ∀ (l : List α) (k : Nat), (l.flatMap f).take (k * sz) = (l.take k).flatMap f ∧ (l.flatMap f).drop (k * sz) = (l.drop k).flatMap f
 | [], k => by simp
 | x :: l, 0 => by simp
 | x :: l, k + 1 => by
  have hx := hf x
  obtain ⟨h1, h2⟩ := flat_take hf l k
  rw [List.flatMap_cons, List.take_succ_cons, List.drop_succ_cons, List.flatMap_cons, show (k + 1) * sz = sz + k * sz by rw [Nat.add_mul]; omega]
  refine ⟨?_, ?_⟩
  ·rw [List.take_append, hx, List.take_of_length_le (by omega), show sz + k * sz - sz = k * sz by omega, h1]
  ·rw [List.drop_append, hx, List.drop_eq_nil_of_le (by omega), show sz + k * sz - sz = k * sz by omega, h2]; rfl
theorem G.slForm {W : World} {n' : Nat} {ds : List Deferred} {E : Env} {L R : List HP} {X : Act → World → Prop} {T : TypeId} {sz m c : Nat} {a : Option Addr} {xs : List Value} (hL : Pick (slR T sz (.slice a m c) m xs) L R) (h0 : a = none → m = 0 → c = 0 → G W n' ds E L X) (h1 : ∀ b, a = some ⟨b, 0, none⟩ → m ≤ c → G W n' ds E L X) : G W n' ds E L X := by
 intro ac w he hk hs
 obtain ⟨g1, -, hp⟩ := sep_head (hs.pick hL)
 rcases hp with ⟨e1, e2, -⟩ | ⟨b', cap, rest, fr, e1, -, -, -, e5, -⟩
 ·simp only [Value.slice.injEq] at e1
  exact h0 e1.1 e2 e1.2.2 ac w he hk hs
 ·simp only [Value.slice.injEq] at e1
  exact h1 b' e1.1 (by omega) ac w he hk hs
/-! ### What is told -/
def kidsN (l : List Rno) (p : Bs) : List Bs := (l.filter fun y => !decide (y.1 = [47]) && decide (parentZ y.1 = p)).map fun y => baseZ y.1
theorem kidsN_eq {l : List Rno} {τ : Tr} (h : ndsZ l = τ.nodes) (p : Bs) : kidsN l p = kidsZ τ p := by
 unfold kidsN kidsZ
 rw [← h]
 unfold ndsZ
 rw [List.filter_map, List.map_map]; rfl
theorem kidsN_len (l : List Rno) (p : Bs) : (kidsN l p).length ≤ l.length := by
 unfold kidsN; rw [List.length_map]; exact List.length_filter_le _ _
def ownN (l : List Rno) (s : Int) : List Bs := (l.filter fun y => !decide (s = 0) && decide (y.2.2.st.own = s)).map (·.1)
theorem ownN_eq {l : List Rno} {τ : Tr} (h : ndsZ l = τ.nodes) (s : Int) : ownN l s = ownedZ τ s := by
 unfold ownN ownedZ
 rw [← h]
 unfold ndsZ
 rw [List.filter_map, List.map_map]; rfl
theorem ownN_len (l : List Rno) (s : Int) : (ownN l s).length ≤ l.length := by
 unfold ownN; rw [List.length_map]; exact List.length_filter_le _ _
theorem owned_len (τ : Tr) (s : Int) : (ownedZ τ s).length ≤ τ.nodes.length := by
 unfold ownedZ; rw [List.length_map]; exact List.length_filter_le _ _
theorem kidsZ_len (τ : Tr) (p : Bs) : (kidsZ τ p).length ≤ τ.nodes.length := by
 unfold kidsZ; rw [List.length_map]; exact List.length_filter_le _ _
theorem big_rd {l : List Rno} {i : Nat} (hi : i < l.length) : ∀ h : Hp, bigR inA l h → rdS 2 h l[i].2.1 l[i].2.2.acl.length (l[i].2.2.acl.flatMap acC) := by
 induction l generalizing i with
 | nil => simp at hi
 | cons x l ih =>
  intro h hs
  obtain ⟨h1, h2, -, a1, a2, p1, p2⟩ := hs
  cases i with
  | zero => exact rdS_mono p1 a1
  | succ i => exact rdS_mono (ih (by simpa using hi) h2 p2) a2
theorem big_snoc {l : List Rno} {y : Rno} {h : Hp} (hs : sep [inA y, bigR inA l] h) : bigR inA (l ++ [y]) h := by
 refine big_perm ?_ (big_of_cons hs)
 exact (List.perm_append_singleton y l).symm
theorem G.bigSnoc {W : World} {n : Nat} {ds : List Deferred} {E : Env} {L R : List HP} {X : Act → World → Prop} {l : List Rno} (y : Rno) {p : HP} (hp : p = inA y) (hL : Picks [p, bigR inA l] L R) (h : G W n ds E (bigR inA (l ++ [y]) :: R) X) : G W n ds E L X := by
 subst hp
 exact G.fold hL (fun _ hp => big_snoc hp) h
/-! ### Soundness -/
def findsZ (τ : Tr) (x : Pt) : Bool :=
 if x.kind = 1 then decide (ableZ x.path ∧ ¬ thereT τ x.path ∧ thereT τ (parentZ x.path))
 else if x.kind = 2 then decide (x.path ≠ [47] ∧ thereT τ x.path ∧ (kidsZ τ x.path).length = 0)
 else if x.kind = 3 ∨ x.kind = 4 then decide (thereT τ x.path) else false
def soundL (τ : Tr) (zx : Int) (cl : Bool) : List Pt → Bool
 | [] => true
 | x :: l => findsZ τ x && (!cl || decide (x.kind = 2)) && soundL (partZ τ x zx).1 zx cl l
def soundZ (τ : Tr) (zx : Int) (x : Pt) (subs : List Pt) : Bool :=
 if x.kind = 1 ∨ x.kind = 2 ∨ x.kind = 3 ∨ x.kind = 4 then findsZ τ x
 else if x.kind = 6 ∨ x.kind = 7 then soundL τ zx (decide (x.kind = 6)) subs else true
theorem sound_step {τ : Tr} {zx : Int} {cl : Bool} {l : List Pt} {i : Nat} (hi : i < l.length) : soundL (partsZ τ zx (l.take i)).1 zx cl (l.drop i) = (findsZ (partsZ τ zx (l.take i)).1 l[i] && (!cl || decide (l[i].kind = 2)) && soundL (partsZ τ zx (l.take (i + 1))).1 zx cl (l.drop (i + 1))) := by
 rw [List.drop_eq_getElem_cons hi, soundL, List.take_succ_eq_append_getElem hi, parts_snoc]
def fzNextV (ct cl cn cm cr : Nat) : Value := .func (.func 48) #[] #[vptr ct, vptr cl, vptr cn, vptr cm, vptr cr]
def fzTextV (cf cm cn cr : Nat) : Value := .func (.func 51) #[] #[vptr cf, vptr cm, vptr cn, vptr cr]
def fzNB (φ : Fz) : Bs := φ.nds.flatMap ndB
def fzRB (φ : Fz) : Bs := if φ.all then sessB φ.ss else []
structure FzP where
 ct : Nat
 cf : Nat
 cn : Nat
 cr : Nat
 cm : Nat
 cl : Nat
 wn : Nat
 wr : Nat
def fzF (f : Nat) (y : FzP) (z : Int) (b : Bool) : HP := ptc f [vint z, fzNextV y.ct y.cl y.cn y.cm y.cr, fzTextV y.cf y.cm y.cn y.cr, .bool b] 110
def fzC (f t : Nat) (y : FzP) (last : Bs) (many : Nat) (b1 b2 : Bs) : List HP := [ptc y.ct [vptr t] 28, ptc y.cf [vptr f] 47, ptc y.cn [vptr y.wn] 111, ptc y.cr [vptr y.wr] 111, ptc y.cm [vint many] 3, ptc y.cl [vstr last] 9, wrR y.wn b1, wrR y.wr b2]
def fzA (f t : Nat) (y : FzP) (φ : Fz) : List HP := fzC f t y (lastP φ.nds) φ.nds.length (fzNB φ) (fzRB φ)
def fuzR (f t : Nat) (φ : Fz) : HP := fun h => ∃ y : FzP, True ∧ sep (fzF f y φ.from' φ.all :: fzA f t y φ) h
section
variable {W : World} {n : Nat} {ds : List Deferred} {E : Env} {L R : List HP} {X : Act → World → Prop}
theorem G.fzOpen {f t : Nat} {φ : Fz} (hL : Pick (fuzR f t φ) L R) (h : ∀ y : FzP, G W n ds E (ptc f [vint φ.from', fzNextV y.ct y.cl y.cn y.cm y.cr, fzTextV y.cf y.cm y.cn y.cr, .bool φ.all] 110 :: ptc y.ct [vptr t] 28 :: ptc y.cf [vptr f] 47 :: ptc y.cn [vptr y.wn] 111 :: ptc y.cr [vptr y.wr] 111 :: ptc y.cm [vint φ.nds.length] 3 :: ptc y.cl [vstr (lastP φ.nds)] 9 :: wrR y.wn (fzNB φ) :: wrR y.wr (fzRB φ) :: R) X) : G W n ds E L X :=
 G.focus hL (G.open (q := fun y : FzP => fzF f y φ.from' φ.all :: fzA f t y φ) (φ := fun _ => True) (fun _ hp => hp) fun y _ => h y)
theorem G.fzFold {f t : Nat} (φ : Fz) (y : FzP) {l l1 l2 : List Value} {b1 b2 : Bs} (hL : Picks [ptc f l 110, ptc y.ct [vptr t] 28, ptc y.cf [vptr f] 47, ptc y.cn [vptr y.wn] 111, ptc y.cr [vptr y.wr] 111, ptc y.cm l2 3, ptc y.cl l1 9, wrR y.wn b1, wrR y.wr b2] L R)
  (h0 : l = [vint φ.from', fzNextV y.ct y.cl y.cn y.cm y.cr, fzTextV y.cf y.cm y.cn y.cr, .bool φ.all]) (h1 : l1 = [vstr (lastP φ.nds)]) (h2 : l2 = [vint φ.nds.length]) (h3 : b1 = fzNB φ) (h4 : b2 = fzRB φ) (h : G W n ds E (fuzR f t φ :: R) X) : G W n ds E L X := by
 subst h0; subst h1; subst h2; subst h3; subst h4
 exact G.fold hL (fun _ hp => ⟨y, trivial, hp⟩) h
theorem G.fzCast {f t : Nat} {φ φ' : Fz} (hL : Pick (fuzR f t φ) L R) (hw : φ' = φ) (h : G W n ds E (fuzR f t φ' :: R) X) : G W n ds E L X := by
 subst hw; exact G.focus hL h
end
section
variable {W : World} {n : Nat} {ds : List Deferred} {E : Env} {L R : List HP} {X : Act → World → Prop}
end
section
variable {P : Program} {E : Env} {L R : List HP} {ty : TypeId}
theorem Quiet.buildA {t e : TypeId} {n : Nat} {parts : Array (Nat × Operand)} {zl cells : List Value} {us : List (Nat × Value)} (ha : arrOf P t = some (n, e, 1)) (hz : zeroOf P t = some (.agg zl.toArray))
  (hu : parts.toList.map (fun p => (p.1, ev E p.2)) = us.map (fun p => (p.1, some p.2))) (hfill : Instr.fill (fun i => some (i * 1, 1)) zl.toArray us = some cells.toArray) : Quiet P ⟨none, .build t parts, ty, "", #[], none⟩ E L (.agg cells.toArray) := by
 intro ρ w hag _
 unfold arrOf at ha
 split at ha <;> (try cases ha)
 rename_i n' e' hu'
 split at ha <;> (try cases ha)
 rename_i inf hinf
 simp only [Option.some.injEq, Prod.mk.injEq] at ha
 obtain ⟨rfl, rfl, h1⟩ := ha
 have hs : sizeOf' P e' = some 1 := by unfold sizeOf'; rw [hinf, ← h1]; rfl
 refine run_v ?_
 show (Instr.build t (parts.map fun p => (p.1, ρ p.2))).run P w = _
 unfold Instr.build
 rw [run_bind (run_zero hz)]
 dsimp only
 rw [run_bind (run_underlying hu')]
 dsimp only
 rw [run_bind (run_sizeOf hs)]
 have hparts : (parts.map fun p => (p.1, ρ p.2)).toList = us := by
  rw [Array.toList_map]; exact agree_parts hag _ _ hu
 rw [hparts]
 rw [show Value.cells (.agg zl.toArray) = zl.toArray from rfl, hfill]
 rfl
theorem Quiet.arrIndex {t e : TypeId} {n : Nat} {x y : Operand} {cs : List Value} {k : IntKind} {i : Int} {v : Value} (hx : ev E x = some (.agg cs.toArray)) (hy : ev E y = some (.int k i)) (ha : arrOf P t = some (n, e, 1)) (hag : aggOf P e = some none)
  (h0 : 0 ≤ i ∧ i < n) (hc : cs[i.toNat * 1]? = some v) : Quiet P ⟨none, .index t x y, ty, "", #[], none⟩ E L v := by
 intro ρ w hr _
 unfold arrOf at ha
 split at ha <;> (try cases ha)
 rename_i n' e' hu'
 split at ha <;> (try cases ha)
 rename_i inf hinf
 simp only [Option.some.injEq, Prod.mk.injEq] at ha
 obtain ⟨rfl, rfl, h1⟩ := ha
 have hs : sizeOf' P e' = some 1 := by unfold sizeOf'; rw [hinf, ← h1]; rfl
 refine run_v ?_
 show (Instr.index t (ρ x) (ρ y)).run P w = _
 rw [hr x _ hx, hr y _ hy]
 unfold Instr.index
 rw [run_bind (show (asIntOf (.int k i)).run P w = .ok (k, i) w by rfl)]
 dsimp only
 rw [run_bind (run_underlying hu')]
 dsimp only
 rw [if_pos h0, run_bind (run_sizeOf hs)]
 exact run_part_cell hag hc
end
theorem fm_take {α : Type} (f : α → Bs) (l : List α) (j : Nat) : ((l.take j).flatMap f).length ≤ (l.flatMap f).length := by
 conv => rhs; rw [← List.take_append_drop j l]
 rw [List.flatMap_append, List.length_append]; omega
theorem fm_step {α : Type} (f : α → Bs) {l : List α} {j : Nat} (hj : j < l.length) : (l.take (j + 1)).flatMap f = (l.take j).flatMap f ++ f l[j] := by
 rw [List.take_succ_eq_append_getElem hj, List.flatMap_append]; simp
theorem fm_stepL {α : Type} (f : α → Bs) {l : List α} {j : Nat} (hj : j < l.length) : ((l.take j).flatMap f).length + (f l[j]).length ≤ (l.flatMap f).length := by
 have := fm_take f l (j + 1)
 rw [fm_step f hj, List.length_append] at this
 exact this
theorem cntR_le (st : Rs) : (cntR st).1 ≤ 256 := by
 unfold cntR runP
 split
 ·exact Nat.zero_le _
 ·split
  ·rename_i x hx; exact (cnt_form hx).2
  ·exact Nat.zero_le _
section
variable {P : Program} {W : World} {n : Nat} {ds : List Deferred} {E : Env} {L R : List HP} {X : Act → World → Prop} {ty : TypeId}
theorem G.wrCast {w : Nat} {bs bs' : Bs} (hL : Pick (wrR w bs) L R) (hb : bs = bs') (h : G W n ds E (wrR w bs' :: R) X) : G W n ds E L X := by
 subst hb; exact G.perm hL.perm h
theorem G.rdCast {r : Nat} {st st' : Rs} (hL : Pick (rdR r st) L R) (hb : st = st') (h : G W n ds E (rdR r st' :: R) X) : G W n ds E L X := by
 subst hb; exact G.perm hL.perm h
end
theorem nd_facts {τ : Tr} {N : Nat} (ho : τ.Ok N) {y : PN} (hy : y ∈ τ.nodes) : dataD τ y.1 = y.2.data ∧ statD τ y.1 = { y.2.st with len := y.2.data.length, kids := (kidsZ τ y.1).length } ∧ aclD τ y.1 = y.2.acl := by
 have h : alook τ.nodes y.1 = some y.2 := al_of_mem (ho.sorted.nodup linB) hy
 unfold dataD statD statZ aclD
 rw [h]; exact ⟨rfl, rfl, rfl⟩
def num7 (s : Stt) : List Value := ints (nums7 s)
theorem ints_get {l : List Int} {i : Nat} (h : i < l.length) : (ints l)[((i : Int)).toNat * 1]? = some (vint l[i]) := by simp [ints, h]
theorem snode_spec (w t : Nat) (bs : Bs) (τ : Tr) (y : PN) (N : Nat) (ho : τ.Ok N) (hN : N ≤ 1099511627776) (hy : y ∈ τ.nodes) (hw : PnW y) (hl : bs.length + (ndB y).length ≤ 70368744100000) : Fn Tryz.prog 49 #[vptr w, vptr t, vstr y.1] [wrR w bs, treeR t τ] fun v L => v = .tuple #[] ∧ L = [wrR w (bs ++ ndB y), treeR t τ] := by
 refine Fn.intro Tryz.func49 rfl rfl fun F W => ?_
 obtain ⟨hda, hst, hac⟩ := nd_facts ho hy
 have hyl := hw.p
 have hyd := hw.d
 have hyf := hw.acl.few
 have hlen : (ndB y).length = (cntB y.1.length).length + y.1.length + ((cntB y.2.data.length).length + y.2.data.length) + ((cntB y.2.acl.length).length + (y.2.acl.flatMap acB).length) + ((nums7 y.2.st).flatMap numB).length := by unfold ndB txtB aclB; simp only [List.length_append]; omega
 refine .sm rfl (.m rfl (.oq (.c Tryz.func64 [_, _] (trget_spec t τ y.1 N ho hN)) ?_))
 rintro v L' ⟨rfl, rfl⟩; rw [hda, hst]
 refine .m rfl (.u (.extract rfl rfl) (.u (.extract rfl rfl) (.u (.extract rfl rfl) (.oq (.allocA ze_92) ?_))))
 rintro v L' ⟨b7, rfl, rfl⟩
 refine .a rfl (.oq (.storeA rfl rfl ?c10 sz_92 ?c13 ?c11 (nfz0 _ _)) ?_)
 case c10 => intro v hv; simp only [stC, List.mem_cons, List.not_mem_nil, or_false] at hv; rcases hv with rfl | rfl | rfl | rfl | rfl | rfl | rfl | rfl | rfl <;> rfl
 case c13 => rfl
 case c11 => simp [stC]
 rintro v L' rfl
 refine .a rfl (.nil (.ptCast (b := b7) (l' := stC ({ y.2.st with len := y.2.data.length, kids := (kidsZ τ y.1).length } : Stt)) (by repeat' constructor) rfl (.then_n (.sm rfl (.m rfl (.oq (.c Tryz.func66 [_, _] (tracl_spec t τ y.1 N ho)) ?_))))))
 rintro v L' ⟨ua, rfl, ⟨aa, ca, rfl⟩, rfl⟩; rw [hac]
 refine .m rfl (.u (.extract rfl rfl) (.u (.extract rfl rfl) (.a rfl (.an rfl (.sm rfl (.m rfl (.oq (.c Tryz.func52 [_, _] (ctext_spec w bs y.1 ?hb23)) ?_)))))))
 case hb23 => omega
 rintro v L' ⟨rfl, rfl⟩
 refine .nt (.sm rfl (.m rfl (.oq (.c Tryz.func52 [_, _] (ctext_spec w _ y.2.data ?hb27)) ?_)))
 case hb27 => simp only [List.length_append, txtB]; omega
 rintro v L' ⟨rfl, rfl⟩
 refine .nt (.sm rfl (.m rfl (.q (.slen rfl Tryz.underlying34 rfl) rfl (.oq (.c Tryz.func54 [_, _] (ccount_spec w _ y.2.acl.length ?ha32 ?hb33)) ?_))))
 case ha32 => omega
 case hb33 => simp only [List.length_append, txtB]; omega
 rintro v L' ⟨rfl, rfl⟩
 refine .nt (.seq (.sm rfl (.q (.slen rfl Tryz.underlying34 rfl) rfl (.m rfl (.nt (.block (.wrCast (w := w) (bs' := bs ++ (txtB y.1 ++ (txtB y.2.data ++ cntB y.2.acl.length)) ++ (y.2.acl.take 0).flatMap acB) (by repeat' constructor) (by simp) (.loopK (ι := Nat) (fun q E => (40, vint q) :: E) (fun q => [wrR w (bs ++ (txtB y.1 ++ (txtB y.2.data ++ cntB y.2.acl.length)) ++ (y.2.acl.take q).flatMap acB)]) (fun q => q ≤ y.2.acl.length) (fun q => y.2.acl.length - q) (0) (ts := [0, 7, 38, 39]) (.cons rfl (.cons rfl (.cons rfl (.cons rfl (.nil))))) (Nat.zero_le _) ⟨rfl, rfl, rfl, rfl, rfl, trivial⟩ (by repeat' constructor) ?_))))))))
 rintro j hj
 refine .sr (.ui rfl rfl rfl (.nt (.seq (.condD rfl (fun h41 => ?_) (fun h41 => ?_)))))
 ·have hj2 : j < y.2.acl.length := by omega
  have hft := fm_stepL acB hj2
  have hac2 := hw.acl.each _ (List.getElem_mem hj2)
  have hab : (acB y.2.acl[j]).length = (numB y.2.acl[j].1).length + ((cntB y.2.acl[j].2.length).length + y.2.acl[j].2.length) := by unfold acB txtB; simp
  refine .slShape (T := 90) (sz := 2) (v := .slice aa y.2.acl.length ca) (xs := y.2.acl.flatMap acC) (by repeat' constructor) (by omega) fun ba ba' e0 mba _ => ?_
  simp only [Value.slice.injEq, true_and] at e0
  obtain ⟨rfl, rfl⟩ := e0
  refine .sk (.seq (.block (.sr (.q (.indexAddr rfl rfl el_34 (by omega)) rfl (.q (.loadRdA (sz := 2) (j := j * 2) (k := 2) (p := slR 90 2 _ y.2.acl.length (y.2.acl.flatMap acC)) (vs := acC y.2.acl[j]) rfl ag_90 (by repeat' constructor) (fun h hp => slR_rd hp) (by simp) (by omega) (by omega) (flatMap_at (f := acC) (sz := 2) (fun _ _ => rfl) (by omega))) rfl (.oq (.allocA ze_90) ?_))))))
  rintro v L' ⟨b12, rfl, rfl⟩
  refine .oq (.storeA rfl rfl ?c43 sz_90 ?c46 ?c44 (nfz0 _ _)) ?_
  case c43 => simp [acC, isCell]
  case c46 => rfl
  case c44 => simp [acC]
  rintro v L' rfl
  refine .nil (.ptCast (b := b12) (l' := acC y.2.acl[j]) (by repeat' constructor) (by exact rfl) (.then_n (.sm rfl (.u (.fieldAddr rfl fo_90_0) (.u (.ld rfl ag_3) (.oq (.c Tryz.func53 [_, _] (cnum_spec w _ y.2.acl[j].1 hac2.1.n ?hb51)) ?_))))))
  case hb51 => simp only [List.length_append, txtB]; omega
  rintro v L' ⟨rfl, rfl⟩
  refine .nt (.region (.m rfl (.u (.fieldAddr rfl fo_90_1) (.u (.ld rfl ag_9) (.oq (.c Tryz.func52 [_, _] (ctext_spec w _ y.2.acl[j].2 ?hb57)) ?_)))))
  case hb57 => simp only [List.length_append, txtB]; omega
  rintro v L' ⟨rfl, rfl⟩
  refine .nil (.blk_n (.then_n (.region (.q (.add rfl rfl (by omega)) rfl (.m rfl (.nt (.wrCast (w := w) (bs' := bs ++ (txtB y.1 ++ (txtB y.2.data ++ cntB y.2.acl.length)) ++ (y.2.acl.take (j + 1)).flatMap acB) (by repeat' constructor) (by rw [fm_step acB hj2]; unfold acB; simp only [List.append_assoc]) ?_)))))))
  exact .rk (j + 1) (by omega) (by omega) ⟨rfl, rfl, rfl, rfl, rfl, trivial⟩
 have hjj : j = y.2.acl.length := by omega
 rw [hjj, List.take_length]
 refine .exit (.then_e (.then_e (.blk_e (.then_n (.sr (.u (.fieldAddr rfl fo_92_0) (.u (.ld rfl ag_3) (.u (.fieldAddr rfl fo_92_1) (.u (.ld rfl ag_3) (.u (.fieldAddr rfl fo_92_2) (.u (.ld rfl ag_3) (.u (.fieldAddr rfl fo_92_3) (.u (.ld rfl ag_3) (.u (.fieldAddr rfl fo_92_4) (.u (.ld rfl ag_3) (.u (.fieldAddr rfl fo_92_5) (.u (.ld rfl ag_3) (.u (.fieldAddr rfl fo_92_6) (.u (.ld rfl ag_3) (.q (.to (v' := .agg (num7 y.2.st).toArray) (.buildA (us := [(0, vint y.2.st.cz), (1, vint y.2.st.mz), (2, vint y.2.st.pz), (3, vint y.2.st.ver), (4, vint y.2.st.cver), (5, vint y.2.st.av), (6, vint y.2.st.own)]) (cells := num7 y.2.st) ar_168 ze_168 rfl (by kernel_rfl)) rfl) rfl (.m rfl (.nt (.block (.wrCast (w := w) (bs' := bs ++ (txtB y.1 ++ (txtB y.2.data ++ aclB y.2.acl)) ++ ((nums7 y.2.st).take 0).flatMap numB) (by repeat' constructor) (by unfold aclB; simp) ?_))))))))))))))))))))))))
 refine .loopK (ι := Nat) (fun q E => (68, vint q) :: E) (fun q => [wrR w (bs ++ (txtB y.1 ++ (txtB y.2.data ++ aclB y.2.acl)) ++ ((nums7 y.2.st).take q).flatMap numB)]) (fun q => q ≤ 7) (fun q => 7 - q) (0) (ts := [0, 67]) (.cons rfl (.cons rfl (.nil))) (Nat.zero_le _) ⟨rfl, rfl, rfl, trivial⟩ (by repeat' constructor) ?_
 rintro j hj
 refine .sr (.ui rfl rfl rfl (.nt (.seq (.condD rfl (fun h69 => ?_) (fun h69 => ?_)))))
 ·have hj2 : j < 7 := by omega
  have hn7 : j < (nums7 y.2.st).length := hj2
  have hft := fm_stepL numB hn7
  refine .sk (.seq (.block (.sr (.q (.arrIndex (cs := num7 y.2.st) (v := vint (nums7 y.2.st)[j]) rfl rfl ar_168 ag_3 (by omega) (ints_get hn7)) rfl (.an rfl (.region (.m rfl (.m rfl (.oq (.c Tryz.func53 [_, _] (cnum_spec w _ (nums7 y.2.st)[j] (hw.st _ (List.getElem_mem hn7)) ?hb80)) ?_)))))))))
  case hb80 => simp only [List.length_append, txtB, aclB]; omega
  rintro v L' ⟨rfl, rfl⟩
  refine .nil (.blk_n (.then_n (.region (.q (.add rfl rfl (by omega)) rfl (.m rfl (.nt (.wrCast (w := w) (bs' := bs ++ (txtB y.1 ++ (txtB y.2.data ++ aclB y.2.acl)) ++ ((nums7 y.2.st).take (j + 1)).flatMap numB) (by repeat' constructor) (by rw [fm_step numB (show j < (nums7 y.2.st).length from hj2), List.append_assoc]) ?_)))))))
  exact .rk (j + 1) (by omega) (by omega) ⟨rfl, rfl, rfl, trivial⟩
 have hjj : j = 7 := by omega
 rw [hjj]
 refine .wrCast (w := w) (bs' := bs ++ ndB y) (by repeat' constructor) (by unfold ndB; simp only [List.append_assoc]; rfl) (.exit (.then_e (.then_e (.blk_e (.done_n ?_)))))
 exact .vv
theorem ssess_spec (w t : Nat) (bs : Bs) (τ : Tr) (N : Nat) (ho : τ.Ok N) (hN : N ≤ 1048576) (hw : TrW τ) (hl : bs.length + (sessB τ.sess).length ≤ 70368744100000) : Fn Tryz.prog 50 #[vptr w, vptr t] [wrR w bs, treeR t τ] fun v L => v = .tuple #[] ∧ L = [wrR w (bs ++ sessB τ.sess), treeR t τ] := by
 refine Fn.intro Tryz.func50 rfl rfl fun F W => ?_
 have hsf := ho.sfew
 have hiz : (idsZ τ).length = τ.sess.length := List.length_map _
 have hlen : (sessB τ.sess).length = (cntB τ.sess.length).length + (τ.sess.flatMap ssB).length := by unfold sessB; rw [List.length_append]
 refine .sm rfl (.oq (.c Tryz.func75 [_] (trsessions_spec t τ N ho (fun y hy => (hw.ss y hy).i.2) (by omega))) ?_)
 rintro v L' ⟨⟨ai, ci, rfl⟩, rfl⟩; rw [hiz]
 refine .an rfl (.sm rfl (.m rfl (.q (.slen rfl Tryz.underlying45 rfl) rfl (.oq (.c Tryz.func54 [_, _] (ccount_spec w bs τ.sess.length ?ha6 ?hb7)) ?_))))
 case ha6 => omega
 case hb7 => omega
 rintro v L' ⟨rfl, rfl⟩
 refine .nt (.sm rfl (.q (.slen rfl Tryz.underlying45 rfl) rfl (.m rfl (.nt (.block (.wrCast (w := w) (bs' := bs ++ cntB τ.sess.length ++ (τ.sess.take 0).flatMap ssB) (by repeat' constructor) (by simp) (.loopK (ι := Nat) (fun q E => (18, vint q) :: E) (fun q => [wrR w (bs ++ cntB τ.sess.length ++ (τ.sess.take q).flatMap ssB), treeR t τ]) (fun q => q ≤ τ.sess.length) (fun q => τ.sess.length - q) (0) (ts := [0, 1, 16, 17]) (.cons rfl (.cons rfl (.cons rfl (.cons rfl (.nil))))) (Nat.zero_le _) ⟨rfl, rfl, rfl, rfl, rfl, trivial⟩ (by repeat' constructor) ?_)))))))
 rintro j hj
 refine .sr (.ui rfl rfl rfl (.nt (.seq (.condD rfl (fun h19 => ?_) (fun h19 => ?_)))))
 ·have hj2 : j < τ.sess.length := by omega
  have hft := fm_stepL ssB hj2
  have hsw := hw.ss _ (List.getElem_mem hj2)
  have hsl : alook τ.sess τ.sess[j].1 = some τ.sess[j].2 := al_of_mem (ho.ssorted.nodup linI) (List.getElem_mem hj2)
  have hsd : sesD τ τ.sess[j].1 = τ.sess[j].2 := by unfold sesD; rw [hsl]; rfl
  have hs3 := hsw.s
  have hab : (ssB τ.sess[j]).length = (numB τ.sess[j].1).length + ((numB τ.sess[j].2.1).length + ((cntB τ.sess[j].2.2.length).length + τ.sess[j].2.2.length)) := by unfold ssB txtB; simp only [List.length_append]
  refine .slShape (T := 3) (sz := 1) (v := .slice ai τ.sess.length ci) (xs := ints (idsZ τ)) (by repeat' constructor) (by omega) fun bi bi' e0 mbi _ => ?_
  simp only [Value.slice.injEq, true_and] at e0
  obtain ⟨rfl, rfl⟩ := e0
  refine .sk (.seq (.block (.sr (.q (.indexAddr rfl rfl el_45 (by omega)) rfl (.q (.loadRd (sz := 1) (j := j * 1) (p := slR 3 1 _ τ.sess.length (ints (idsZ τ))) (v := vint τ.sess[j].1) rfl ag_3 (by repeat' constructor) (fun h hp => slR_rd hp) (by simp) (by simp [ints, idsZ, hj2])) rfl (.an rfl (.sm rfl (.m rfl (.oq (.c Tryz.func73 [_, _] (trsession_spec t τ τ.sess[j].1)) ?_)))))))))
  rintro v L' ⟨rfl, rfl⟩; rw [hsd]
  refine .m rfl (.u (.extract rfl rfl) (.u (.extract rfl rfl) (.u (.extract rfl rfl) (.a rfl (.a rfl (.an rfl (.sm rfl (.m rfl (.oq (.c Tryz.func53 [_, _] (cnum_spec w _ τ.sess[j].1 hsw.i ?hb22)) ?_)))))))))
  case hb22 => simp only [List.length_append]; omega
  rintro v L' ⟨rfl, rfl⟩
  refine .nt (.sm rfl (.m rfl (.oq (.c Tryz.func53 [_, _] (cnum_spec w _ τ.sess[j].2.1 hsw.t ?hb26)) ?_)))
  case hb26 => simp only [List.length_append]; omega
  rintro v L' ⟨rfl, rfl⟩
  refine .nt (.region (.m rfl (.m rfl (.oq (.c Tryz.func52 [_, _] (ctext_spec w _ τ.sess[j].2.2 ?hb30)) ?_))))
  case hb30 => simp only [List.length_append]; omega
  rintro v L' ⟨rfl, rfl⟩
  refine .nil (.blk_n (.then_n (.region (.q (.add rfl rfl (by omega)) rfl (.m rfl (.nt (.wrCast (w := w) (bs' := bs ++ cntB τ.sess.length ++ (τ.sess.take (j + 1)).flatMap ssB) (by repeat' constructor) (by rw [fm_step ssB hj2]; unfold ssB; simp only [List.append_assoc]) ?_)))))))
  exact .rk (j + 1) (by omega) (by omega) ⟨rfl, rfl, rfl, rfl, rfl, trivial⟩
 have hjj : j = τ.sess.length := by omega
 rw [hjj, List.take_length]
 refine .wrCast (w := w) (bs' := bs ++ sessB τ.sess) (by repeat' constructor) (by unfold sessB; rw [List.append_assoc]) (.exit (.then_e (.then_e (.blk_e (.done_n ?_)))))
 exact .vv
theorem sz_23 : sizeOf' Tryz.prog 23 = some 1 := by kernel_rfl
theorem sz_51 : sizeOf' Tryz.prog 51 = some 1 := by kernel_rfl
theorem ag_23 : aggOf Tryz.prog 23 = some none := by kernel_rfl
theorem ag_51 : aggOf Tryz.prog 51 = some none := by kernel_rfl
section
variable {P : Program} {E : Env} {L : List HP} {ty : TypeId}
theorem Quiet.strgt {t t' : TypeId} {x y : Operand} {a b : List UInt8} (hx : ev E x = some (vstr a)) (hy : ev E y = some (vstr b)) : Quiet P ⟨none, .binOp .gtr t x y t', ty, "", #[], none⟩ E L (.bool (decide (b < a))) := by
 intro ρ w ha _
 have key : (!(Op.bytesLess a b || decide (a = b))) = decide (b < a) := by
  rw [bytesLess_eq]
  rcases linB.tri a b with h | h | h
  ·rw [decide_eq_true h, decide_eq_false (fun g => linB.irr _ (linB.tr _ _ _ h g))]; rfl
  ·subst h; rw [decide_eq_true (rfl : a = a), decide_eq_false (linB.irr a), Bool.or_true]; rfl
  ·rw [decide_eq_false (fun g => linB.irr _ (linB.tr _ _ _ h g)), decide_eq_false (fun e => by subst e; exact linB.irr _ h), decide_eq_true h]; rfl
 rw [← key]
 simp [execOp, ha x _ hx, ha y _ hy, eqGuard, binOp, Op.stringOp, Bind.bind, Sem.bind, Pure.pure, Sem.run]
 try (by_cases h : a = b <;> simp [h])
end
theorem FzN.room {τ : Tr} {φ : Fz} {M : Nat} (h : FzN τ φ M) (hM : M ≤ 1048576) : (fzNB φ).length ≤ 36909875200000 ∧ (fzRB φ).length ≤ 1099600000000 := by
 have h1 := h.many
 have h2 := h.sm
 refine ⟨nodes_len8 h.nds (by omega), ?_⟩
 unfold fzRB
 split
 ·have h3 := sess_len8 h.ss (by omega)
  have h4 := sev_len10 (u := φ.ss.length) (by have hu : U64 = 18446744073709551616 := rfl; omega)
  unfold sessB cntB
  rw [List.length_append]; omega
 ·simp
theorem find_first {l : List PN} {a : Bs} {j : Nat} (hj : j < l.length) (h : a < l[j].1) (hno : ∀ i (hi : i < l.length), i < j → ¬ a < l[i].1) : (l.find? fun y => decide (a < y.1)) = some l[j] := by
 rw [List.find?_eq_some_iff_getElem]
 exact ⟨by simpa using h, j, hj, rfl, fun i hi => by simpa using hno i (by omega) hi⟩
theorem find_last {l : List PN} {a : Bs} (hno : ∀ i (hi : i < l.length), ¬ a < l[i].1) : (l.find? fun y => decide (a < y.1)) = none := by
 rw [List.find?_eq_none]
 intro y hy
 obtain ⟨i, hi, rfl⟩ := List.mem_iff_getElem.1 hy
 simpa using hno i hi
theorem next_yes {τ : Tr} {φ : Fz} {y : PN} (h : fzAt τ φ = some y) : fzNext τ φ = ⟨φ.from', φ.nds ++ [y], φ.ss, false⟩ := by unfold fzNext; rw [h]
theorem next_no {τ : Tr} {φ : Fz} (h : fzAt τ φ = none) : fzNext τ φ = ⟨φ.from', φ.nds, φ.ss ++ τ.sess, true⟩ := by unfold fzNext; rw [h]
theorem next_from (τ : Tr) (φ : Fz) : (fzNext τ φ).from' = φ.from' := by unfold fzNext; split <;> rfl
theorem text_all {φ : Fz} (h : φ.all = true) : txtB headB ++ numB φ.from' ++ cntB φ.nds.length ++ fzNB φ ++ fzRB φ = textZ φ := by
 unfold textZ layB nodesB fzNB fzRB
 rw [if_pos h, if_pos h]
 simp only [List.append_assoc]
theorem text_no {φ : Fz} (h : φ.all = false) : textZ φ = [] := by unfold textZ; rw [h]; rfl
theorem sbegin_spec (t : Nat) (τ : Tr) : Fn Tryz.prog 17 #[vptr t] [treeR t τ] fun v L => ∃ f, v = vptr f ∧ L = [fuzR f t (beginZ τ), treeR t τ] := by
 refine Fn.intro Tryz.func17 rfl rfl fun F W => ?_
 refine .sr (.oq (.box rfl) ?_)
 rintro v L' ⟨ct, rfl, rfl⟩
 refine .an rfl (.seq (.sr (.u (.ld rfl ag_28) (.q (.as (v' := .bool false) (by rfl) (.ptreq rfl rfl Tryz.underlying28)) rfl (.nt (.condF rfl (.sk (.sr (.u (.ld rfl ag_28) (.cv Tryz.func24 [_] (trzxid_spec t τ) ?_))))))))))
 refine .q (.to (v' := .agg ([vint τ.zx, .nilFunc, .nilFunc, .bool false] : List Value).toArray) (.build (us := [(0, _)]) fl_110 ze_110 rfl rfl (by simp [isCell])) rfl) rfl (.oq (.box rfl) ?_)
 rintro v L' ⟨f, rfl, rfl⟩
 refine .oq (.alloc ze_47) ?_
 rintro v L' ⟨cf, rfl, rfl⟩
 refine .st rfl rfl rfl sz_47 ?_
 refine .nil (.ptCast (b := f) (l' := [vint τ.zx, .nilFunc, .nilFunc, .bool false]) (by repeat' constructor) rfl (.then_n (.sr (.oq (.c Tryz.func47 [] (cnew_spec)) ?_))))
 rintro v L' ⟨wn, rfl, rfl⟩
 refine .oq (.c Tryz.func47 [] (cnew_spec)) ?_
 rintro v L' ⟨wr, rfl, rfl⟩
 refine .oq (.alloc ze_111) ?_
 rintro v L' ⟨cn, rfl, rfl⟩
 refine .oq (.alloc ze_111) ?_
 rintro v L' ⟨cr, rfl, rfl⟩
 refine .st rfl rfl rfl sz_111 ?_
 refine .st rfl rfl rfl sz_111 ?_
 refine .nt (.sr (.oq (.alloc ze_3) ?_))
 rintro v L' ⟨cm, rfl, rfl⟩
 refine .oq (.alloc ze_9) ?_
 rintro v L' ⟨cl, rfl, rfl⟩
 refine .st rfl rfl rfl sz_3 ?_
 refine .st rfl rfl rfl sz_9 ?_
 refine .nt (.sr (.u (.ld rfl ag_47) (.q (.func (us := []) (vs := [_, _, _, _, _]) rfl rfl) rfl (.nf rfl fo_110_1 (.st rfl rfl rfl sz_23 ?_)))))
 refine .nt (.sr (.u (.ld rfl ag_47) (.q (.func (us := []) (vs := [_, _, _, _]) rfl rfl) rfl (.nf rfl fo_110_2 (.st rfl rfl rfl sz_51 ?_)))))
 refine .nt (.sr (.u (.ld rfl ag_47) (.an rfl (.ret (.fzFold (f := f) (t := t) (beginZ τ) (⟨ct, cf, cn, cr, cm, cl, wn, wr⟩ : FzP) (by repeat' constructor) rfl rfl rfl rfl rfl ?_)))))
 exact .dn rfl rfl ⟨f, rfl, rfl⟩
theorem snext_spec (f t : Nat) (y : FzP) (τ : Tr) (φ : Fz) (N M : Nat) (ho : τ.Ok N) (hN : N ≤ 1048576) (hw : TrW τ) (hz : FzN τ φ M) (hM : M ≤ 1048576) (ha : φ.all = false) : Fn Tryz.prog 48 #[vptr y.ct, vptr y.cl, vptr y.cn, vptr y.cm, vptr y.cr] [ptc y.ct [vptr t] 28, ptc y.cf [vptr f] 47, ptc y.cn [vptr y.wn] 111, ptc y.cr [vptr y.wr] 111, ptc y.cm [vint (φ).nds.length] 3, ptc y.cl [vstr (lastP (φ).nds)] 9, wrR y.wn (fzNB (φ)), wrR y.wr (fzRB (φ)), treeR t τ] fun v L => v = .bool (fzNext τ φ).all ∧ L = [ptc y.ct [vptr t] 28, ptc y.cf [vptr f] 47, ptc y.cn [vptr y.wn] 111, ptc y.cr [vptr y.wr] 111, ptc y.cm [vint (fzNext τ φ).nds.length] 3, ptc y.cl [vstr (lastP (fzNext τ φ).nds)] 9, wrR y.wn (fzNB (fzNext τ φ)), wrR y.wr (fzRB (fzNext τ φ)), treeR t τ] := by
 refine Fn.intro Tryz.func48 rfl rfl fun F W => ?_
 obtain ⟨hr1, hr2⟩ := hz.room hM
 have hmy := hz.many
 have hfew := ho.few
 have hpz : (pathsZ τ).length = τ.nodes.length := List.length_map _
 refine .sr (.an rfl (.seq (.sr (.u (.ld rfl ag_28) (.oq (.c Tryz.func22 [_] (trpaths_spec t τ N ho (by omega))) ?_)))))
 rintro v L' ⟨⟨ap, cp, rfl⟩, rfl⟩; rw [hpz]
 refine .q (.slen rfl Tryz.underlying54 rfl) rfl (.m rfl (.nt (.block (.loopK (ι := Nat) (fun q E => (11, vint q) :: E) (fun q => []) (fun q => q ≤ τ.nodes.length ∧ ∀ i (hi : i < τ.nodes.length), i < q → ¬ lastP φ.nds < τ.nodes[i].1) (fun q => τ.nodes.length - q) (0) (ts := [0, 1, 2, 3, 4, 9, 10]) (.cons rfl (.cons rfl (.cons rfl (.cons rfl (.cons rfl (.cons rfl (.cons rfl (.nil)))))))) (⟨Nat.zero_le _, fun i _ h => absurd h (Nat.not_lt_zero _)⟩) ⟨rfl, rfl, rfl, rfl, rfl, rfl, rfl, rfl, trivial⟩ (by repeat' constructor) ?_))))
 rintro j ⟨hj, hno⟩
 refine .sr (.ui rfl rfl rfl (.nt (.seq (.condD rfl (fun h12 => ?_) (fun h12 => ?_)))))
 ·have hj2 : j < τ.nodes.length := by omega
  have hmem : τ.nodes[j] ∈ τ.nodes := List.getElem_mem hj2
  refine .slShape (T := 9) (sz := 1) (v := .slice ap τ.nodes.length cp) (xs := strs (pathsZ τ)) (by repeat' constructor) (by omega) fun bp bp' e0 mbp _ => ?_
  simp only [Value.slice.injEq, true_and] at e0
  obtain ⟨rfl, rfl⟩ := e0
  refine .sk (.seq (.block (.sr (.q (.indexAddr rfl rfl el_54 (by omega)) rfl (.q (.loadRd (sz := 1) (j := j * 1) (p := slR 9 1 _ τ.nodes.length (strs (pathsZ τ))) (v := vstr τ.nodes[j].1) rfl ag_9 (by repeat' constructor) (fun h hp => slR_rd hp) (by simp) (by simp [strs, pathsZ, hj2])) rfl (.an rfl (.sm rfl (.u (.ld rfl ag_9) (.u (.strgt rfl rfl) (.nt (.condD rfl (fun h17 => ?_) (fun h17 => ?_))))))))))))
  ·have hpl := (hw.nd _ hmem).len
   have he : fzAt τ φ = some τ.nodes[j] := find_first hj2 h17 hno
   rw [next_yes he]
   refine .sr (.u (.ld rfl ag_111) (.u (.ld rfl ag_28) (.m rfl (.oq (.call Tryz.func49 rfl rfl (vs := [_, _, _]) rfl (snode_spec y.wn t (fzNB φ) τ τ.nodes[j] N ho (by omega) hmem (hw.nd _ hmem) (by omega))) ?_))))
   rintro v L' ⟨rfl, rfl⟩
   refine .nt (.sm rfl (.st rfl rfl rfl sz_9 ?_))
   refine .nt (.sr (.u (.ld rfl ag_3) (.q (.add rfl rfl (by omega)) rfl (.st rfl rfl rfl sz_3 ?_))))
   refine .nt (.sr (.an rfl (.ret (.blk_r (.then_r (.then_r (.blk_r (.then_r (.ptCast (b := y.cm) (l' := [vint ((φ.nds ++ [τ.nodes[j]]).length : Nat)]) (by repeat' constructor) (by simp) (.ptCast (b := y.cl) (l' := [vstr (lastP (φ.nds ++ [τ.nodes[j]]))]) (by repeat' constructor) (by rw [lastP_snoc]; rfl) (.wrCast (w := y.wn) (bs' := fzNB ⟨φ.from', φ.nds ++ [τ.nodes[j]], φ.ss, false⟩) (by repeat' constructor) (by unfold fzNB; rw [List.flatMap_append]; simp) (.wrCast (w := y.wr) (bs' := fzRB ⟨φ.from', φ.nds ++ [τ.nodes[j]], φ.ss, false⟩) (by repeat' constructor) (by unfold fzRB; simp [ha]) ?_))))))))))))
   exact .vv
  refine .skip (.blk_n (.then_n (.region (.q (.add rfl rfl (by omega)) rfl (.m rfl (.nt ?_))))))
  exact .rk (j + 1) (⟨by omega, fun i hi hij => by by_cases e : i = j; (subst e; exact h17); exact hno i hi (by omega)⟩) (by omega) ⟨rfl, rfl, rfl, rfl, rfl, rfl, rfl, rfl, trivial⟩
 have hjj : j = τ.nodes.length := by omega
 have he : fzAt τ φ = none := find_last fun i hi => hno i hi (by omega)
 rw [next_no he]
 refine .wrCast (w := y.wr) (bs' := []) (by repeat' constructor) (by unfold fzRB; simp [ha]) ?_
 have hsl := sess_len8 hw.ss (by have := ho.sfew; omega)
 have hsc := sev_len10 (u := τ.sess.length) (by have hu : U64 = 18446744073709551616 := rfl; have := ho.sfew; omega)
 have hsb : (sessB τ.sess).length ≤ 1099600000000 := by unfold sessB cntB; rw [List.length_append]; omega
 refine .exit (.then_e (.then_e (.blk_e (.then_n (.sr (.u (.ld rfl ag_111) (.u (.ld rfl ag_28) (.cv Tryz.func50 [_, _] (ssess_spec y.wr t [] τ N ho hN hw (by rw [List.length_nil]; omega)) ?_))))))))
 refine .nt (.sr (.an rfl (.ret (.wrCast (w := y.wr) (bs' := fzRB ⟨φ.from', φ.nds, φ.ss ++ τ.sess, true⟩) (by repeat' constructor) (by unfold fzRB; rw [hz.none' ha]; rfl) (.wrCast (w := y.wn) (bs' := fzNB ⟨φ.from', φ.nds, φ.ss ++ τ.sess, true⟩) (by repeat' constructor) (by rfl) ?_)))))
 exact .vv
theorem stextc_spec (f t : Nat) (y : FzP) (τ : Tr) (φ : Fz) (N M : Nat) (ho : τ.Ok N) (hN : N ≤ 1048576) (hw : TrW τ) (hz : FzN τ φ M) (hM : M ≤ 1048576) (ha : φ.all = true) : Fn Tryz.prog 51 #[vptr y.cf, vptr y.cm, vptr y.cn, vptr y.cr] [ptc f [vint (φ).from', fzNextV y.ct y.cl y.cn y.cm y.cr, fzTextV y.cf y.cm y.cn y.cr, .bool (φ).all] 110, ptc y.ct [vptr t] 28, ptc y.cf [vptr f] 47, ptc y.cn [vptr y.wn] 111, ptc y.cr [vptr y.wr] 111, ptc y.cm [vint (φ).nds.length] 3, ptc y.cl [vstr (lastP (φ).nds)] 9, wrR y.wn (fzNB (φ)), wrR y.wr (fzRB (φ))] fun v L => v = vstr (textZ φ) ∧ L = [ptc f [vint (φ).from', fzNextV y.ct y.cl y.cn y.cm y.cr, fzTextV y.cf y.cm y.cn y.cr, .bool (φ).all] 110, ptc y.ct [vptr t] 28, ptc y.cf [vptr f] 47, ptc y.cn [vptr y.wn] 111, ptc y.cr [vptr y.wr] 111, ptc y.cm [vint (φ).nds.length] 3, ptc y.cl [vstr (lastP (φ).nds)] 9, wrR y.wn (fzNB (φ)), wrR y.wr (fzRB (φ))] := by
 refine Fn.intro Tryz.func51 rfl rfl fun F W => ?_
 obtain ⟨hr1, hr2⟩ := hz.room hM
 have hmy := hz.many
 have hnl := numB_len8 hz.from'
 have hcl := sev_len10 (u := φ.nds.length) (by have hu : U64 = 18446744073709551616 := rfl; omega)
 have htl : (txtB headB).length ≤ 20 := by have := txtB_len8 (s := headB) (by decide); have h2 := sev_len10 (u := headB.length) (by decide); unfold txtB cntB; rw [List.length_append]; have : headB.length = 4 := rfl; omega
 refine .sr (.an rfl (.sr (.oq (.c Tryz.func47 [] (cnew_spec)) ?_)))
 rintro v L' ⟨w, rfl, rfl⟩
 refine .an rfl (.sm rfl (.cv Tryz.func52 [_, _] (ctext_spec w [] headB (by decide)) ?_))
 refine .nt (.sm rfl (.u (.ld rfl ag_47) (.nf rfl fo_110_0 (.u (.ld rfl ag_3) (.oq (.c Tryz.func53 [_, _] (cnum_spec w _ φ.from' hz.from' ?hb10)) ?_)))))
 case hb10 => rw [List.nil_append]; omega
 rintro v L' ⟨rfl, rfl⟩
 refine .nt (.sm rfl (.u (.ld rfl ag_3) (.oq (.call Tryz.func54 rfl rfl (vs := [_, _]) rfl (ccount_spec w _ φ.nds.length (by omega) ?hb14)) ?_)))
 case hb14 => rw [List.nil_append, List.length_append]; omega
 rintro v L' ⟨rfl, rfl⟩
 refine .nt (.seq (.draw [] [[0, 1, 2, 3, 4, 5, 6, 7, 8]] mixed (by kernel_rfl) (.go [ptc y.cn _ _, ptc y.cr _ _, wrR w _, wrR y.wn _, wrR y.wr _] (by repeat' constructor) (.mv rfl rfl (.m rfl (by kernel_rfl) (.c Tryz.func55 [_] (cbytes_spec _ _)) (by repeat' constructor) ?_)))))
 refine D.kv rfl (.ld rfl ag_111) (.m rfl (by kernel_rfl) (.c Tryz.func55 [_] (cbytes_spec _ _)) (by repeat' constructor) ?_)
 refine D.kv rfl (.concat rfl rfl (by simp only [List.nil_append, List.length_append, cntB]; omega)) (.kv rfl (.ld rfl ag_111) (.m rfl (by kernel_rfl) (.c Tryz.func55 [_] (cbytes_spec _ _)) (by repeat' constructor) ?_))
 refine D.kv rfl (.concat rfl rfl (by simp only [List.nil_append, List.length_append, cntB]; omega)) (.kv rfl (.assign rfl) (.pf (.ret ?_)))
 exact .dn rfl rfl ⟨by rw [← text_all ha]; rfl, rfl⟩
theorem sstep_spec (f t : Nat) (τ : Tr) (φ : Fz) (n : Int) (N M : Nat) (ho : τ.Ok N) (hN : N ≤ 1048576) (hw : TrW τ) (hz : FzN τ φ M) (hM : M ≤ 1048576) (hss : N ≤ M) (hn : n ≤ 9223372036854775807) : Fn Tryz.prog 18 #[vptr f, vint n] [fuzR f t φ, treeR t τ] fun v L => v = .bool (fzStep τ n.toNat φ).all ∧ L = [fuzR f t (fzStep τ n.toNat φ), treeR t τ] := by
 refine Fn.intro Tryz.func18 rfl rfl fun F W => ?_
 refine .sr (.an rfl (.seq (.sr (.an rfl (.block (.loopK (ι := Nat) (fun q E => (5, vint q) :: E) (fun q => [fuzR f t (fzStep τ q φ), treeR t τ]) (fun q => q ≤ n.toNat) (fun q => n.toNat - q) (0) (ts := [0, 1, 4]) (.cons rfl (.cons rfl (.cons rfl (.nil)))) (Nat.zero_le _) ⟨rfl, rfl, rfl, rfl, trivial⟩ (by repeat' constructor) ?_))))))
 rintro k hk
 have hzk := FzN.step hw ho (by have := ho.sfew; omega) k hz
 refine .seq (.sm rfl (.m rfl (.ui rfl rfl rfl (.m rfl (.dec (t := 9) rfl (fun h2_9 => ?_) (fun h2_9 => ?_))))))
 ·refine .kDT (t := 8) rfl h2_9 (.fzOpen (by repeat' constructor) fun y => (.grun (t := 9) rfl rfl rfl (.m rfl (.grun (t := 9) rfl rfl rfl (.u (.nilp rfl) (.grun (t := 9) rfl rfl rfl (.u (.fieldAddr rfl fo_110_3) (.grun (t := 9) rfl rfl rfl (.u (.ld rfl ag_4) (.grun (t := 9) rfl rfl rfl (.u (.not rfl) (.u (.pickT rfl rfl) (.nt (.condB rfl (fun h15 => ?_) (fun h15 => ?_)))))))))))))))
  ·have hal : (fzStep τ k φ).all = false := by simpa using h15
   refine .sk (.seq (.block (.region (.m rfl (.m rfl (.nf rfl fo_110_1 (.u (.ld rfl ag_23) (.oq (.callV Tryz.func48 rfl rfl (us := []) (vs := []) (ws := [_, _, _, _, _]) rfl rfl (snext_spec f t y τ (fzStep τ k φ) N M ho hN hw hzk hM hal)) ?_))))))))
   rintro v L' ⟨rfl, rfl⟩
   refine .nf rfl fo_110_3 (.st rfl rfl rfl sz_4 ?_)
   refine .nil (.blk_n (.then_n (.region (.m rfl (.q (.add rfl rfl (by omega)) rfl (.an rfl (.ptCast (b := f) (l' := [vint (fzNext τ (fzStep τ k φ)).from', fzNextV y.ct y.cl y.cn y.cm y.cr, fzTextV y.cf y.cm y.cn y.cr, .bool (fzNext τ (fzStep τ k φ)).all]) (by repeat' constructor) (by rw [next_from]; rfl) (.fzFold (f := f) (t := t) (fzNext τ (fzStep τ k φ)) y (by repeat' constructor) rfl rfl rfl rfl rfl (.fzCast (φ' := fzStep τ (k + 1) φ) (by repeat' constructor) (by rw [step_succ, if_neg (by rw [hal]; decide)]) ?_)))))))))
   exact .rk (k + 1) (by omega) (by omega) ⟨rfl, rfl, rfl, rfl, trivial⟩
  refine .exit (.then_e (.then_e (.blk_e (.then_n (.sm rfl (.nf rfl fo_110_3 (.u (.ld rfl ag_4) (.an rfl (.ret (.fzFold (f := f) (t := t) ((fzStep τ k φ)) y (by repeat' constructor) rfl rfl rfl rfl rfl ?_))))))))))
  have hal : (fzStep τ k φ).all = true := by simpa using h15
  have hkn : fzStep τ n.toNat φ = (fzStep τ k φ) := by rw [show n.toNat = k + (n.toNat - k) by omega, step_add, step_all _ _ hal]
  rw [hkn]
  exact .vv
 refine .kDF (t := 8) rfl h2_9 (.gk (.gk (.gk (.gk (.gk (.u (.pickF rfl rfl) (.nt (.condF rfl (.exit (.then_e (.then_e (.blk_e (.then_n (.seq (.fzOpen (by repeat' constructor) fun y => (.region (.m rfl (.nf rfl fo_110_3 (.u (.ld rfl ag_4) (.an rfl (.ret (.fzFold (f := f) (t := t) ((fzStep τ k φ)) y (by repeat' constructor) rfl rfl rfl rfl rfl ?_))))))))))))))))))))))
 have hkn : k = n.toNat := by omega
 subst hkn
 exact .vv
theorem stext_spec (f t : Nat) (τ : Tr) (φ : Fz) (N M : Nat) (ho : τ.Ok N) (hN : N ≤ 1048576) (hw : TrW τ) (hz : FzN τ φ M) (hM : M ≤ 1048576) : Fn Tryz.prog 20 #[vptr f] [fuzR f t φ] fun v L => v = vstr (textZ φ) ∧ L = [fuzR f t φ] := by
 refine Fn.intro Tryz.func20 rfl rfl fun F W => ?_
 refine .fzOpen (by repeat' constructor) fun y => (.sr (.an rfl (.seq (.sm rfl (.nf rfl fo_110_3 (.u (.ld rfl ag_4) (.u (.not rfl) (.nt (.condB rfl (fun h7 => ?_) (fun h7 => ?_))))))))))
 ·have ha : φ.all = false := by simpa using h7
  refine .sr (.an rfl (.rt ?_))
  rw [text_no ha]
  refine .fzFold (f := f) (t := t) (φ) y (by repeat' constructor) rfl rfl rfl rfl rfl ?_
  exact .vv
 have ha : φ.all = true := by simpa using h7
 refine .sk (.sm rfl (.nf rfl fo_110_2 (.u (.ld rfl ag_51) (.oq (.callV Tryz.func51 rfl rfl (us := []) (vs := []) (ws := [_, _, _, _]) rfl rfl (stextc_spec f t y τ φ N M ho hN hw hz hM ha)) ?_))))
 rintro v L' ⟨rfl, rfl⟩
 refine .an rfl (.ret (.fzFold (f := f) (t := t) (φ) y (by repeat' constructor) rfl rfl rfl rfl rfl ?_))
 exact .vv
theorem sencode_spec (t : Nat) (τ : Tr) (N : Nat) (ho : τ.Ok N) (hN : N ≤ 1048576) (hw : TrW τ) : Fn Tryz.prog 14 #[vptr t] [treeR t τ] fun v L => v = vstr (encZ τ) ∧ L = [treeR t τ] := by
 refine Fn.intro Tryz.func14 rfl rfl fun F W => ?_
 have hne := path_ne ho
 have hz0 : FzN τ (beginZ τ) N := .begin hw ho.few
 have hfew := ho.few
 refine .sr (.an rfl (.seq (.sm rfl (.q (.as (v' := .bool false) (by rfl) (.ptreq rfl rfl Tryz.underlying28)) rfl (.nt (.condF rfl (.sk (.sm rfl (.oq (.c Tryz.func17 [_] (sbegin_spec t τ)) ?_)))))))))
 rintro v L' ⟨f, rfl, rfl⟩
 refine .an rfl (.seq (.block (.loopK (ι := Nat) (fun q E => E) (fun q => [fuzR f t (fzStep τ q (beginZ τ)), treeR t τ]) (fun q => q ≤ τ.nodes.length) (fun q => τ.nodes.length - q) (0) (ts := [2, 3]) (.cons rfl (.cons rfl (.nil))) (Nat.zero_le _) ⟨rfl, rfl, trivial⟩ (by repeat' constructor) ?_)))
 rintro k hk
 have hzk := FzN.step hw ho (by have := ho.sfew; omega) k hz0
 refine .seq (.sm rfl (.oq (.call Tryz.func18 rfl rfl (vs := [_, _]) rfl (sstep_spec f t τ (fzStep τ k (beginZ τ)) 1 N N ho hN hw hzk hN (Nat.le_refl _) (by decide))) ?_))
 rintro v L' ⟨rfl, rfl⟩; rw [show (1 : Int).toNat = 1 from rfl, ← step_add]
 refine .u (.not rfl) (.nt (.condB rfl (fun h10 => ?_) (fun h10 => ?_)))
 ·have hal : (fzStep τ (k + 1) (beginZ τ)).all = false := by simpa using h10
  have hk2 : k + 1 ≤ τ.nodes.length := by rcases Nat.lt_or_ge τ.nodes.length (k + 1) with g | g; (rw [still_end ho hne g] at hal; cases hal); exact g
  refine .sk (.block (.skip (.blk_n (.then_n ?_))))
  exact .rk (k + 1) (by omega) (by omega) ⟨rfl, rfl, trivial⟩
 have hal : (fzStep τ (k + 1) (beginZ τ)).all = true := by simpa using h10
 have hk2 : τ.nodes.length < k + 1 := by rcases Nat.lt_or_ge τ.nodes.length (k + 1) with g | g; exact g; (rw [still_at ho hne _ g] at hal; cases hal)
 refine .exit (.then_e (.then_e (.blk_e (.then_n (.sm rfl (.cv Tryz.func20 [_] (stext_spec f t τ (fzStep τ (k + 1) (beginZ τ)) N N ho hN hw (FzN.step hw ho (by have := ho.sfew; omega) (k + 1) hz0) hN) ?_))))))
 refine .an rfl (.ret ?_)
 exact .dn rfl rfl ⟨by rw [still_text ho hne hk2], rfl⟩
/-! ### Paths -/
theorem lt_pre (p : Bs) {r : Bs} (h : r ≠ []) : p < p ++ r := by
 have : p ++ [] < p ++ r ↔ [] < r := lt_cut p
 rw [List.append_nil] at this
 refine this.2 ?_
 cases r with
 | nil => exact absurd rfl h
 | cons a r => exact List.nil_lt_cons _ _
theorem under_pre {q p : Bs} (h : underZ q p) : ∃ d, d ≠ [] ∧ q = kidZ p [] ++ d := by
 obtain ⟨h1, h2⟩ := h
 unfold pfx at h1
 have e : q = kidZ p [] ++ q.drop (kidZ p []).length := by
  conv => lhs; rw [← List.take_append_drop (kidZ p []).length q, h1]
 refine ⟨q.drop (kidZ p []).length, fun g => h2 ?_, e⟩
 rw [e, g, List.append_nil]
theorem hit_under {q p d : Bs} (hd : d ≠ []) (e : q = kidZ p [] ++ d) : hitT q p = true := by
 have : underZ q p := by
  subst e
  refine ⟨by unfold pfx; rw [List.take_left], fun g => hd ?_⟩
  have := congrArg List.length g
  rw [List.length_append] at this
  exact List.eq_nil_of_length_eq_zero (by omega)
 unfold hitT
 rw [decide_eq_true this, Bool.or_true]
theorem kid_root (n : Bs) : kidZ [47] n = 47 :: n := by unfold kidZ; rw [if_pos rfl]; rfl
theorem kid_else {p : Bs} (h : p ≠ [47]) (n : Bs) : kidZ p n = p ++ 47 :: n := by unfold kidZ; rw [if_neg h, List.append_assoc]; rfl
theorem hit_pre {q p : Bs} (h : hitT q p = true) : ∃ r, q = p ++ r := by
 unfold hitT at h
 rw [Bool.or_eq_true, decide_eq_true_iff, decide_eq_true_iff] at h
 rcases h with rfl | h
 ·exact ⟨[], (List.append_nil _).symm⟩
 ·obtain ⟨d, -, rfl⟩ := under_pre h
  by_cases e : p = [47]
  ·subst e; exact ⟨d, by rw [kid_root]⟩
  ·exact ⟨47 :: d, by rw [kid_else e, List.append_assoc]; rfl⟩
theorem base_ne {q : Bs} (h : ableZ q) : baseZ q ≠ [] := by
 obtain ⟨-, -, -, h⟩ := able_cut h
 intro e
 rw [e] at h; revert h; decide
theorem kid_parent {q : Bs} (h : ableZ q) : q = kidZ (parentZ q) (baseZ q) := by
 obtain ⟨h0, h1, h2, -⟩ := able_cut h
 rw [able_parent h]
 by_cases e : preZ q = []
 ·rw [if_pos e, kid_root]; rw [e] at h2; exact h2
 ·rw [if_neg e, kid_else h1]; exact h2
theorem parent_pre {q : Bs} (h : ableZ q) : ∃ r, r ≠ [] ∧ q = parentZ q ++ r := by
 have h1 := kid_parent h
 by_cases e : parentZ q = [47]
 ·rw [e, kid_root] at h1
  exact ⟨baseZ q, base_ne h, by rw [e]; exact h1⟩
 ·rw [kid_else e] at h1
  exact ⟨47 :: baseZ q, by simp, h1⟩
theorem parent_lt {q : Bs} (h : ableZ q) : parentZ q < q := by
 obtain ⟨r, h1, h2⟩ := parent_pre h
 have := lt_pre (parentZ q) h1
 rw [← h2] at this; exact this
theorem hit_le {q p : Bs} (h : hitT q p = true) : ¬ q < p := by
 obtain ⟨r, rfl⟩ := hit_pre h
 intro g
 by_cases e : r = []
 ·subst e; rw [List.append_nil] at g; exact linB.irr _ g
 ·exact linB.irr _ (linB.tr _ _ _ g (lt_pre p e))
theorem under_root {q : Bs} (h : ableZ q) : hitT q [47] = true := by
 have h1 := kid_parent h
 have : ∃ d, d ≠ [] ∧ q = 47 :: d := by
  by_cases e : parentZ q = [47]
  ·rw [e, kid_root] at h1; exact ⟨_, base_ne h, h1⟩
  ·obtain ⟨-, -, h2, -⟩ := able_cut h
   have ha := able_parent h
   by_cases e2 : preZ q = []
   ·rw [if_pos e2] at ha; exact absurd ha e
   ·rw [if_neg e2] at ha
    obtain ⟨hs, hl⟩ := h
    unfold checkZ at hl
    rw [if_neg hs] at hl
    have hh : (splitZ q).head? = some [] := by
     apply Decidable.byContradiction
     intro g; rw [if_pos (.inl g)] at hl; cases hl
    cases q with
    | nil => exact absurd h2 (by simp)
    | cons c r =>
     rw [split_cons] at hh
     by_cases hc : c = 47
     ·refine ⟨r, fun e3 => hs (by rw [hc, e3]), by rw [hc]⟩
     ·rw [if_neg hc] at hh
      split at hh <;> simp at hh
 obtain ⟨d, hd, e⟩ := this
 exact hit_under hd (by rw [kid_root]; exact e)
theorem hit_parent {q p : Bs} (hq : ableZ q) (hp : p ≠ [47]) (h : hitT (parentZ q) p = true) : hitT q p = true := by
 obtain ⟨r, hr, e⟩ := parent_pre hq
 have key : ∃ d, d ≠ [] ∧ q = kidZ p [] ++ d := by
  unfold hitT at h
  rw [Bool.or_eq_true, decide_eq_true_iff, decide_eq_true_iff] at h
  rcases h with h | h
  ·have h1 := kid_parent hq
   rw [h, kid_else hp] at h1
   refine ⟨baseZ q, base_ne hq, ?_⟩
   rw [kid_else hp, List.append_assoc]; exact h1
  ·obtain ⟨d, hd, h2⟩ := under_pre h
   refine ⟨d ++ r, by simp [hd], ?_⟩
   rw [← List.append_assoc, ← h2]; exact e
 obtain ⟨d, hd, e2⟩ := key
 exact hit_under hd e2
/-! ### What a part does, path by path -/
theorem create_at {τ : Tr} {y : Pt} {zx : Int} (h1 : y.kind = 1) (ha : ableZ y.path) (hu : thereT τ (parentZ y.path)) (q : Bs) : alook (partZ τ y zx).1.nodes q = (if q = parentZ y.path then (if q = y.path then some (newN y zx) else alook τ.nodes q).map (kidN y.num zx) else if q = y.path then some (newN y zx) else alook τ.nodes q) := by
 unfold partZ createZ
 rw [if_pos h1, if_pos ⟨ha, hu⟩]
 show alook (amod (sset _ _ _) _ _) q = _
 rw [al_amod, al_sset]
theorem erase_at {τ : Tr} {y : Pt} {zx : Int} (h2 : y.kind = 2) (ha : ableZ y.path) (q : Bs) : alook (partZ τ y zx).1.nodes q = (if q = parentZ y.path then (if hitT q y.path = true then none else alook τ.nodes q).map (kidN y.num zx) else if hitT q y.path = true then none else alook τ.nodes q) := by
 unfold partZ eraseZ
 rw [if_neg (by omega), if_pos h2, if_pos ha]
 show alook (amod (τ.nodes.filter _) _ _) q = _
 rw [al_amod, al_filter (fun k => !hitT k y.path)]
 cases hitT q y.path <;> simp
theorem set_at {τ : Tr} {y : Pt} {zx : Int} (h3 : y.kind = 3) (ht : thereT τ y.path) (q : Bs) : alook (partZ τ y zx).1.nodes q = if q = y.path then (alook τ.nodes q).map (setN y.data y.num zx) else alook τ.nodes q := by
 unfold partZ
 rw [if_neg (by omega), if_neg (by omega), if_pos ⟨h3, ht⟩]
 show alook (amod _ _ _) q = _
 rw [al_amod]
theorem acl_at {τ : Tr} {y : Pt} {zx : Int} (h4 : y.kind = 4) (ht : thereT τ y.path) (q : Bs) : alook (partZ τ y zx).1.nodes q = if q = y.path then (alook τ.nodes q).map (aclN y.acl y.num) else alook τ.nodes q := by
 unfold partZ
 rw [if_neg (by omega), if_neg (by omega), if_neg (by rintro ⟨g, -⟩; omega), if_pos ⟨h4, ht⟩]
 show alook (amod _ _ _) q = _
 rw [al_amod]
/-! ### What an entry may be -/
def wldZ : Bs := [119, 111, 114, 108, 100]
def wld (l : List Ac) : Prop := l = [] ∨ ∃ q : Int, 1 ≤ q ∧ q ≤ 31 ∧ l = [(q, wldZ)]
theorem wld_len {l : List Ac} (h : wld l) : l.length ≤ 1 := by
 rcases h with rfl | ⟨q, -, -, rfl⟩ <;> simp
structure PartH (τ : Tr) (y : Pt) (K : Int) : Prop where
 kind : 0 ≤ y.kind ∧ y.kind ≤ 4
 path : y.path.length ≤ 62
 data : y.data.length ≤ 100
 acl : wld y.acl
 own : y.own = 0 ∨ ∃ s, alook τ.sess y.own = some s
 num : 0 ≤ y.num ∧ y.num ≤ K + 1
 err : y.err = 0
 room : y.kind = 1 → τ.nodes.length < 60
theorem PartH.more {τ : Tr} {y : Pt} {K M : Int} (h : PartH τ y K) (hm : K ≤ M) : PartH τ y M := { h with num := ⟨h.num.1, by have := h.num.2; omega⟩ }
def PartsH (τ : Tr) (zx : Int) (subs : List Pt) (K : Int) : Prop := ∀ i (hi : i < subs.length), PartH (partsZ τ zx (subs.take i)).1 subs[i] (K + i)
structure CloseH (τ : Tr) (x : Pt) (subs : List Pt) : Prop where
 own : 1 ≤ x.own ∧ x.own ≤ 5
 paths : subs.map (·.path) = (ownedZ τ x.own).reverse
 kinds : ∀ y ∈ subs, y.kind = 2
inductive ShapeH (τ : Tr) (zx : Int) (x : Pt) (subs : List Pt) (K : Int) : Prop
 | part (hs : subs = []) (h : PartH τ x K)
 | opens (hk : x.kind = 5) (hs : subs = []) (ho : 1 ≤ x.own ∧ x.own ≤ 5) (hn : 4 ≤ x.num ∧ x.num ≤ 53) (hd : x.data.length ≤ 100) (ha : x.acl = []) (hp : x.path = [])
 | close (hk : x.kind = 6) (h : CloseH τ x subs) (hp : PartsH τ zx subs K) (ha : x.acl = []) (hd : x.data = []) (hl : subs.length ≤ 60) (hp : x.path = [])
 | multi (hk : x.kind = 7) (h : PartsH τ zx subs K) (ha : x.acl = []) (hd : x.data = []) (hl : subs.length ≤ 6) (hp : x.path = [])
 | error (hk : x.kind = 8) (hs : subs = []) (he : 0 ≤ x.err ∧ x.err < 99) (hn : x.num = -1) (ha : x.acl = []) (hd : x.data = []) (hp : x.path = [])
def TxC (x : Pt) (subs : List Pt) : Prop := isCell x.aclV = true ∧ isCell x.subsV = true ∧ ∀ y ∈ subs, isCell y.aclV = true ∧ isCell y.subsV = true
structure EntH (τ : Tr) (e : En) (K : Int) : Prop where
 sound : soundZ τ e.zx e.x e.subs = true
 shape : ShapeH τ e.zx e.x e.subs K
 ses : 0 ≤ e.ses ∧ e.ses < 9
 cells : TxC e.x e.subs
/-! ### What is so in a sound history -/
structure HInv (τ : Tr) (K : Int) : Prop where
 ok : τ.Ok 60
 root : ∃ n, alook τ.nodes [47] = some n ∧ n.st.own = 0
 closed : ∀ q, thereT τ q → q ≠ [47] → thereT τ (parentZ q)
 ver : ∀ q n, alook τ.nodes q = some n → (0 ≤ n.st.ver ∧ n.st.ver ≤ K) ∧ (0 ≤ n.st.cver ∧ n.st.cver ≤ K) ∧ (0 ≤ n.st.av ∧ n.st.av ≤ K)
 own : ∀ q n, alook τ.nodes q = some n → n.st.own = 0 ∨ ∃ s, alook τ.sess n.st.own = some s
 ids : ∀ i s, alook τ.sess i = some s → 1 ≤ i ∧ i ≤ 5
 data : ∀ q n, alook τ.nodes q = some n → n.data.length ≤ 100
 acl : ∀ q n, alook τ.nodes q = some n → wld n.acl
 bare : ∀ q n, alook τ.nodes q = some n → n.st.len = 0 ∧ n.st.kids = 0
 zx0 : 0 ≤ K
theorem HInv.able {τ : Tr} {K : Int} (h : HInv τ K) {q : Bs} (ht : thereT τ q) (hq : q ≠ [47]) : ableZ q := by
 unfold thereT at ht
 obtain ⟨n, hn⟩ := Option.isSome_iff_exists.1 ht
 exact (h.ok.able _ (al_mem hn)).resolve_left hq
theorem HInv.rootT {τ : Tr} {K : Int} (h : HInv τ K) : thereT τ [47] := by
 obtain ⟨n, hn, -⟩ := h.root
 unfold thereT; rw [hn]; rfl
theorem HInv.pos {τ : Tr} {K : Int} (h : HInv τ K) : 0 < τ.nodes.length := by
 obtain ⟨n, hn, -⟩ := h.root
 exact List.length_pos_of_mem (al_mem hn)
theorem HInv.more {τ : Tr} {K M : Int} (h : HInv τ K) (hm : K ≤ M) : HInv τ M :=
 { h with ver := fun q n hn => by have := h.ver q n hn; omega, zx0 := by have := h.zx0; omega }
theorem HInv.zx {τ : Tr} {K : Int} (h : HInv τ K) (z : Int) : HInv (zxT τ z) K := ⟨h.ok.zx z, h.root, h.closed, h.ver, h.own, h.ids, h.data, h.acl, h.bare, h.zx0⟩
theorem HInv.new : HInv newT 0 := by
 have key : ∀ q n, alook newT.nodes q = some n → q = [47] ∧ n = ⟨[], [(31, wldZ)], st0⟩ := by
  intro q n h
  have := al_mem h
  simp only [newT, List.mem_singleton, Prod.mk.injEq] at this
  exact this
 refine ⟨newT_ok.more (by decide), ⟨_, rfl, rfl⟩, fun q hq hne => ?_, fun q n h => ?_, fun q n h => ?_, fun i s h => ?_, fun q n h => ?_, fun q n h => ?_, fun q n h => ?_, Int.le_refl _⟩
 ·unfold thereT at hq
  obtain ⟨n, hn⟩ := Option.isSome_iff_exists.1 hq
  exact absurd (key q n hn).1 hne
 ·obtain ⟨-, rfl⟩ := key q n h; decide
 ·obtain ⟨-, rfl⟩ := key q n h; exact .inl rfl
 ·cases h
 ·obtain ⟨-, rfl⟩ := key q n h; decide
 ·obtain ⟨-, rfl⟩ := key q n h; exact .inr ⟨31, by decide, by decide, rfl⟩
 ·obtain ⟨-, rfl⟩ := key q n h; decide
theorem map_some {α β : Type} {f : α → β} {o : Option α} {b : β} (h : o.map f = some b) : ∃ a, o = some a ∧ b = f a := by
 cases o with
 | none => cases h
 | some a => exact ⟨a, rfl, by simpa using h.symm⟩
theorem there_some {τ : Tr} {p : Bs} : thereT τ p ↔ ∃ n, alook τ.nodes p = some n := Option.isSome_iff_exists
theorem HInv.part {τ : Tr} {K : Int} (h : HInv τ K) {y : Pt} {zx : Int} (hs : findsZ τ y = true) (hp : PartH τ y K) : HInv (partZ τ y zx).1 (K + 1) := by
 have hacl := wld_len hp.acl
 have hses := part_sess τ y zx
 -- what a node may become
 suffices hn : (∀ q n, alook (partZ τ y zx).1.nodes q = some n → (∃ n0, (alook τ.nodes q = some n0 ∨ (n0 = newN y zx ∧ q = y.path ∧ y.kind = 1)) ∧ (n = n0 ∨ n = kidN y.num zx n0 ∨ n = setN y.data y.num zx n0 ∨ n = aclN y.acl y.num n0))) ∧ thereT (partZ τ y zx).1 [47] ∧ (∀ q, thereT (partZ τ y zx).1 q → q ≠ [47] → thereT (partZ τ y zx).1 (parentZ q)) ∧ (partZ τ y zx).1.nodes.length ≤ 60 ∧ ¬ y.kind = 1 ∨ y.kind = 1 ∧ (∀ q n, alook (partZ τ y zx).1.nodes q = some n → (∃ n0, (alook τ.nodes q = some n0 ∨ (n0 = newN y zx ∧ q = y.path ∧ y.kind = 1)) ∧ (n = n0 ∨ n = kidN y.num zx n0 ∨ n = setN y.data y.num zx n0 ∨ n = aclN y.acl y.num n0))) ∧ thereT (partZ τ y zx).1 [47] ∧ (∀ q, thereT (partZ τ y zx).1 q → q ≠ [47] → thereT (partZ τ y zx).1 (parentZ q)) ∧ y.path ≠ [47] by
  have hok := h.ok.part y zx (by omega)
  have key : (∀ q n, alook (partZ τ y zx).1.nodes q = some n → (∃ n0, (alook τ.nodes q = some n0 ∨ (n0 = newN y zx ∧ q = y.path ∧ y.kind = 1)) ∧ (n = n0 ∨ n = kidN y.num zx n0 ∨ n = setN y.data y.num zx n0 ∨ n = aclN y.acl y.num n0))) ∧ thereT (partZ τ y zx).1 [47] ∧ (∀ q, thereT (partZ τ y zx).1 q → q ≠ [47] → thereT (partZ τ y zx).1 (parentZ q)) ∧ (partZ τ y zx).1.nodes.length ≤ 60 ∧ (y.kind = 1 → y.path ≠ [47]) := by
   rcases hn with ⟨h1, h2, h3, h4, h5⟩ | ⟨h0, h1, h2, h3, h5⟩
   ·exact ⟨h1, h2, h3, h4, fun g => absurd g h5⟩
   ·refine ⟨h1, h2, h3, ?_, fun _ => h5⟩
    have hr := hp.room h0
    unfold partZ createZ
    rw [if_pos h0]
    split
    ·show (amod (sset _ _ _) _ _).length ≤ 60
     rw [amod_len]
     have := (sset_len τ.nodes y.path (newN y zx)).1
     omega
    ·show τ.nodes.length ≤ 60
     omega
  obtain ⟨g1, g2, g3, g4, g5⟩ := key
  have hv : ∀ q n, alook (partZ τ y zx).1.nodes q = some n → ((0 ≤ n.st.ver ∧ n.st.ver ≤ K + 1) ∧ (0 ≤ n.st.cver ∧ n.st.cver ≤ K + 1) ∧ (0 ≤ n.st.av ∧ n.st.av ≤ K + 1)) ∧ (n.st.own = 0 ∨ ∃ s, alook (partZ τ y zx).1.sess n.st.own = some s) ∧ n.data.length ≤ 100 ∧ wld n.acl ∧ n.st.len = 0 ∧ n.st.kids = 0 := by
   intro q n hq
   obtain ⟨n0, g, e⟩ := g1 q n hq
   have hk := h.zx0
   obtain ⟨p1, p2⟩ := hp.num
   rw [hses]
   have base : ((0 ≤ n0.st.ver ∧ n0.st.ver ≤ K + 1) ∧ (0 ≤ n0.st.cver ∧ n0.st.cver ≤ K + 1) ∧ (0 ≤ n0.st.av ∧ n0.st.av ≤ K + 1)) ∧ (n0.st.own = 0 ∨ ∃ s, alook τ.sess n0.st.own = some s) ∧ n0.data.length ≤ 100 ∧ wld n0.acl ∧ n0.st.len = 0 ∧ n0.st.kids = 0 := by
    rcases g with g | ⟨rfl, -, -⟩
    ·have := h.ver q n0 g
     exact ⟨by omega, h.own q n0 g, h.data q n0 g, h.acl q n0 g, h.bare q n0 g⟩
    ·refine ⟨?_, hp.own, hp.data, hp.acl, rfl, rfl⟩
     show ((0 : Int) ≤ 0 ∧ (0 : Int) ≤ K + 1) ∧ ((0 : Int) ≤ 0 ∧ (0 : Int) ≤ K + 1) ∧ ((0 : Int) ≤ 0 ∧ (0 : Int) ≤ K + 1)
     omega
   obtain ⟨b1, b2, b3, b4, b5⟩ := base
   rcases e with rfl | rfl | rfl | rfl
   ·exact ⟨b1, b2, b3, b4, b5⟩
   ·exact ⟨⟨b1.1, ⟨p1, p2⟩, b1.2.2⟩, b2, b3, b4, b5⟩
   ·exact ⟨⟨⟨p1, p2⟩, b1.2.1, b1.2.2⟩, b2, hp.data, b4, b5⟩
   ·exact ⟨⟨b1.1, b1.2.1, ⟨p1, p2⟩⟩, b2, b3, hp.acl, b5⟩
  refine ⟨⟨hok.sorted, hok.ssorted, g4, hok.able, hok.ids, hok.acls, ?_⟩, ?_, g3, fun q n hq => (hv q n hq).1, fun q n hq => (hv q n hq).2.1, ?_, fun q n hq => (hv q n hq).2.2.1, fun q n hq => (hv q n hq).2.2.2.1, fun q n hq => (hv q n hq).2.2.2.2, by have := h.zx0; omega⟩
  ·rw [hses]; exact h.ok.sfew
  ·obtain ⟨n, hn⟩ := there_some.1 g2
   refine ⟨n, hn, ?_⟩
   obtain ⟨r, hr, hr0⟩ := h.root
   obtain ⟨n0, g, e⟩ := g1 _ _ hn
   have : n0.st.own = 0 := by
    rcases g with g | ⟨-, g, g'⟩
    ·rw [hr] at g; cases g; exact hr0
    ·exact absurd g.symm (g5 g')
   rcases e with rfl | rfl | rfl | rfl <;> exact this
  ·rw [hses]; exact h.ids
 unfold findsZ at hs
 split at hs
 ·rename_i h1
  obtain ⟨ha, hnt, hu⟩ := of_decide_eq_true hs
  refine .inr ⟨h1, fun q n hq => ?_, ?_, fun q hq hne => ?_, ha.1⟩
  ·rw [create_at h1 ha hu] at hq
   by_cases e1 : q = parentZ y.path
   ·rw [if_pos e1] at hq
    obtain ⟨n0, g, rfl⟩ := map_some hq
    by_cases e2 : q = y.path
    ·rw [if_pos e2] at g; cases g
     exact ⟨_, .inr ⟨rfl, e2, h1⟩, .inr (.inl rfl)⟩
    ·rw [if_neg e2] at g
     exact ⟨_, .inl g, .inr (.inl rfl)⟩
   ·rw [if_neg e1] at hq
    by_cases e2 : q = y.path
    ·rw [if_pos e2] at hq; cases hq
     exact ⟨_, .inr ⟨rfl, e2, h1⟩, .inl rfl⟩
    ·rw [if_neg e2] at hq
     exact ⟨_, .inl hq, .inl rfl⟩
  ·have := h.rootT
   unfold thereT at this ⊢
   rw [create_at h1 ha hu]
   rw [if_neg (show ¬ [47] = y.path from fun e => ha.1 e.symm)]
   split
   ·rw [Option.isSome_map]; exact this
   ·exact this
  ·have hth : ∀ r, thereT (partZ τ y zx).1 r ↔ r = y.path ∨ thereT τ r := by
    intro r
    unfold thereT
    rw [create_at h1 ha hu]
    by_cases e2 : r = y.path
    ·rw [if_pos e2]; split <;> simp [e2]
    ·rw [if_neg e2]; split <;> simp [e2]
   rw [hth] at hq ⊢
   right
   rcases hq with rfl | hq
   ·exact hu
   ·exact h.closed q hq hne
 ·rename_i h1
  split at hs
  ·rename_i h2
   obtain ⟨hr, ht, hk⟩ := of_decide_eq_true hs
   have ha := h.able ht hr
   have hth : ∀ r, thereT (partZ τ y zx).1 r ↔ thereT τ r ∧ hitT r y.path = false := by
    intro r
    unfold thereT
    rw [erase_at h2 ha]
    cases e : hitT r y.path <;> split <;> simp
   refine .inl ⟨fun q n hq => ?_, ?_, fun q hq hne => ?_, ?_, h1⟩
   ·rw [erase_at h2 ha] at hq
    by_cases e1 : q = parentZ y.path
    ·rw [if_pos e1] at hq
     obtain ⟨n0, g, rfl⟩ := map_some hq
     split at g
     ·cases g
     ·exact ⟨_, .inl g, .inr (.inl rfl)⟩
    ·rw [if_neg e1] at hq
     split at hq
     ·cases hq
     ·exact ⟨_, .inl hq, .inl rfl⟩
   ·rw [hth]
    refine ⟨h.rootT, ?_⟩
    cases e : hitT [47] y.path with
    | false => rfl
    | true =>
     obtain ⟨r, e2⟩ := hit_pre e
     have := congrArg List.length e2
     simp at this
     cases hy : y.path with
     | nil => exact absurd (h.able ht hr) (by rw [hy]; decide)
     | cons c r2 =>
      rw [hy] at e2
      simp at e2
      exact absurd (by rw [hy, ← e2.1, e2.2.1]) hr
   ·rw [hth] at hq ⊢
    refine ⟨h.closed q hq.1 hne, ?_⟩
    cases e : hitT (parentZ q) y.path with
    | false => rfl
    | true => rw [hit_parent (h.able hq.1 hne) hr e] at hq; exact absurd hq.2 (by decide)
   ·unfold partZ eraseZ
    rw [if_neg h1, if_pos h2, if_pos ha]
    show (amod (cutT τ y.path).nodes _ _).length ≤ 60
    rw [amod_len]
    exact Nat.le_trans (cut_len τ y.path) h.ok.few
  ·rename_i h2
   split at hs
   ·rename_i h3
    have ht := of_decide_eq_true hs
    have hth : ∀ r, thereT (partZ τ y zx).1 r ↔ thereT τ r := by
     intro r
     unfold thereT
     rcases h3 with h3 | h4
     ·rw [set_at h3 ht]; split <;> simp
     ·rw [acl_at h4 ht]; split <;> simp
    refine .inl ⟨fun q n hq => ?_, (hth _).2 h.rootT, fun q hq hne => (hth _).2 (h.closed q ((hth q).1 hq) hne), ?_, h1⟩
    ·rcases h3 with h3 | h4
     ·rw [set_at h3 ht] at hq
      split at hq
      ·obtain ⟨n0, g, rfl⟩ := map_some hq
       exact ⟨_, .inl g, .inr (.inr (.inl rfl))⟩
      ·exact ⟨_, .inl hq, .inl rfl⟩
     ·rw [acl_at h4 ht] at hq
      split at hq
      ·obtain ⟨n0, g, rfl⟩ := map_some hq
       exact ⟨_, .inl g, .inr (.inr (.inr rfl))⟩
      ·exact ⟨_, .inl hq, .inl rfl⟩
    ·unfold partZ
     rw [if_neg h1, if_neg h2]
     have := h.ok.few
     split
     ·show (amod _ _ _).length ≤ 60
      rw [amod_len]; exact this
     ·split
      ·show (amod _ _ _).length ≤ 60
       rw [amod_len]; exact this
      ·exact this
   ·cases hs
/-! ### Parts, one by one -/
theorem snocInd {α : Type} {P : List α → Prop} (h0 : P []) (h1 : ∀ l x, P l → P (l ++ [x])) (l : List α) : P l := by
 have : ∀ m : List α, P m.reverse := by
  intro m
  induction m with
  | nil => exact h0
  | cons x m ih => rw [List.reverse_cons]; exact h1 _ _ ih
 have := this l.reverse
 rwa [List.reverse_reverse] at this
theorem parts_at {τ : Tr} {zx : Int} {subs : List Pt} {i : Nat} (hi : i < subs.length) : (partsZ τ zx (subs.take (i + 1))).1 = (partZ (partsZ τ zx (subs.take i)).1 subs[i] zx).1 := by
 rw [List.take_succ_eq_append_getElem hi, parts_snoc]
theorem soundL_at {τ : Tr} {zx : Int} {cl : Bool} {subs : List Pt} (hs : soundL τ zx cl subs = true) : ∀ i, i ≤ subs.length → soundL (partsZ τ zx (subs.take i)).1 zx cl (subs.drop i) = true := by
 intro i
 induction i with
 | zero => intro _; rw [List.take_zero]; exact hs
 | succ i ih =>
  intro hi
  have := ih (by omega)
  rw [sound_step (by omega)] at this
  simp only [Bool.and_eq_true] at this
  exact this.2
theorem soundL_finds {τ : Tr} {zx : Int} {cl : Bool} {subs : List Pt} (hs : soundL τ zx cl subs = true) {i : Nat} (hi : i < subs.length) : findsZ (partsZ τ zx (subs.take i)).1 subs[i] = true := by
 have := soundL_at hs i (by omega)
 rw [sound_step hi] at this
 simp only [Bool.and_eq_true] at this
 exact this.1.1
theorem HInv.parts {τ : Tr} {K : Int} (h : HInv τ K) {zx : Int} {cl : Bool} {subs : List Pt} (hs : soundL τ zx cl subs = true) (hp : PartsH τ zx subs K) : ∀ i, i ≤ subs.length → HInv (partsZ τ zx (subs.take i)).1 (K + i) := by
 intro i
 induction i with
 | zero => intro _; rw [List.take_zero]; exact h.more (by omega)
 | succ i ih =>
  intro hi
  rw [parts_at (by omega)]
  exact ((ih (by omega)).part (soundL_finds hs (by omega)) (hp i (by omega))).more (by omega)
theorem parts_sess (τ : Tr) (zx : Int) (l : List Pt) : (partsZ τ zx l).1.sess = τ.sess := by
 induction l using snocInd with
 | h0 => rfl
 | h1 l x ih => rw [parts_snoc]; dsimp only; rw [part_sess, ih]
theorem HInv.sfew {l : List (Int × (Int × Bs))} (hs : SortedK l) (h : ∀ i s, alook l i = some s → 1 ≤ i ∧ i ≤ 5) : l.length ≤ 5 := by
 have hn := hs.nodup linI
 have := nodup_len (l := l.map (·.1)) (m := [1, 2, 3, 4, 5]) hn fun x hx => by
  have h1 := al_isSome.2 hx
  obtain ⟨s, e⟩ := Option.isSome_iff_exists.1 h1
  have := h x s e
  have : x = 1 ∨ x = 2 ∨ x = 3 ∨ x = 4 ∨ x = 5 := by omega
  simpa using this
 simpa using this
theorem HInv.opens {τ : Tr} {K : Int} (h : HInv τ K) {id n : Int} {s : Bs} (hi : 1 ≤ id ∧ id ≤ 5) : HInv (openS τ id n s) K := by
 have hl : ∀ i, alook (openS τ id n s).sess i = if i = id then some (n, s) else alook τ.sess i := fun i => al_sset τ.sess id i (n, s)
 have hids : ∀ i r, alook (openS τ id n s).sess i = some r → 1 ≤ i ∧ i ≤ 5 := by
  intro i r hr
  rw [hl] at hr
  split at hr
  ·rename_i e; rw [e]; exact hi
  ·exact h.ids i r hr
 have hk := h.ok.openS (id := id) (by omega) n s
 refine ⟨⟨hk.sorted, hk.ssorted, h.ok.few, hk.able, hk.ids, hk.acls, by have := HInv.sfew hk.ssorted hids; omega⟩, h.root, h.closed, h.ver, fun q m hq => ?_, hids, h.data, h.acl, h.bare, h.zx0⟩
 rcases h.own q m hq with e | ⟨r, e⟩
 ·exact .inl e
 ·right; rw [hl]
  split
  ·exact ⟨_, rfl⟩
  ·exact ⟨r, e⟩
theorem dels_left {τ : Tr} {zx : Int} {subs : List Pt} (hk : ∀ y ∈ subs, y.kind = 2) : ∀ i, i ≤ subs.length → (∀ j (hj : j < subs.length), j < i → ableZ subs[j].path) → ∀ q n, alook (partsZ τ zx (subs.take i)).1.nodes q = some n → (∃ n0, alook τ.nodes q = some n0 ∧ n0.st.own = n.st.own) ∧ ∀ j (hj : j < subs.length), j < i → hitT q subs[j].path = false := by
 intro i
 induction i with
 | zero => intro _ _ q n hq; exact ⟨⟨n, by rw [List.take_zero] at hq; exact hq, rfl⟩, fun j _ hj => by omega⟩
 | succ i ih =>
  intro hi ha q n hq
  have hi2 : i < subs.length := by omega
  rw [parts_at hi2, erase_at (hk _ (List.getElem_mem hi2)) (ha i hi2 (by omega))] at hq
  have key : ∃ n0, alook (partsZ τ zx (subs.take i)).1.nodes q = some n0 ∧ n0.st.own = n.st.own ∧ hitT q subs[i].path = false := by
   split at hq
   ·obtain ⟨n0, g, rfl⟩ := map_some hq
    split at g
    ·cases g
    ·rename_i e; exact ⟨n0, g, rfl, by simpa using e⟩
   ·split at hq
    ·cases hq
    ·rename_i e; exact ⟨n, hq, rfl, by simpa using e⟩
  obtain ⟨n0, g1, g2, g3⟩ := key
  obtain ⟨⟨n1, k1, k2⟩, k3⟩ := ih (by omega) (fun j hj hji => ha j hj (by omega)) q n0 g1
  refine ⟨⟨n1, k1, k2.trans g2⟩, fun j hj hji => ?_⟩
  by_cases e : j = i
  ·subst e; exact g3
  ·exact k3 j hj (by omega)
theorem hit_self (q : Bs) : hitT q q = true := by unfold hitT; simp
theorem owned_mem {τ : Tr} {s : Int} {q : Bs} (hn : (τ.nodes.map (·.1)).Nodup) : q ∈ ownedZ τ s ↔ s ≠ 0 ∧ ∃ n, alook τ.nodes q = some n ∧ n.st.own = s := by
 unfold ownedZ
 rw [List.mem_map]
 constructor
 ·rintro ⟨⟨q', n⟩, hm, rfl⟩
  obtain ⟨h1, h2⟩ := List.mem_filter.1 hm
  simp at h2
  exact ⟨h2.1, n, al_of_mem hn h1, h2.2⟩
 ·rintro ⟨h0, n, h1, h2⟩
  exact ⟨(q, n), List.mem_filter.2 ⟨al_mem h1, by simp [h0, h2]⟩, rfl⟩
theorem finds_del {τ : Tr} {K : Int} (h : HInv τ K) {y : Pt} (hs : findsZ τ y = true) (hk : y.kind = 2) : ableZ y.path := by
 unfold findsZ at hs
 rw [if_neg (by omega), if_pos hk] at hs
 obtain ⟨h1, h2, -⟩ := of_decide_eq_true hs
 exact h.able h2 h1
theorem close_none {τ : Tr} {K : Int} (h : HInv τ K) {zx : Int} {x : Pt} {subs : List Pt} (hs : soundL τ zx true subs = true) (hp : PartsH τ zx subs K) (hc : CloseH τ x subs) : ∀ q n, alook (partsZ τ zx subs).1.nodes q = some n → n.st.own ≠ x.own := by
 intro q n hq e
 have ha : ∀ j (hj : j < subs.length), j < subs.length → ableZ subs[j].path := fun j hj _ =>
  finds_del (h.parts hs hp j (by omega)) (soundL_finds hs hj) (hc.kinds _ (List.getElem_mem hj))
 have hq' : alook (partsZ τ zx (subs.take subs.length)).1.nodes q = some n := by rw [List.take_length]; exact hq
 obtain ⟨⟨n0, g1, g2⟩, g3⟩ := dels_left hc.kinds subs.length (Nat.le_refl _) ha q n hq'
 have hm : q ∈ ownedZ τ x.own := (owned_mem (h.ok.sorted.nodup linB)).2 ⟨by have := hc.own.1; omega, n0, g1, g2.trans e⟩
 have hm2 : q ∈ subs.map (·.path) := by rw [hc.paths]; simpa using hm
 obtain ⟨y, hy, rfl⟩ := List.mem_map.1 hm2
 obtain ⟨j, hj, rfl⟩ := List.mem_iff_getElem.1 hy
 have := g3 j hj hj
 rw [hit_self] at this; cases this
theorem HInv.drop {τ : Tr} {K : Int} (h : HInv τ K) {id : Int} (hno : ∀ q n, alook τ.nodes q = some n → n.st.own ≠ id) : HInv (dropS τ id) K := by
 have hl : ∀ i, alook (dropS τ id).sess i = if i = id then none else alook τ.sess i := by
  intro i
  show alook (τ.sess.filter fun y => !decide (y.1 = id)) i = _
  rw [al_filter (fun k => !decide (k = id))]
  by_cases e : i = id <;> simp [e]
 refine ⟨h.ok.dropS id, h.root, h.closed, h.ver, fun q n hq => ?_, fun i s hi => ?_, h.data, h.acl, h.bare, h.zx0⟩
 ·rcases h.own q n hq with e | ⟨s, e⟩
  ·exact .inl e
  ·right; rw [hl, if_neg (hno q n hq)]; exact ⟨s, e⟩
 ·rw [hl] at hi
  split at hi
  ·cases hi
  ·exact h.ids i s hi
theorem sound_parts {τ : Tr} {zx : Int} {x : Pt} {subs : List Pt} (h : soundZ τ zx x subs = true) (hk : x.kind = 6 ∨ x.kind = 7) : soundL τ zx (decide (x.kind = 6)) subs = true := by
 unfold soundZ at h
 rw [if_neg (by omega), if_pos hk] at h
 exact h
theorem filter_del {subs : List Pt} (h : ∀ y ∈ subs, y.kind = 2) : subs.filter isDel = subs := List.filter_eq_self.2 fun y hy => by unfold isDel; rw [decide_eq_true (h y hy)]
theorem app_part {τ : Tr} {e : En} (h : e.x.kind ≤ 4 ∨ 8 < e.x.kind) : appE τ e = zxT (partZ τ e.x e.zx).1 e.zx := by
 unfold appE applyZ; dsimp only
 have hz : ∀ (x : Pt) (zx z : Int), partZ (zxT τ z) x zx = (zxT (partZ τ x zx).1 z, (partZ τ x zx).2) := by
  intro x zx z
  unfold partZ createZ eraseZ
  have h : ∀ p, thereT (zxT τ z) p ↔ thereT τ p := fun p => Iff.rfl
  simp only [h]
  repeat' split
  all_goals first | rfl | contradiction
 rw [if_neg (by omega), if_neg (by omega), if_neg (by omega), if_neg (by omega), hz]
theorem part_zx' (τ : Tr) (x : Pt) (zx z : Int) : (partZ (zxT τ z) x zx).1 = zxT (partZ τ x zx).1 z := by
 unfold partZ createZ eraseZ
 have h : ∀ p, thereT (zxT τ z) p ↔ thereT τ p := fun p => Iff.rfl
 simp only [h]
 repeat' split
 all_goals first | rfl | contradiction
theorem parts_zx' (τ : Tr) (zx z : Int) (l : List Pt) : (partsZ (zxT τ z) zx l).1 = zxT (partsZ τ zx l).1 z := by
 induction l using snocInd with
 | h0 => rfl
 | h1 l x ih => rw [parts_snoc, parts_snoc]; dsimp only; rw [ih, part_zx']
theorem app_open {τ : Tr} {e : En} (h : e.x.kind = 5) (ho : 0 < e.x.own) : appE τ e = zxT (openS τ e.x.own e.x.num e.x.data) e.zx := by
 unfold appE applyZ; dsimp only; rw [if_pos h, if_pos ho]; rfl
theorem app_close {τ : Tr} {e : En} (h : e.x.kind = 6) (hk : ∀ y ∈ e.subs, y.kind = 2) : appE τ e = zxT (dropS (partsZ τ e.zx e.subs).1 e.x.own) e.zx := by
 unfold appE applyZ; dsimp only; rw [if_neg (by omega), if_pos h, filter_del hk, parts_zx']; rfl
theorem app_multi {τ : Tr} {e : En} (h : e.x.kind = 7) : appE τ e = zxT (partsZ τ e.zx e.subs).1 e.zx := by
 unfold appE applyZ; dsimp only; rw [if_neg (by omega), if_neg (by omega), if_pos h, parts_zx']
theorem app_err {τ : Tr} {e : En} (h : e.x.kind = 8) : appE τ e = zxT τ e.zx := by
 unfold appE applyZ; dsimp only; rw [if_neg (by omega), if_neg (by omega), if_neg (by omega), if_pos h]
theorem part_zero {τ : Tr} {x : Pt} {zx : Int} (h : x.kind = 0) : (partZ τ x zx).1 = τ := by
 unfold partZ
 rw [if_neg (by omega), if_neg (by omega), if_neg (by rintro ⟨g, -⟩; omega), if_neg (by rintro ⟨g, -⟩; omega)]
theorem HInv.app {τ : Tr} {K : Int} (h : HInv τ K) {e : En} (he : EntH τ e K) : HInv (appE τ e) (K + 60) := by
 rcases he.shape with ⟨hs, hp⟩ | ⟨hk, hs, ho, hn, hd, ha, hp⟩ | ⟨hk, hc, hps, ha, hd, hl, hp⟩ | ⟨hk, hps, ha, hd, hl, hp⟩ | ⟨hk, hs, he2, hn, ha, hd, hp⟩
 ·rw [app_part (.inl hp.kind.2)]
  by_cases hz : e.x.kind = 0
  ·rw [part_zero hz]; exact (h.zx _).more (by omega)
  ·have hf : findsZ τ e.x = true := by
    have := he.sound
    unfold soundZ at this
    have hk := hp.kind
    rw [if_pos (by omega)] at this
    exact this
   exact ((h.part hf hp).zx _).more (by omega)
 ·rw [app_open hk (by omega)]
  exact ((h.opens ho).zx _).more (by omega)
 ·rw [app_close hk hc.kinds]
  have hsl := sound_parts he.sound (.inl hk)
  rw [decide_eq_true hk] at hsl
  have h2 := h.parts hsl hps e.subs.length (Nat.le_refl _)
  rw [List.take_length] at h2
  exact ((h2.drop (close_none h hsl hps hc)).zx _).more (by omega)
 ·rw [app_multi hk]
  have h2 := h.parts (sound_parts he.sound (.inr hk)) hps e.subs.length (Nat.le_refl _)
  rw [List.take_length] at h2
  exact (h2.zx _).more (by omega)
 ·rw [app_err hk]
  exact (h.zx _).more (by omega)
inductive Hist (z0 : Int) : List En → Tr → Prop
 | nil : Hist z0 [] newT
 | snoc {l : List En} {τ : Tr} {e : En} (h : Hist z0 l τ) (he : EntH τ e (60 * l.length)) (hz : e.zx = z0 + l.length) (hx : 0 ≤ e.xid ∧ e.xid < 150) : Hist z0 (l ++ [e]) (appE τ e)
theorem Hist.inv {z0 : Int} {l : List En} {τ : Tr} (h : Hist z0 l τ) : HInv τ (60 * l.length) := by
 induction h with
 | nil => exact HInv.new
 | snoc _ he _ _ ih => exact (ih.app he).more (by rw [List.length_append]; simp; omega)
/-! ### In memory -/
structure EnSz (e : En) : Prop where
 acl : e.x.acl.length ≤ 1
 path : e.x.path.length ≤ 62
 few : e.subs.length ≤ 60
 each : ∀ y ∈ e.subs, y.acl.length ≤ 1 ∧ y.path.length ≤ 62
/-! ### A session's end, path by path -/
def setS (τ : Tr) (s : List (Int × (Int × Bs))) : Tr := { τ with sess := s }
theorem part_ss (τ : Tr) (s : List (Int × (Int × Bs))) (x : Pt) (zx : Int) : (partZ (setS τ s) x zx).1 = setS (partZ τ x zx).1 s := by
 unfold partZ createZ eraseZ
 have h : ∀ p, thereT (setS τ s) p ↔ thereT τ p := fun p => Iff.rfl
 simp only [h]
 repeat' split
 all_goals first | rfl | contradiction
def sesE (s : List (Int × (Int × Bs))) (e : En) : List (Int × (Int × Bs)) :=
 if e.x.kind = 5 then (if 0 < e.x.own then sset s e.x.own (e.x.num, e.x.data) else s)
 else if e.x.kind = 6 then s.filter fun y => !decide (y.1 = e.x.own) else s
theorem app_sess (τ : Tr) (e : En) : (appE τ e).sess = sesE τ.sess e := by
 unfold appE applyZ sesE
 dsimp only
 split
 ·split <;> rfl
 split
 ·show (dropS _ _).sess = _
  unfold dropS; dsimp only
  rw [parts_sess]; rfl
 split
 ·rw [parts_sess]; rfl
 split
 ·rfl
 ·rw [part_sess]; rfl
theorem sesE_at (s : List (Int × (Int × Bs))) (e : En) (i : Int) : alook (sesE s e) i = if e.x.kind = 5 ∧ 0 < e.x.own ∧ i = e.x.own then some (e.x.num, e.x.data) else if e.x.kind = 6 ∧ i = e.x.own then none else alook s i := by
 unfold sesE
 by_cases h5 : e.x.kind = 5
 ·have e2 : (if e.x.kind = 6 ∧ i = e.x.own then none else alook s i) = alook s i := if_neg (by rintro ⟨g, -⟩; omega)
  rw [e2, if_pos h5]
  by_cases ho : 0 < e.x.own
  ·rw [if_pos ho, al_sset]
   by_cases hi : i = e.x.own
   ·rw [if_pos hi, if_pos ⟨h5, ho, hi⟩]
   ·rw [if_neg hi, if_neg (fun g => hi g.2.2)]
  ·rw [if_neg ho, if_neg (fun g => ho g.2.1)]
 ·have e1 : (if e.x.kind = 5 ∧ 0 < e.x.own ∧ i = e.x.own then some (e.x.num, e.x.data) else if e.x.kind = 6 ∧ i = e.x.own then none else alook s i) = if e.x.kind = 6 ∧ i = e.x.own then none else alook s i := if_neg (fun g => h5 g.1)
  rw [e1, if_neg h5]
  by_cases h6 : e.x.kind = 6
  ·rw [if_pos h6, al_filter (fun k => !decide (k = e.x.own))]
   by_cases hi : i = e.x.own
   ·simp [hi, h6]
   ·simp [hi]
  ·rw [if_neg h6]; simp [h6]
theorem app_zx (τ : Tr) (e : En) : (appE τ e).zx = e.zx := by
 have hp : ∀ (τ : Tr) (x : Pt) (zx : Int), (partZ τ x zx).1.zx = τ.zx := by
  intro τ x zx
  unfold partZ createZ eraseZ
  repeat' split
  all_goals rfl
 have hps : ∀ (τ : Tr) (zx : Int) (l : List Pt), (partsZ τ zx l).1.zx = τ.zx := by
  intro τ zx l
  induction l using snocInd with
  | h0 => rfl
  | h1 l x ih => rw [parts_snoc]; dsimp only; rw [hp, ih]
 unfold appE applyZ
 dsimp only
 split
 ·split <;> rfl
 split
 ·exact hps _ _ _
 split
 ·exact hps _ _ _
 split
 ·rfl
 ·exact hp _ _ _
/-! ### Paths: who is above -/
theorem base_noslash {q : Bs} (h : ableZ q) : (47 : UInt8) ∉ baseZ q := by
 obtain ⟨h0, -, -, -⟩ := able_cut h
 have h2 := (cut_last h0).2
 unfold baseZ
 rw [show (lidxZ q + 1).toNat = (lidxZ q).toNat + 1 by omega]
 exact h2
theorem able_noend {p : Bs} (hp : ableZ (p ++ [47])) : False := by
 have h1 := kid_parent hp
 have hb := base_ne hp
 have hs := base_noslash hp
 unfold kidZ at h1
 rcases List.append_eq_append_iff.1 h1 with ⟨a, e1, e2⟩ | ⟨a, e1, e2⟩
 ·cases a with
  | nil => rw [List.nil_append] at e2; exact hs (by rw [← e2]; simp)
  | cons c a =>
   have := congrArg List.length e2
   rw [List.length_append] at this
   simp only [List.length_cons, List.length_nil] at this
   exact hb (List.eq_nil_of_length_eq_zero (by omega))
 ·exact hs (by rw [e2]; simp)
theorem hit_up {q p : Bs} (hq : ableZ q) (hp : ableZ p) (hu : parentZ q = [47] ∨ ableZ (parentZ q)) (h : hitT q p = true) (hne : q ≠ p) : hitT (parentZ q) p = true := by
 unfold hitT at h
 rw [Bool.or_eq_true, decide_eq_true_iff, decide_eq_true_iff] at h
 obtain ⟨d, hd, e1⟩ := under_pre (h.resolve_left hne)
 rw [kid_else hp.1, List.append_assoc, List.cons_append, List.nil_append] at e1
 have hb := base_noslash hq
 have e2 := kid_parent hq
 by_cases hr : parentZ q = [47]
 ·rw [hr, kid_root] at e2
  rw [e2] at e1
  cases p with
  | nil => exact absurd hp (by decide)
  | cons c p' =>
   rw [List.cons_append] at e1
   injection e1 with _ e3
   exact absurd (by rw [e3]; simp) hb
 ·rw [kid_else hr] at e2
  rw [e2] at e1
  rcases List.append_eq_append_iff.1 e1 with ⟨a, h1, h2⟩ | ⟨a, h1, h2⟩
  ·
   cases a with
   | nil => rw [List.append_nil] at h1; rw [h1]; exact hit_self _
   | cons c a =>
    rw [List.cons_append] at h2
    injection h2 with _ h3
    exact absurd (by rw [h3]; simp) hb
  ·cases a with
   | nil => rw [List.append_nil] at h1; rw [h1]; exact hit_self _
   | cons c a =>
    rw [List.cons_append] at h2
    injection h2 with h3 h4
    subst h3
    refine hit_under (d := a) (fun e => ?_) (by rw [kid_else hp.1, List.append_assoc]; exact h1)
    subst e
    exact able_noend (by rw [← h1]; exact hu.resolve_left hr)
/-! ### Parts, run and run again -/
abbrev Pz := Pt × Int
def runT : Tr → List Pz → Tr
 | τ, [] => τ
 | τ, x :: l => runT (partZ τ x.1 x.2).1 l
def soundR : Tr → List Pz → Prop
 | _, [] => True
 | τ, x :: l => findsZ τ x.1 = true ∧ soundR (partZ τ x.1 x.2).1 l
structure Cl (τ : Tr) : Prop where
 able : ∀ q, thereT τ q → q ≠ [47] → ableZ q
 closed : ∀ q, thereT τ q → q ≠ [47] → thereT τ (parentZ q)
theorem Cl.up {τ : Tr} (h : Cl τ) {q : Bs} (ht : thereT τ q) (hq : q ≠ [47]) : parentZ q = [47] ∨ ableZ (parentZ q) := by
 by_cases e : parentZ q = [47]
 ·exact .inl e
 ·exact .inr (h.able _ (h.closed q ht hq) e)
theorem kid_mem {τ : Tr} {q : Bs} (ht : thereT τ q) (hq : q ≠ [47]) : (kidsZ τ (parentZ q)).length ≠ 0 := by
 obtain ⟨n, hn⟩ := there_some.1 ht
 have hm := al_mem hn
 intro e
 have : baseZ q ∈ kidsZ τ (parentZ q) := by
  unfold kidsZ
  exact List.mem_map.2 ⟨(q, n), List.mem_filter.2 ⟨hm, by simp [hq]⟩, rfl⟩
 rw [List.eq_nil_of_length_eq_zero e] at this; cases this
theorem hit_root {p : Bs} (hp : ableZ p) : hitT [47] p = false := by
 cases e : hitT [47] p with
 | false => rfl
 | true =>
  obtain ⟨r, e2⟩ := hit_pre e
  cases hy : p with
  | nil => exact absurd hp (by rw [hy]; decide)
  | cons c r2 =>
   rw [hy] at e2
   simp at e2
   exact absurd (by rw [hy, ← e2.1, e2.2.1]) hp.1
theorem no_below {τ : Tr} (hc : Cl τ) {p : Bs} (hp : ableZ p) (hk : (kidsZ τ p).length = 0) : ∀ (n : Nat) (q : Bs), q.length ≤ n → thereT τ q → hitT q p = true → q = p := by
 intro n
 induction n with
 | zero =>
  intro q hl ht hh
  have : q = [] := List.eq_nil_of_length_eq_zero (by omega)
  subst this
  exact absurd (hc.able _ ht (by decide)) (by decide)
 | succ n ih =>
  intro q hl ht hh
  apply Decidable.byContradiction
  intro hne
  have hqr : q ≠ [47] := fun e => by subst e; rw [hit_root hp] at hh; cases hh
  have ha := hc.able q ht hqr
  have hup := hit_up ha hp (hc.up ht hqr) hh hne
  obtain ⟨r, hr, e⟩ := parent_pre ha
  have hlen : (parentZ q).length ≤ n := by
   have := congrArg List.length e
   rw [List.length_append] at this
   have := List.length_pos_iff.2 hr
   omega
  have := ih (parentZ q) hlen (hc.closed q ht hqr) hup
  exact kid_mem ht hqr (by rw [this]; exact hk)
theorem finds_kind {τ : Tr} {x : Pt} (h : findsZ τ x = true) : x.kind = 1 ∧ (ableZ x.path ∧ ¬ thereT τ x.path ∧ thereT τ (parentZ x.path)) ∨ x.kind = 2 ∧ (x.path ≠ [47] ∧ thereT τ x.path ∧ (kidsZ τ x.path).length = 0) ∨ (x.kind = 3 ∨ x.kind = 4) ∧ thereT τ x.path := by
 unfold findsZ at h
 split at h
 ·rename_i h1; exact .inl ⟨h1, of_decide_eq_true h⟩
 split at h
 ·rename_i h2; exact .inr (.inl ⟨h2, of_decide_eq_true h⟩)
 split at h
 ·rename_i h3; exact .inr (.inr ⟨h3, of_decide_eq_true h⟩)
 ·cases h
theorem there_part {τ : Tr} (hc : Cl τ) {x : Pt} {z : Int} (h : findsZ τ x = true) (q : Bs) : thereT (partZ τ x z).1 q ↔ (if x.kind = 1 then q = x.path ∨ thereT τ q else if x.kind = 2 then thereT τ q ∧ q ≠ x.path else thereT τ q) := by
 rcases finds_kind h with ⟨h1, ha, hn, hu⟩ | ⟨h2, hr, ht, hk⟩ | ⟨h3, ht⟩
 ·rw [if_pos h1]
  unfold thereT
  rw [create_at h1 ha hu]
  by_cases e2 : q = x.path
  ·rw [if_pos e2]; split <;> simp [e2]
  ·rw [if_neg e2]; split <;> simp [e2]
 ·rw [if_neg (by omega), if_pos h2]
  have ha := hc.able _ ht hr
  have e : thereT (partZ τ x z).1 q ↔ thereT τ q ∧ hitT q x.path = false := by
   unfold thereT
   rw [erase_at h2 ha]
   cases hitT q x.path <;> split <;> simp
  rw [e]
  constructor
  ·rintro ⟨g1, g2⟩
   exact ⟨g1, fun e => by rw [e, hit_self] at g2; cases g2⟩
  ·rintro ⟨g1, g2⟩
   refine ⟨g1, ?_⟩
   cases e : hitT q x.path with
   | false => rfl
   | true => exact absurd (no_below hc ha hk _ q (Nat.le_refl _) g1 e) g2
 ·rw [if_neg (by omega), if_neg (by omega)]
  unfold thereT
  rcases h3 with h3 | h4
  ·rw [set_at h3 ht]; split <;> simp
  ·rw [acl_at h4 ht]; split <;> simp
theorem Cl.part {τ : Tr} (hc : Cl τ) {x : Pt} {z : Int} (h : findsZ τ x = true) : Cl (partZ τ x z).1 := by
 have hth := there_part hc (z := z) h
 rcases finds_kind h with ⟨h1, ha, hn, hu⟩ | ⟨h2, hr, ht, hk⟩ | ⟨h3, ht⟩
 ·simp only [if_pos h1] at hth
  refine ⟨fun q hq hne => ?_, fun q hq hne => ?_⟩
  ·rcases (hth q).1 hq with rfl | hq
   ·exact ha
   ·exact hc.able q hq hne
  ·rw [hth]; right
   rcases (hth q).1 hq with rfl | hq
   ·exact hu
   ·exact hc.closed q hq hne
 ·have hk1 : ¬ x.kind = 1 := by omega
  simp only [if_neg hk1, if_pos h2] at hth
  refine ⟨fun q hq hne => hc.able q ((hth q).1 hq).1 hne, fun q hq hne => ?_⟩
  rw [hth]
  have hq2 := ((hth q).1 hq).1
  refine ⟨hc.closed q hq2 hne, fun e => ?_⟩
  exact kid_mem hq2 hne (by rw [e]; exact hk)
 ·have hk1 : ¬ x.kind = 1 := by omega
  have hk2 : ¬ x.kind = 2 := by omega
  simp only [if_neg hk1, if_neg hk2] at hth
  exact ⟨fun q hq hne => hc.able q ((hth q).1 hq) hne, fun q hq hne => (hth _).2 (hc.closed q ((hth q).1 hq) hne)⟩
def delIn (p : Bs) (l : List Pz) : Prop := ∃ x ∈ l, x.1.kind = 2 ∧ x.1.path = p
def creIn (p : Bs) (l : List Pz) : Prop := ∃ x ∈ l, x.1.kind = 1 ∧ x.1.path = p
theorem not_del {p : Bs} {x : Pz} {l : List Pz} (h : ¬ delIn p (x :: l)) : ¬ delIn p l := fun ⟨y, hy, e⟩ => h ⟨y, List.mem_cons_of_mem _ hy, e⟩
theorem del_or {p : Bs} {x : Pz} {l : List Pz} (h : delIn p (x :: l)) : (x.1.kind = 2 ∧ x.1.path = p) ∨ delIn p l := by
 obtain ⟨y, hy, e⟩ := h
 rcases List.mem_cons.1 hy with rfl | hy
 ·exact .inl e
 ·exact .inr ⟨y, hy, e⟩
theorem cre_or {p : Bs} {x : Pz} {l : List Pz} (h : creIn p (x :: l)) : (x.1.kind = 1 ∧ x.1.path = p) ∨ creIn p l := by
 obtain ⟨y, hy, e⟩ := h
 rcases List.mem_cons.1 hy with rfl | hy
 ·exact .inl e
 ·exact .inr ⟨y, hy, e⟩
def core (n : Nd) : Int × Int × Int × Int := (n.st.cz, n.st.own, n.st.len, n.st.kids)
def gD (n : Nd) : Bs × Int × Int := (n.data, n.st.ver, n.st.mz)
def gA (n : Nd) : List Ac × Int := (n.acl, n.st.av)
def gK (n : Nd) : Int × Int := (n.st.cver, n.st.pz)
theorem nd_same {a b : Nd} (h1 : gD a = gD b) (h2 : gA a = gA b) (h3 : gK a = gK b) (h4 : core a = core b) : a = b := by
 obtain ⟨d, l, ⟨cz, mz, pz, ver, cver, av, own, len, kids⟩⟩ := a
 obtain ⟨d', l', ⟨cz', mz', pz', ver', cver', av', own', len', kids'⟩⟩ := b
 simp [gD, gA, gK, core] at h1 h2 h3 h4
 simp [h1, h2, h3, h4]
theorem part_stays {τ : Tr} (hc : Cl τ) {x : Pt} {z : Int} (h : findsZ τ x = true) {p : Bs} {n : Nd} (hp : alook τ.nodes p = some n) (hd : ¬ (x.kind = 2 ∧ x.path = p)) : ∃ m, alook (partZ τ x z).1.nodes p = some m ∧ core m = core n := by
 rcases finds_kind h with ⟨h1, ha, hn, hu⟩ | ⟨h2, hr, ht, hk⟩ | ⟨h3, ht⟩
 ·rw [create_at h1 ha hu]
  have hne : ¬ p = x.path := fun e => hn (by rw [← e]; exact there_some.2 ⟨n, hp⟩)
  rw [if_neg hne, hp]
  split
  ·exact ⟨_, rfl, rfl⟩
  ·exact ⟨_, rfl, rfl⟩
 ·have ha := hc.able _ ht hr
  rw [erase_at h2 ha]
  have hne : hitT p x.path = false := by
   cases e : hitT p x.path with
   | false => rfl
   | true => exact absurd ⟨h2, (no_below hc ha hk _ p (Nat.le_refl _) (there_some.2 ⟨n, hp⟩) e).symm⟩ hd
  rw [hne, hp]
  split
  ·exact ⟨_, rfl, rfl⟩
  ·exact ⟨_, rfl, rfl⟩
 ·rcases h3 with h3 | h4
  ·rw [set_at h3 ht, hp]
   split
   ·exact ⟨_, rfl, rfl⟩
   ·exact ⟨_, rfl, rfl⟩
  ·rw [acl_at h4 ht, hp]
   split
   ·exact ⟨_, rfl, rfl⟩
   ·exact ⟨_, rfl, rfl⟩
theorem run_stays : ∀ {l : List Pz} {τ : Tr}, Cl τ → soundR τ l → ∀ {p : Bs} {n : Nd}, alook τ.nodes p = some n → ¬ delIn p l → ∃ m, alook (runT τ l).nodes p = some m ∧ core m = core n
 | [], _, _, _, _, n, hp, _ => ⟨n, hp, rfl⟩
 | x :: l, τ, hc, hs, p, n, hp, hd => by
  obtain ⟨m, h1, h2⟩ := part_stays (z := x.2) hc hs.1 hp (fun e => hd ⟨x, List.mem_cons_self, e⟩)
  obtain ⟨k, h3, h4⟩ := run_stays (hc.part hs.1) hs.2 h1 (not_del hd)
  exact ⟨k, h3, h4.trans h2⟩
theorem run_from : ∀ {l : List Pz} {τ : Tr}, Cl τ → soundR τ l → ∀ {p : Bs}, thereT (runT τ l) p → ¬ creIn p l → thereT τ p
 | [], _, _, _, _, h, _ => h
 | x :: l, τ, hc, hs, p, h, hn => by
  have h1 := run_from (hc.part (z := x.2) hs.1) hs.2 h (fun ⟨y, hy, e⟩ => hn ⟨y, List.mem_cons_of_mem _ hy, e⟩)
  rw [there_part hc hs.1] at h1
  split at h1
  ·rename_i hk
   rcases h1 with rfl | h1
   ·exact absurd ⟨x, List.mem_cons_self, hk, rfl⟩ hn
   ·exact h1
  ·split at h1
   ·exact h1.1
   ·exact h1
theorem kid_goes : ∀ {l : List Pz} {τ : Tr}, Cl τ → soundR τ l → ∀ {p : Bs}, thereT τ p → p ≠ [47] → delIn (parentZ p) l → delIn p l
 | [], _, _, _, _, _, _, ⟨_, hy, _⟩ => by cases hy
 | x :: l, τ, hc, hs, p, ht, hr, hd => by
  by_cases hx : x.1.kind = 2 ∧ x.1.path = p
  ·exact ⟨x, List.mem_cons_self, hx⟩
  ·have h1 : thereT (partZ τ x.1 x.2).1 p := by
    obtain ⟨n, hn⟩ := there_some.1 ht
    obtain ⟨m, hm, -⟩ := part_stays (z := x.2) hc hs.1 hn hx
    exact there_some.2 ⟨m, hm⟩
   rcases del_or hd with ⟨k, e⟩ | hd
   ·rcases finds_kind hs.1 with ⟨g, -⟩ | ⟨-, -, -, hk⟩ | ⟨g, -⟩
    ·omega
    ·rw [e] at hk; exact absurd hk (kid_mem ht hr)
    ·omega
   ·obtain ⟨y, hy, e⟩ := kid_goes (hc.part hs.1) hs.2 h1 hr hd
    exact ⟨y, List.mem_cons_of_mem _ hy, e⟩
/-! ### The two runs side by side -/
def gOk (g s f : Nd) : Prop := (gD g = gD s ∨ gD g = gD f) ∧ (gA g = gA s ∨ gA g = gA f) ∧ (gK g = gK s ∨ gK g = gK f) ∧ core g = core f
structure Twin (S G F : Tr) (l : List Pz) : Prop where
 a : ∀ p s, alook S.nodes p = some s → ¬ delIn p l → ∃ g f, alook G.nodes p = some g ∧ alook F.nodes p = some f ∧ gOk g s f
 b : ∀ p, thereT G p → (thereT S p ∧ ¬ delIn p l) ∨ creIn p l ∨ delIn p l
theorem Twin.init {S : Tr} (hc : Cl S) {l : List Pz} (hs : soundR S l) : Twin S (runT S l) (runT S l) l := by
 refine ⟨fun p s hp hd => ?_, fun p hp => ?_⟩
 ·obtain ⟨m, h1, -⟩ := run_stays hc hs hp hd
  exact ⟨m, m, h1, h1, .inr rfl, .inr rfl, .inr rfl, rfl⟩
 ·by_cases h1 : creIn p l
  ·exact .inr (.inl h1)
  ·by_cases h2 : delIn p l
   ·exact .inr (.inr h2)
   ·exact .inl ⟨run_from hc hs hp h1, h2⟩
theorem gOk.kid {g s f : Nd} (h : gOk g s f) (num z : Int) : gOk (kidN num z g) (kidN num z s) f := ⟨h.1, h.2.1, .inl rfl, h.2.2.2⟩
theorem gOk.set {g s f : Nd} (h : gOk g s f) (d : Bs) (num z : Int) : gOk (setN d num z g) (setN d num z s) f := ⟨.inl rfl, h.2.1, h.2.2.1, h.2.2.2⟩
theorem gOk.acl {g s f : Nd} (h : gOk g s f) (l : List Ac) (num : Int) : gOk (aclN l num g) (aclN l num s) f := ⟨h.1, .inl rfl, h.2.2.1, h.2.2.2⟩
theorem Twin.step {S G F : Tr} (hc : Cl S) {x : Pz} {l : List Pz} (hf : findsZ S x.1 = true) (hs : soundR (partZ S x.1 x.2).1 l) (hF : F = runT (partZ S x.1 x.2).1 l) (h : Twin S G F (x :: l)) : Twin (partZ S x.1 x.2).1 (partZ G x.1 x.2).1 F l := by
 have hth := there_part hc (z := x.2) hf
 have hc' := hc.part (z := x.2) hf
 rcases finds_kind hf with ⟨h1, ha, hn, hu⟩ | ⟨h2, hr, ht, hk⟩ | ⟨h3, ht⟩
 ·
  simp only [if_pos h1] at hth
  have hnd : ∀ q, delIn q (x :: l) ↔ delIn q l := fun q => ⟨fun g => (del_or g).resolve_left (by rintro ⟨g, -⟩; omega), fun ⟨y, hy, e⟩ => ⟨y, List.mem_cons_of_mem _ hy, e⟩⟩
  by_cases hG : thereT G (parentZ x.1.path)
  ·refine ⟨fun p s hp hd => ?_, fun p hp => ?_⟩
   ·rw [create_at h1 ha hu] at hp
    rw [create_at h1 ha hG]
    by_cases e2 : p = x.1.path
    ·
     have hpu : ¬ p = parentZ x.1.path := fun e => by
      have := parent_lt ha
      rw [← e, ← e2] at this; exact linB.irr _ this
     rw [if_neg hpu, if_pos e2] at hp ⊢
     cases hp
     have hp2 : alook (partZ S x.1 x.2).1.nodes p = some (newN x.1 x.2) := by rw [create_at h1 ha hu, if_neg hpu, if_pos e2]
     obtain ⟨f, hf1, hf2⟩ := run_stays hc' hs hp2 hd
     rw [← hF] at hf1
     exact ⟨_, f, rfl, hf1, .inl rfl, .inl rfl, .inl rfl, hf2.symm⟩
    ·rw [if_neg e2] at hp ⊢
     by_cases e1 : p = parentZ x.1.path
     ·rw [if_pos e1] at hp ⊢
      obtain ⟨s0, hs0, rfl⟩ := map_some hp
      obtain ⟨g, f, k1, k2, k3⟩ := h.a p s0 hs0 (fun g => hd ((hnd p).1 g))
      rw [k1]
      exact ⟨_, f, rfl, k2, k3.kid _ _⟩
     ·rw [if_neg e1] at hp ⊢
      exact h.a p s hp (fun g => hd ((hnd p).1 g))
   ·have hp' : p = x.1.path ∨ thereT G p := by
     by_cases e2 : p = x.1.path
     ·exact .inl e2
     ·right
      unfold thereT at hp ⊢
      rw [create_at h1 ha hG, if_neg e2] at hp
      split at hp
      ·simpa using hp
      ·exact hp
    by_cases e2 : p = x.1.path
    ·by_cases hd : delIn p l
     ·exact .inr (.inr hd)
     ·exact .inl ⟨(hth p).2 (.inl e2), hd⟩
    ·rcases h.b p (hp'.resolve_left e2) with ⟨k1, k2⟩ | k | k
     ·exact .inl ⟨(hth p).2 (.inr k1), fun g => k2 ((hnd p).2 g)⟩
     ·exact .inr (.inl ((cre_or k).resolve_left (fun g => e2 g.2.symm)))
     ·exact .inr (.inr ((hnd p).1 k))
  ·
   have hsame : (partZ G x.1 x.2).1 = G := by
    unfold partZ createZ
    rw [if_pos h1, if_neg (fun g => hG g.2)]
   have hdu : delIn (parentZ x.1.path) l := by
    apply Classical.byContradiction
    intro g
    obtain ⟨n, hn2⟩ := there_some.1 hu
    obtain ⟨g0, f, k1, -, -⟩ := h.a _ n hn2 (fun k => g ((hnd _).1 k))
    exact hG (there_some.2 ⟨g0, k1⟩)
   have hdp : delIn x.1.path l := kid_goes hc' hs ((hth _).2 (.inl rfl)) ha.1 hdu
   rw [hsame]
   refine ⟨fun p s hp hd => ?_, fun p hp => ?_⟩
   ·rw [create_at h1 ha hu] at hp
    by_cases e2 : p = x.1.path
    ·exact absurd (by rw [e2]; exact hdp) hd
    ·rw [if_neg e2] at hp
     by_cases e1 : p = parentZ x.1.path
     ·exact absurd (by rw [e1]; exact hdu) hd
     ·rw [if_neg e1] at hp
      exact h.a p s hp (fun g => hd ((hnd p).1 g))
   ·rcases h.b p hp with ⟨k1, k2⟩ | k | k
    ·exact .inl ⟨(hth p).2 (.inr k1), fun g => k2 ((hnd p).2 g)⟩
    ·rcases cre_or k with ⟨-, e⟩ | k
     ·exact .inr (.inr (by rw [← e]; exact hdp))
     ·exact .inr (.inl k)
    ·exact .inr (.inr ((hnd p).1 k))
 ·
  have hk1 : ¬ x.1.kind = 1 := by omega
  simp only [if_neg hk1, if_pos h2] at hth
  have ha := hc.able _ ht hr
  refine ⟨fun p s hp hd => ?_, fun p hp => ?_⟩
  ·have hpt : thereT (partZ S x.1 x.2).1 p := there_some.2 ⟨s, hp⟩
   obtain ⟨hpS, hpne⟩ := (hth p).1 hpt
   have hhit : hitT p x.1.path = false := by
    cases e : hitT p x.1.path with
    | false => rfl
    | true => exact absurd (no_below hc ha hk _ p (Nat.le_refl _) hpS e) hpne
   have hd2 : ¬ delIn p (x :: l) := fun g => (del_or g).elim (fun g => hpne g.2.symm) hd
   rw [erase_at h2 ha, hhit] at hp
   rw [erase_at h2 ha, hhit]
   by_cases e1 : p = parentZ x.1.path
   ·rw [if_pos e1] at hp ⊢
    obtain ⟨s0, hs0, rfl⟩ := map_some hp
    obtain ⟨g, f, k1, k2, k3⟩ := h.a p s0 hs0 hd2
    refine ⟨_, f, ?_, k2, k3.kid _ _⟩
    rw [if_neg (by decide), k1]; rfl
   ·rw [if_neg e1] at hp ⊢
    obtain ⟨g, f, k1, k2, k3⟩ := h.a p s hp hd2
    exact ⟨g, f, k1, k2, k3⟩
  ·have hp' : thereT G p ∧ hitT p x.1.path = false := by
    unfold thereT at hp ⊢
    rw [erase_at h2 ha] at hp
    cases e : hitT p x.1.path with
    | false => rw [e] at hp; split at hp <;> simpa using hp
    | true => rw [e] at hp; split at hp <;> simp at hp
   have hpne : p ≠ x.1.path := fun e => by rw [e, hit_self] at hp'; exact absurd hp'.2 (by decide)
   rcases h.b p hp'.1 with ⟨k1, k2⟩ | k | k
   ·exact .inl ⟨(hth p).2 ⟨k1, hpne⟩, not_del k2⟩
   ·exact .inr (.inl ((cre_or k).resolve_left (fun g => hpne g.2.symm)))
   ·exact .inr (.inr ((del_or k).resolve_left (fun g => hpne g.2.symm)))
 ·
  have hk1 : ¬ x.1.kind = 1 := by omega
  have hk2 : ¬ x.1.kind = 2 := by omega
  simp only [if_neg hk1, if_neg hk2] at hth
  have hnd : ∀ q, delIn q (x :: l) ↔ delIn q l := fun q => ⟨fun g => (del_or g).resolve_left (by rintro ⟨g, -⟩; omega), fun ⟨y, hy, e⟩ => ⟨y, List.mem_cons_of_mem _ hy, e⟩⟩
  have hthG : ∀ q, thereT (partZ G x.1 x.2).1 q ↔ thereT G q := by
   intro q
   by_cases hG : thereT G x.1.path
   ·unfold thereT
    rcases h3 with h3 | h4
    ·rw [set_at h3 hG]; split <;> simp
    ·rw [acl_at h4 hG]; split <;> simp
   ·have : (partZ G x.1 x.2).1 = G := by
     unfold partZ
     rw [if_neg hk1, if_neg hk2, if_neg (fun g => hG g.2), if_neg (fun g => hG g.2)]
    rw [this]
  refine ⟨fun p s hp hd => ?_, fun p hp => ?_⟩
  ·have hd2 : ¬ delIn p (x :: l) := fun g => hd ((hnd p).1 g)
   have key : ∀ (F1 : Nd → Nd), (∀ q, alook (partZ S x.1 x.2).1.nodes q = if q = x.1.path then (alook S.nodes q).map F1 else alook S.nodes q) → (thereT G x.1.path → ∀ q, alook (partZ G x.1 x.2).1.nodes q = if q = x.1.path then (alook G.nodes q).map F1 else alook G.nodes q) → (∀ g s f, gOk g s f → gOk (F1 g) (F1 s) f) → ∃ g f, alook (partZ G x.1 x.2).1.nodes p = some g ∧ alook F.nodes p = some f ∧ gOk g s f := by
    intro F1 kS kG kF
    rw [kS] at hp
    by_cases e : p = x.1.path
    ·rw [if_pos e] at hp
     obtain ⟨s0, hs0, rfl⟩ := map_some hp
     obtain ⟨g, f, k1, k2, k3⟩ := h.a p s0 hs0 hd2
     refine ⟨F1 g, f, ?_, k2, kF _ _ _ k3⟩
     rw [kG (there_some.2 ⟨g, by rw [← e]; exact k1⟩), if_pos e, k1]; rfl
    ·rw [if_neg e] at hp
     obtain ⟨g, f, k1, k2, k3⟩ := h.a p s hp hd2
     refine ⟨g, f, ?_, k2, k3⟩
     by_cases hG : thereT G x.1.path
     ·rw [kG hG, if_neg e]; exact k1
     ·have : (partZ G x.1 x.2).1 = G := by
       unfold partZ
       rw [if_neg hk1, if_neg hk2, if_neg (fun g => hG g.2), if_neg (fun g => hG g.2)]
      rw [this]; exact k1
   rcases h3 with h3 | h4
   ·exact key _ (fun q => set_at h3 ht q) (fun hG q => set_at h3 hG q) (fun g s f k => k.set _ _ _)
   ·exact key _ (fun q => acl_at h4 ht q) (fun hG q => acl_at h4 hG q) (fun g s f k => k.acl _ _)
  ·rcases h.b p ((hthG p).1 hp) with ⟨k1, k2⟩ | k | k
   ·exact .inl ⟨(hth p).2 k1, fun g => k2 ((hnd p).2 g)⟩
   ·exact .inr (.inl ((cre_or k).resolve_left (by rintro ⟨g, -⟩; exact hk1 g)))
   ·exact .inr (.inr ((hnd p).1 k))
theorem Twin.run : ∀ {l : List Pz} {S G F : Tr}, Cl S → soundR S l → F = runT S l → Twin S G F l → ∀ p, alook (runT G l).nodes p = alook F.nodes p
 | [], S, G, F, _, _, hF, h, p => by
  have hF : F = S := hF
  rw [hF] at h ⊢
  rcases e : alook S.nodes p with _ | s
  ·rcases e2 : alook G.nodes p with _ | g
   ·exact e2
   ·rcases h.b p (there_some.2 ⟨g, e2⟩) with ⟨k, -⟩ | ⟨_, hy, -⟩ | ⟨_, hy, -⟩
    ·obtain ⟨n, hn⟩ := there_some.1 k
     rw [e] at hn; cases hn
    ·cases hy
    ·cases hy
  ·obtain ⟨g, f, k1, k2, k3, k4, k5, k6⟩ := h.a p s e (fun ⟨_, hy, _⟩ => by cases hy)
   have k3' := k2
   rw [e] at k3'
   cases k3'
   have : g = s := nd_same (k3.elim id id) (k4.elim id id) (k5.elim id id) k6
   subst this
   exact k1
 | x :: l, S, G, F, hc, hs, hF, h, p => Twin.run (hc.part hs.1) hs.2 hF (h.step hc hs.1 hs.2 hF) p
/-! ### Entries as parts -/
def flatE (e : En) : List Pz :=
 if e.x.kind = 6 ∨ e.x.kind = 7 then e.subs.map fun y => (y, e.zx)
 else if 1 ≤ e.x.kind ∧ e.x.kind ≤ 4 then [(e.x, e.zx)] else []
theorem runT_parts (τ : Tr) (z : Int) (l : List Pt) : runT τ (l.map fun y => (y, z)) = (partsZ τ z l).1 := by
 have : ∀ (l : List Pt) (r : Tr × List Ev), runT r.1 (l.map fun y => (y, z)) = (l.foldl (fun r x => ((partZ r.1 x z).1, r.2 ++ (partZ r.1 x z).2)) r).1 := by
  intro l
  induction l with
  | nil => intro r; rfl
  | cons x l ih => intro r; rw [List.map_cons, List.foldl_cons]; exact ih ((partZ r.1 x z).1, r.2 ++ (partZ r.1 x z).2)
 exact this l (τ, [])
theorem runT_app (τ : Tr) (l m : List Pz) : runT τ (l ++ m) = runT (runT τ l) m := by
 induction l generalizing τ with
 | nil => rfl
 | cons x l ih => exact ih _
theorem runT_zx (τ : Tr) (z : Int) (l : List Pz) : (runT (zxT τ z) l).nodes = (runT τ l).nodes := by
 have : runT (zxT τ z) l = zxT (runT τ l) z := by
  induction l generalizing τ with
  | nil => rfl
  | cons x l ih => show runT (partZ (zxT τ z) x.1 x.2).1 l = _; rw [part_zx']; exact ih _
 rw [this]; rfl
theorem runT_ss (τ : Tr) (s : List (Int × (Int × Bs))) (l : List Pz) : (runT (setS τ s) l).nodes = (runT τ l).nodes := by
 have : runT (setS τ s) l = setS (runT τ l) s := by
  induction l generalizing τ with
  | nil => rfl
  | cons x l ih => show runT (partZ (setS τ s) x.1 x.2).1 l = _; rw [part_ss]; exact ih _
 rw [this]; rfl
theorem runT_nodes {τ υ : Tr} (h : τ.nodes = υ.nodes) (l : List Pz) : (runT τ l).nodes = (runT υ l).nodes := by
 have : υ = zxT (setS τ υ.sess) υ.zx := Tr.ext' h.symm rfl rfl
 rw [this, runT_zx, runT_ss]
theorem app_flat {σ : Tr} {K : Int} {e : En} (he : EntH σ e K) (τ : Tr) : (appE τ e).nodes = (runT τ (flatE e)).nodes := by
 unfold flatE
 rcases he.shape with ⟨hs, hp⟩ | ⟨hk, -⟩ | ⟨hk, hc, -⟩ | ⟨hk, -⟩ | ⟨hk, -⟩
 ·have hkk := hp.kind
  rw [app_part (.inl hkk.2), if_neg (by omega)]
  by_cases h0 : e.x.kind = 0
  ·rw [if_neg (by omega), part_zero h0]; rfl
  ·rw [if_pos (by omega)]; rfl
 ·rw [if_neg (by omega), if_neg (by omega)]
  show (appE τ e).nodes = τ.nodes
  unfold appE applyZ; dsimp only; rw [if_pos hk]; split <;> rfl
 ·rw [app_close hk hc.kinds, if_pos (.inl hk), runT_parts]; rfl
 ·rw [app_multi hk, if_pos (.inr hk), runT_parts]; rfl
 ·rw [app_err hk, if_neg (by omega), if_neg (by omega)]; rfl
theorem soundR_of {zx : Int} {cl : Bool} : ∀ {l : List Pt} {τ : Tr}, soundL τ zx cl l = true → soundR τ (l.map fun y => (y, zx))
 | [], _, _ => trivial
 | x :: l, τ, h => by
  unfold soundL at h
  simp only [Bool.and_eq_true] at h
  exact ⟨h.1.1, soundR_of h.2⟩
theorem flat_sound {τ : Tr} {K : Int} {e : En} (he : EntH τ e K) : soundR τ (flatE e) := by
 unfold flatE
 split
 ·rename_i hk
  exact soundR_of (sound_parts he.sound hk)
 split
 ·rename_i h1 h2
  have := he.sound
  unfold soundZ at this
  rw [if_pos (by omega)] at this
  exact ⟨this, trivial⟩
 ·trivial
theorem HInv.cl {τ : Tr} {K : Int} (h : HInv τ K) : Cl τ := ⟨fun _ ht hq => h.able ht hq, h.closed⟩
theorem soundR_app : ∀ {l m : List Pz} {τ : Tr}, soundR τ l → soundR (runT τ l) m → soundR τ (l ++ m)
 | [], _, _, _, h => h
 | _ :: _, _, _, h1, h2 => ⟨h1.1, soundR_app h1.2 h2⟩
theorem finds_nodes {τ υ : Tr} (h : τ.nodes = υ.nodes) (x : Pt) : findsZ τ x = findsZ υ x := by
 have : υ = zxT (setS τ υ.sess) υ.zx := Tr.ext' h.symm rfl rfl
 rw [this]; rfl
theorem soundR_nodes : ∀ {l : List Pz} {τ υ : Tr}, τ.nodes = υ.nodes → soundR τ l → soundR υ l
 | [], _, _, _, _ => trivial
 | x :: l, τ, υ, h, hs => ⟨by rw [← finds_nodes h]; exact hs.1, soundR_nodes (runT_nodes h [x]) hs.2⟩
structure Ends (S : Tr) (l : List En) : Prop where
 K : ∃ K, HInv S K
 each : ∀ i (hi : i < l.length), ∃ K, EntH (appL S (l.take i)) l[i] K
theorem Ends.tail {S : Tr} {e : En} {l : List En} (h : Ends S (e :: l)) : Ends (appE S e) l := by
 obtain ⟨K0, h0⟩ := h.K
 obtain ⟨K1, h1⟩ := h.each 0 (by simp)
 refine ⟨⟨max K0 K1 + 60, ?_⟩, fun i hi => ?_⟩
 ·have h1' : EntH S e (max K0 K1) := by
   have h2 : EntH S e K1 := h1
   refine ⟨h2.sound, ?_, h2.ses, h2.cells⟩
   rcases h2.shape with ⟨a, b⟩ | ⟨a, b, c, d, f, g, i⟩ | ⟨a, b, c, d, f, g, i⟩ | ⟨a, b, c, d, f, g⟩ | ⟨a, b, c, d, f, g, i⟩
   ·exact .part a (b.more (by omega))
   ·exact .opens a b c d f g i
   ·exact .close a b (fun j hj => (c j hj).more (by omega)) d f g i
   ·exact .multi a (fun j hj => (b j hj).more (by omega)) c d f g
   ·exact .error a b c d f g i
  exact (h0.more (by omega)).app h1'
 ·obtain ⟨K, hK⟩ := h.each (i + 1) (by simpa using hi)
  exact ⟨K, hK⟩
def flatL (l : List En) : List Pz := l.flatMap flatE
theorem ends_flat : ∀ {l : List En} {S : Tr}, Ends S l → soundR S (flatL l) ∧ (appL S l).nodes = (runT S (flatL l)).nodes ∧ ∀ G : Tr, (appL G l).nodes = (runT G (flatL l)).nodes
 | [], _, _ => ⟨trivial, rfl, fun _ => rfl⟩
 | e :: l, S, h => by
  obtain ⟨K, hK⟩ := h.each 0 (by simp)
  have hK' : EntH S e K := hK
  obtain ⟨h1, h2, h3⟩ := ends_flat h.tail
  have hall : ∀ G : Tr, (appL G (e :: l)).nodes = (runT G (flatL (e :: l))).nodes := fun G => by
   show (appL (appE G e) l).nodes = (runT G (flatE e ++ flatL l)).nodes
   rw [h3 (appE G e), runT_app]
   exact runT_nodes (app_flat hK' G) _
  refine ⟨?_, hall S, hall⟩
  show soundR S (flatE e ++ flatL l)
  exact soundR_app (flat_sound hK') (soundR_nodes (app_flat hK' S) h1)
/-! ### Sessions -/
def sesL (s : List (Int × (Int × Bs))) (l : List En) : List (Int × (Int × Bs)) := l.foldl sesE s
theorem appL_sess : ∀ (l : List En) (τ : Tr), (appL τ l).sess = sesL τ.sess l
 | [], _ => rfl
 | e :: l, τ => by
  show (appL (appE τ e) l).sess = sesL (sesE τ.sess e) l
  rw [appL_sess l, app_sess]
theorem sesL_at : ∀ (l : List En) (i : Int), (∀ s, alook (sesL s l) i = alook s i) ∨ ∃ r, ∀ s, alook (sesL s l) i = r
 | [], i => .inl fun _ => rfl
 | e :: l, i => by
  rcases sesL_at l i with h | ⟨r, h⟩
  ·have key : ∀ s, alook (sesL s (e :: l)) i = alook (sesE s e) i := fun s => h (sesE s e)
   by_cases h5 : e.x.kind = 5 ∧ 0 < e.x.own ∧ i = e.x.own
   ·exact .inr ⟨some (e.x.num, e.x.data), fun s => by rw [key, sesE_at, if_pos h5]⟩
   ·by_cases h6 : e.x.kind = 6 ∧ i = e.x.own
    ·exact .inr ⟨none, fun s => by rw [key, sesE_at, if_neg h5, if_pos h6]⟩
    ·exact .inl fun s => by rw [key, sesE_at, if_neg h5, if_neg h6]
  ·exact .inr ⟨r, fun s => h (sesE s e)⟩
theorem sesL_again (s : List (Int × (Int × Bs))) (l : List En) (i : Int) : alook (sesL (sesL s l) l) i = alook (sesL s l) i := by
 rcases sesL_at l i with h | ⟨r, h⟩
 ·rw [h]
 ·rw [h, h]
theorem appL_zx : ∀ (l : List En) (τ : Tr), (appL τ l).zx = (l.getLast?.map (·.zx)).getD τ.zx := by
 intro l
 induction l using snocInd with
 | h0 => intro τ; rfl
 | h1 l e _ => intro τ; rw [appL_snoc, app_zx]; simp
theorem EnSz.ok {τ : Tr} {N : Nat} (h : τ.Ok N) {e : En} (he : EnSz e) : (appE τ e).Ok (N + 61) :=
 (h.apply e.zx e.x e.subs (by have := he.acl; omega) (fun y hy => by have := (he.each y hy).1; omega)).more (by have := he.few; omega)
theorem run_ok : ∀ {l : List En} {τ : Tr} {N : Nat}, τ.Ok N → (∀ e ∈ l, EnSz e) → (appL τ l).Ok (N + 61 * l.length)
 | [], _, _, h, _ => h
 | e :: l, τ, N, h, hl => (run_ok ((hl e List.mem_cons_self).ok h) (fun x hx => hl x (List.mem_cons_of_mem _ hx))).more (by rw [List.length_cons]; omega)
theorem again {S : Tr} {l : List En} (h : Ends S l) (hsz : ∀ e ∈ l, EnSz e) : appL (appL S l) l = appL S l := by
 obtain ⟨K, hK⟩ := h.K
 obtain ⟨h1, h2, h3⟩ := ends_flat h
 have hF := run_ok hK.ok hsz
 have hG := run_ok hF hsz
 refine Tr.ext' (sorted_same linB hG.sorted hF.sorted fun p => ?_) (sorted_same linI hG.ssorted hF.ssorted fun i => ?_) ?_
 ·rw [h3, h2, runT_nodes h2]
  exact Twin.run hK.cl h1 rfl (Twin.init hK.cl h1) p
 ·rw [appL_sess, appL_sess]
  exact sesL_again _ _ _
 ·rw [appL_zx, appL_zx]
  cases l.getLast? <;> rfl
/-! ### Histories -/
/-! ### While it is laid -/
theorem sorted_snoc {l : List PN} {y : PN} (h : SortedK l) (hl : ∀ x ∈ l, x.1 < y.1) : SortedK (l ++ [y]) := by
 unfold SortedK at h ⊢
 rw [List.map_append, List.pairwise_append]
 refine ⟨h, by simp, fun a ha b hb => ?_⟩
 obtain ⟨x, hx, rfl⟩ := List.mem_map.1 ha
 simp at hb; subst hb
 exact hl x hx
def SesB (τ : Tr) : Prop := ∀ y ∈ τ.sess, y.1 ≤ 9223372036854775807
theorem wld_w {l : List Ac} (h : wld l) : AclW l := by
 rcases h with rfl | ⟨q, h1, h2, rfl⟩
 ·refine ⟨by decide, ?_, fun a ha => (by cases ha)⟩
  have h3 := sev_len10 (u := 0) (by decide)
  unfold aclB cntB
  simp only [List.flatMap_nil, List.length_append, List.length_nil] at *
  omega
 ·have hq : I64 q := ⟨by omega, by omega⟩
  refine ⟨by simp, ?_, fun a ha => ?_⟩
  ·have h1 := numB_len8 hq
   have h2 := txtB_len8 (s := wldZ) (by decide)
   have h3 := sev_len10 (u := 0 + 1) (by decide)
   unfold aclB acB cntB
   simp only [List.flatMap_cons, List.flatMap_nil, List.length_append, List.length_nil, List.length_cons] at *
   omega
  ·simp only [List.mem_singleton] at ha; subst ha
   exact ⟨⟨hq, by show wldZ.length < U64; decide⟩, by show wldZ.length ≤ 1048576; decide⟩
theorem PartH.n {τ : Tr} {x : Pt} {K : Int} (h : PartH τ x K) (hs : ∀ i s, alook τ.sess i = some s → 1 ≤ i ∧ i ≤ 5) (hK : K ≤ 1099511627776) : PtN x := by
 refine ⟨?_, ⟨by have := h.num.1; omega, by have := h.num.2; omega⟩, by have := h.data; omega, wld_w h.acl⟩
 rcases h.own with e | ⟨s, e⟩
 ·rw [e]; exact i64_0
 ·have := hs _ _ e; exact ⟨by omega, by omega⟩
theorem PartsH.n {τ : Tr} {zx : Int} {subs : List Pt} {K : Int} (h : PartsH τ zx subs K) (hs : ∀ i s, alook τ.sess i = some s → 1 ≤ i ∧ i ≤ 5) (hK : K + subs.length ≤ 1099511627776) : ∀ y ∈ subs, PtN y := fun y hy => by
 obtain ⟨i, hi, rfl⟩ := List.mem_iff_getElem.1 hy
 exact (h i hi).n (by rw [parts_sess]; exact hs) (by omega)
theorem EntH.w {τ : Tr} {K : Int} {e : En} (h : EntH τ e K) (hw : TrW τ) (hi : HInv τ K) (hK : K ≤ 1099511000000) (hz : I64 e.zx) : TrW (appE τ e) := by
 rcases h.shape with ⟨hs, hp⟩ | ⟨hk, hs, ho, hn, hd, ha, hp⟩ | ⟨hk, hc, hp, ha, hd, hl, hp'⟩ | ⟨hk, hp, ha, hd, hl, hp'⟩ | ⟨hk, hs, he, hn, ha, hd, hp⟩
 ·have hkk := hp.kind
  rw [app_part (.inl hkk.2)]
  exact (hw.part (hp.n hi.ids (by omega)) hz).zxT hz
 ·rw [app_open hk (by omega)]
  refine TrW.zxT (τ := openS τ e.x.own e.x.num e.x.data) ⟨hw.nd, fun y hy => ?_, hw.zx⟩ hz
  rcases sset_mem hy with rfl | hy
  ·exact ⟨⟨by dsimp only; omega, by dsimp only; omega⟩, ⟨by dsimp only; omega, by dsimp only; omega⟩, by dsimp only; omega⟩
  ·exact hw.ss y hy
 ·rw [app_close hk hc.kinds]
  have h1 := hw.parts hz (l := e.subs) (hp.n hi.ids (by omega))
  exact TrW.zxT (τ := dropS (partsZ τ e.zx e.subs).1 e.x.own) ⟨h1.nd, fun y hy => h1.ss y (List.mem_filter.1 hy).1, h1.zx⟩ hz
 ·rw [app_multi hk]
  exact (hw.parts hz (hp.n hi.ids (by omega))).zxT hz
 ·rw [app_err hk]; exact hw.zxT hz
theorem Hist.w {es : List En} {τ : Tr} (h : Hist 1 es τ) (hl : es.length ≤ 200) : TrW τ := by
 induction h with
 | nil => exact TrW.new
 | @snoc l τ e h0 he hz hx ih =>
  rw [List.length_append, List.length_singleton] at hl
  exact he.w (ih (by omega)) h0.inv (by omega) ⟨by omega, by omega⟩
theorem root_lt {q : Bs} (h : ableZ q) : ([47] : Bs) < q := by
 rcases linB.tri [47] q with g | g | g
 ·exact g
 ·exact absurd g.symm h.1
 ·exact absurd g (hit_le (under_root h))
theorem check_of {q : Bs} (h : q = [47] ∨ ableZ q) : checkZ q = 0 := by
 rcases h with rfl | h
 ·decide
 ·exact h.2
theorem lt_last {l : List PN} (hs : SortedK l) {i : Nat} (hi : i < l.length) (h0 : 0 < i) : lastP (l.take i) = l[i - 1].1 ∧ l[i - 1].1 < l[i].1 := by
 obtain ⟨k, rfl⟩ : ∃ k, i = k + 1 := ⟨i - 1, by omega⟩
 rw [List.take_succ_eq_append_getElem (by omega), lastP_snoc]
 exact ⟨rfl, (List.pairwise_iff_getElem.1 (List.pairwise_map.1 hs)) k (k + 1) (by omega) hi (by omega)⟩
theorem okN_of {τ : Tr} {N : Nat} (ho : τ.Ok N) (hr : thereT τ [47]) : okN τ.nodes := by
 intro i hi
 have ha := ho.able _ (List.getElem_mem hi)
 refine ⟨check_of ha, ?_, ?_⟩
 ·rcases Nat.eq_zero_or_pos i with rfl | h0
  ·show ([] : Bs) < _
   cases e : (τ.nodes[0]).1 with
   | nil => exact absurd e (path_ne ho _ (List.getElem_mem hi))
   | cons c r => simp
  ·obtain ⟨h1, h2⟩ := lt_last ho.sorted hi h0
   rw [h1]; exact h2
 ·obtain ⟨n, hn⟩ := there_some.1 hr
  obtain ⟨j, hj, e⟩ := List.mem_iff_getElem.1 (al_mem hn)
  have e1 : (τ.nodes[j]).1 = [47] := by rw [e]
  rcases Nat.eq_zero_or_pos i with rfl | h0
  ·refine ⟨fun _ => ?_, fun _ => rfl⟩
   rcases ha with g | g
   ·exact g
   ·have h1 := root_lt g
    rcases Nat.eq_zero_or_pos j with h2 | h2
    ·subst h2; exact e1
    ·have := (List.pairwise_iff_getElem.1 (List.pairwise_map.1 ho.sorted)) 0 j hi hj h2
     rw [e1] at this
     exact absurd (linB.tr _ _ _ h1 this) (linB.irr _)
  ·obtain ⟨h1, h2⟩ := lt_last ho.sorted hi h0
   rw [h1]
   refine ⟨fun g => absurd g (path_ne ho _ (List.getElem_mem (by omega))), fun g => ?_⟩
   rw [g] at h2
   have hb := ho.able _ (List.getElem_mem (l := τ.nodes) (n := i - 1) (by omega))
   rcases hb with k | k
   ·rw [k] at h2; exact absurd h2 (linB.irr _)
   ·exact absurd (linB.tr _ _ _ h2 (root_lt k)) (linB.irr _)
theorem okS_of {τ : Tr} {N : Nat} (ho : τ.Ok N) : okS τ.sess := by
 intro i hi
 unfold nextS
 rcases Nat.eq_zero_or_pos i with rfl | h0
 ·have := ho.ids _ (List.getElem_mem hi)
  show (0 : Int) < _
  omega
 ·obtain ⟨k, rfl⟩ : ∃ k, i = k + 1 := ⟨i - 1, by omega⟩
  rw [List.take_succ_eq_append_getElem (by omega), lastI_snoc]
  exact (List.pairwise_iff_getElem.1 (List.pairwise_map.1 ho.ssorted)) k (k + 1) (by omega) hi (by omega)
theorem Hist.secret {es : List En} {τ : Tr} (h : Hist 1 es τ) : ∀ x ∈ τ.sess, x.2.2.length ≤ 100 := by
 induction h with
 | nil => intro x hx; cases hx
 | @snoc l τ e h0 he hz hx ih =>
  intro x hx
  rw [app_sess] at hx
  unfold sesE at hx
  split at hx
  ·split at hx
   ·rcases sset_mem hx with rfl | hx
    ·dsimp only
     rcases he.shape with ⟨-, hp⟩ | ⟨-, -, -, -, hd, -, -⟩ | ⟨-, -, -, -, hd, -, -⟩ | ⟨-, -, -, hd, -, -⟩ | ⟨-, -, -, -, -, hd, -⟩
     ·exact hp.data
     ·exact hd
     ·rw [hd]; exact Nat.zero_le _
     ·rw [hd]; exact Nat.zero_le _
     ·rw [hd]; exact Nat.zero_le _
    ·exact ih x hx
   ·exact ih x hx
  ·split at hx
   ·exact ih x (List.mem_filter.1 hx).1
   ·exact ih x hx
theorem Hist.right {es : List En} {τ : Tr} (h : Hist 1 es τ) (hl : es.length ≤ 200) : RightT τ := by
 have hi := h.inv
 have hw := h.w hl
 have ho := hi.ok
 have hmem : ∀ y ∈ τ.nodes, alook τ.nodes y.1 = some y.2 := fun y hy => al_of_mem (ho.sorted.nodup linB) hy
 refine ⟨okN_of ho hi.rootT, okS_of ho, fun e => ?_, hw.zx, by have := ho.few; omega, by have := ho.sfew; omega, fun y hy => ?_, fun x hx => ?_⟩
 ·have := hi.pos; rw [e] at this; exact absurd this (Nat.lt_irrefl _)
 ·have h1 := hi.data _ _ (hmem y hy)
  have h2 := hi.acl _ _ (hmem y hy)
  have h3 := hw.nd y hy
  have h4 := able_len (ho.able y hy)
  have h5 := wld_len h2
  refine ⟨by omega, by omega, fun a ha => ⟨(h3.acl.each a ha).1.n, ?_⟩, h3.st, h3.bare.1, h3.bare.2, by omega⟩
  rcases h2 with e | ⟨q, -, -, e⟩
  ·rw [e] at ha; cases ha
  ·rw [e] at ha; simp only [List.mem_singleton] at ha; subst ha; show wldZ.length ≤ 4096; decide
 ·obtain ⟨h1, h2, h3⟩ := hw.ss x hx
  refine ⟨h1, h2, ?_⟩
  have := Hist.secret h x hx
  omega
theorem Hist.whole {es : List En} {τ : Tr} (h : Hist 1 es τ) : wholeZ τ := fun p hp => by
 by_cases e : p = [47]
 ·exact .inl e
 ·exact .inr (h.inv.closed p (al_isSome.2 hp) e)
/-! ### Restored -/
end Go.Proofs.YtgppfpmmijbncaaGreatDoor
