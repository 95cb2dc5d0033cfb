/- Own work: snapFuzzy.proved: the given second form, from the walk in the other texts, for arguments of bounded bulk. -/
import Derived.Test.YtgppfpmmijbncaaGreatDoorCSFuzzyP3
import Derived.Test.YtgppfpmmijbncaaGreatDoorCSFuzzyP2
import Derived.Test.YtgppfpmmijbncaaGreatDoorCSFuzzyP1
import Derived.Test.YtgppfpmmijbncaaGreatDoorCSFuzzyP0
import Derived.Test.YtgppfpmmijbncaaGreatDoorRows
import Derived.WalkKit
import Derived.ProofKit
import Derived.OpenShut
import Derived.JoinedCond
import Derived.Carry
import Derived.Deep.Grids
import Derived.Handed
import Derived.Deep.Strs
import Derived.Test.YtgppfpmmijbncaaGreatDoorCards
import Derived.Test.YtgppfpmmijbncaaGreatDoorTie
import Derived.Deep.DeepHandedRow
import Derived.Lib.LaidTab
set_option maxRecDepth 100000
namespace Go.Proofs.YtgppfpmmijbncaaGreatDoor
open Go
theorem nums8_len {ns : List Int} (h : ∀ n ∈ ns, I64 n) : (ns.flatMap numB).length ≤ ns.length * 10 := fm_most8 fun n hn => numB_len8 (h n hn)
def nd8 (z : Rno) : Bs := ndB (z.1, z.2.2)
theorem nd8_all (l : List Rno) : l.flatMap nd8 = (ndsZ l).flatMap ndB := by unfold ndsZ; rw [List.flatMap_map]; rfl
theorem nd8_len {l : List Rno} (h : ∀ z ∈ l, PnW (z.1, z.2.2)) (hl : l.length ≤ 1048576) : (l.flatMap nd8).length ≤ 36909875200000 := by
 rw [nd8_all]
 exact nodes_len8 (fun y hy => by obtain ⟨z, hz, rfl⟩ := List.mem_map.1 hy; exact h z hz) (by unfold ndsZ; rw [List.length_map]; exact hl)
theorem lay_all {zx : Int} {l : List Rno} {ss : SsM} : txtB headB ++ numB zx ++ cntB l.length ++ l.flatMap nd8 ++ cntB ss.length ++ ss.flatMap ssB = layB zx (ndsZ l) ss := by
 unfold layB nodesB sessB
 rw [nd8_all, show (ndsZ l).length = l.length from List.length_map _]
 simp only [List.append_assoc]
theorem nd8_step (t : Bs) (z : Rno) : t ++ txtB z.1 ++ txtB z.2.2.data ++ cntB z.2.2.acl.length ++ z.2.2.acl.flatMap acB ++ (nums7 z.2.2.st).flatMap numB = t ++ nd8 z := by
 unfold nd8 ndB aclB
 simp only [List.append_assoc]
theorem ss8_step (t : Bs) (x : SN) : t ++ [x.1, x.2.1].flatMap numB ++ txtB x.2.2 = t ++ ssB x := by
 unfold ssB
 simp [List.append_assoc]
theorem r8nums_spec (va : Value) (ns : List Int) (p : HP) (hp : ∀ h : Hp, p h → rdS 1 h va ns.length (ints ns)) (hi : ∀ n ∈ ns, I64 n) (hl : ns.length ≤ 1048576) : Fn Tryz.prog 118 #[va] [p] fun v L => v = vstr (ns.flatMap numB) ∧ L = [p] := by
 refine Fn.intro Tryz.func118 rfl rfl fun F W => ?_
 have hnl := nums8_len hi
 refine .rdAny (p := p) hp (by repeat' constructor) fun aa ca e _ => ?_
 subst e
 refine .sr (.an rfl (.sr (.an rfl (.seq (.sr (.an rfl (.block (.loopK (ι := Nat × Bs) (fun q E => (4, vint q.1) :: (3, vstr q.2) :: E) (fun q => []) (fun q => q.1 ≤ ns.length ∧ q.2 = (ns.take q.1).flatMap numB) (fun q => ns.length - q.1) (0, []) (ts := [0, 2]) (.cons rfl (.cons rfl (.nil))) (⟨Nat.zero_le _, rfl⟩) ⟨rfl, rfl, rfl, rfl, trivial⟩ (by repeat' constructor) ?_))))))))
 rintro ⟨i, t⟩ ⟨hj, ht⟩
 dsimp only
 dsimp only at hj ht
 have hft := fm_take numB ns i
 rw [← ht] at hft
 refine .seq (.sm rfl (.m rfl (.q (.slen rfl Tryz.underlying45 rfl) rfl (.ui rfl rfl rfl (.nt (.condD rfl (fun h8 => ?_) (fun h8 => ?_)))))))
 ·have hi2 : i < ns.length := by omega
  have h64 := hi _ (List.getElem_mem hi2)
  have hb10 := numB_len8 h64
  refine .rdShape (p := p) hp (by repeat' constructor) (by omega) fun ba oa e => ?_
  subst e
  refine .sk (.seq (.block (.region (.m rfl (.m rfl (.m rfl (.q (.indexAddr rfl rfl el_45 (by omega)) rfl (.q (.loadEl (p := p) (i := i * 1) (v := vint ns[i]) rfl ag_3 (by repeat' constructor) hp (by rw [Nat.mul_one]; simp [ints, hi2])) rfl (.cv Tryz.func116 [_] (r1num_spec ns[i] h64) ?_)))))))))
  refine .q (.concat rfl rfl (by omega)) rfl (.a rfl (.nil (.blk_n (.then_n (.region (.m rfl (.q (.add rfl rfl (by omega)) rfl (.an rfl ?_))))))))
  exact .rk ((i + 1, t ++ numB ns[i])) (⟨by dsimp only; omega, by dsimp only; rw [fm_step numB hi2, ht]⟩) (by dsimp only; omega) ⟨rfl, rfl, rfl, rfl, trivial⟩
 have hie : i = ns.length := by omega
 have hfin : t = ns.flatMap numB := by rw [ht, hie, List.take_length]
 subst hfin
 refine .exit (.then_e (.then_e (.blk_e (.then_n (.sm rfl (.an rfl (.ret ?_)))))))
 exact .vv
set_option maxHeartbeats 1000000 in
theorem rlay8_spec (zx : Int) (u us : Value) (l : List Rno) (ss : SsM) (hzx : I64 zx) (hl : l.length ≤ 1048576) (hw : ∀ z ∈ l, PnW (z.1, z.2.2)) (hsl0 : ss.length ≤ 1048576) (hsw : ∀ x ∈ ss, SnW x) : Fn Tryz.prog 76 #[vint zx, u, us] [rnR u l, rsR us ss, bigR inA l] fun v L => v = vstr (layB zx (ndsZ l) ss) ∧ L = [rnR u l, rsR us ss, bigR inA l] := by
 refine Fn.intro Tryz.func76 rfl rfl fun F W => ?_
 refine .slAny (v := u) (by repeat' constructor) fun an cn e0 _ => ?_
 subst e0
 refine .slAny (v := us) (by repeat' constructor) fun as1 cs e0 _ => ?_
 subst e0
 obtain ⟨hd, hhd⟩ : ∃ hd, hd = txtB headB ++ numB zx ++ cntB l.length := ⟨_, rfl⟩
 have h64 : U64 = 18446744073709551616 := rfl
 have hb1 := txtB_len8 (s := headB) (by decide)
 have hb2 := numB_len8 hzx
 have hb3 : (cntB l.length).length ≤ 10 := sev_len10 (by omega)
 have hb4 : (cntB ss.length).length ≤ 10 := sev_len10 (by omega)
 have hhl : hd.length ≤ 1048606 := by rw [hhd, List.length_append, List.length_append]; omega
 have hnl := nd8_len hw hl
 have hsl : (ss.flatMap ssB).length ≤ 1099550000000 := sess_len8 hsw hsl0
 refine .sr (.an rfl (.sr (.cv Tryz.func115 [_] (r1txt_spec headB (by decide)) ?_)))
 refine .m rfl (.cv Tryz.func116 [_] (r1num_spec zx hzx) ?_)
 refine .q (.concat rfl rfl (by first | omega | (simp only [List.length_append]; omega) | (simp only [List.length_append] at *; omega))) rfl (.m rfl (.q (.slen rfl Tryz.underlying73 rfl) rfl (.cv Tryz.func117 [_] (r1cnt_spec l.length (by omega)) ?_)))
 refine .q (.concat rfl rfl (by first | omega | (simp only [List.length_append]; omega) | (simp only [List.length_append] at *; omega))) rfl (.a rfl (.nil ?_))
 rw [← hhd]
 refine .then_n (.seq (.sr (.an rfl (.block (.loopK (ι := Nat × Bs) (fun q E => (8, vint q.1) :: (7, vstr q.2) :: E) (fun q => []) (fun q => q.1 ≤ l.length ∧ q.2 = hd ++ (l.take q.1).flatMap nd8) (fun q => l.length - q.1) (0, hd) (ts := [1, 2, 6]) (.cons rfl (.cons rfl (.cons rfl (.nil)))) (⟨Nat.zero_le _, by simp⟩) ⟨rfl, rfl, rfl, rfl, rfl, trivial⟩ (by repeat' constructor) ?_)))))
 rintro ⟨i, t⟩ ⟨hi, ht⟩
 dsimp only
 dsimp only at hi ht
 have htl : t.length = hd.length + ((l.take i).flatMap nd8).length := by rw [ht, List.length_append]
 refine .seq (.sm rfl (.m rfl (.q (.slen rfl Tryz.underlying73 rfl) rfl (.ui rfl rfl rfl (.nt (.condD rfl (fun h23 => ?_) (fun h23 => ?_)))))))
 ·have hi2 : i < l.length := by omega
  have hfs := fm_stepL nd8 hi2
  have hz := hw _ (List.getElem_mem hi2)
  refine .rdAny (p := bigR inA l) (big_rd hi2) (by repeat' constructor) fun aa ca ea _ => ?_
  have hrd : ∀ h : Hp, bigR inA l h → rdS 2 h (.slice aa l[i].2.2.acl.length ca) l[i].2.2.acl.length (l[i].2.2.acl.flatMap acC) := fun h hp => by have g := big_rd hi2 h hp; rw [ea] at g; exact g
  have hzl := hz.len
  have hzp := txtB_len8 (s := l[i].1) (by have := hz.p; dsimp only at this; omega)
  have hzd := txtB_len8 (s := l[i].2.2.data) hz.d
  have hzf : l[i].2.2.acl.length ≤ 1048576 := hz.acl.few
  have hzc : (cntB l[i].2.2.acl.length).length ≤ 10 := sev_len10 (by omega)
  have hza : (l[i].2.2.acl.flatMap acB).length ≤ 33000000 := by have h := hz.acl.long; unfold aclB at h; rw [List.length_append] at h; dsimp only at h; omega
  have hzn := nums8_len hz.st
  have hzn7 : (nums7 l[i].2.2.st).length = 7 := rfl
  try dsimp only at hzn
  refine .slShape (T := 129) (sz := 12) (v := .slice an l.length cn) (xs := l.flatMap rnC) (by repeat' constructor) (by omega) fun bn bn' e0 mbn _ => ?_
  simp only [Value.slice.injEq, true_and] at e0
  obtain ⟨rfl, rfl⟩ := e0
  refine .sk (.seq (.block (.seq (.draw [] [[0, 1, 2, 3, 4, 5, 6, 7, 8, 9, 10, 11, 12, 13, 14, 15, 16, 17, 18, 19, 20, 21, 22, 23]] mixed (by kernel_rfl) (.go [rnR _ l] (by repeat' constructor) (.mv rfl rfl (.mv rfl rfl (.mv rfl rfl (.kv rfl (.indexAddr rfl rfl el_73 (by omega)) (.kv rfl (.fieldAddr rfl fo_129_0) (.kv rfl (.loadRd (sz := 12) (j := i * 12 + 0) (p := rnR _ l) rfl ag_9 (by repeat' constructor) (fun h hp => slR_rd hp) (by omega) ((rn_cell (l := l) (i := i) (k := 0) (by omega) (by decide)).trans rfl)) (.m rfl (by kernel_rfl) (.c Tryz.func115 [_] (r1txt_spec l[i].1 (by have := hz.p; dsimp only at this; omega))) (by repeat' constructor) ?_))))))))))))
  refine D.kv rfl (.concat rfl rfl (by first | omega | (simp only [List.length_append]; omega) | (simp only [List.length_append] at *; omega))) (.mv rfl rfl (.mv rfl rfl (.kv rfl (.indexAddr rfl rfl el_73 (by omega)) (.kv rfl (.fieldAddr rfl fo_129_1) (.kv rfl (.loadRd (sz := 12) (j := i * 12 + 1) (p := rnR _ l) rfl ag_9 (by repeat' constructor) (fun h hp => slR_rd hp) (by omega) ((rn_cell (l := l) (i := i) (k := 1) (by omega) (by decide)).trans rfl)) (.m rfl (by kernel_rfl) (.c Tryz.func115 [_] (r1txt_spec l[i].2.2.data (by have := hz.d; dsimp only at this; omega))) (by repeat' constructor) ?_))))))
  refine D.kv rfl (.concat rfl rfl (by first | omega | (simp only [List.length_append]; omega) | (simp only [List.length_append] at *; omega))) (.mv rfl rfl (.mv rfl rfl (.kv rfl (.indexAddr rfl rfl el_73 (by omega)) (.kv rfl (.fieldAddr rfl fo_129_2) (.kv rfl (.to (v' := .slice aa l[i].2.2.acl.length ca) (.loadRd (sz := 12) (j := i * 12 + 2) (p := rnR _ l) rfl ag_34 (by repeat' constructor) (fun h hp => slR_rd hp) (by omega) ((rn_cell (l := l) (i := i) (k := 2) (by omega) (by decide)).trans rfl)) ea) (.kv rfl (.slen rfl Tryz.underlying34 rfl) (.m rfl (by kernel_rfl) (.c Tryz.func117 [_] (r1cnt_spec l[i].2.2.acl.length (by omega))) (by repeat' constructor) ?_)))))))
  refine D.kv rfl (.concat rfl rfl (by first | omega | (simp only [List.length_append]; omega) | (simp only [List.length_append] at *; omega))) (.kv rfl (.assign rfl) (.pf (.seq (.sr (.an rfl (.block (.loopK (ι := Nat × Bs) (fun q E => (9, vint q.1) :: (7, vstr q.2) :: E) (fun q => []) (fun q => q.1 ≤ l[i].2.2.acl.length ∧ q.2 = (t ++ txtB l[i].1 ++ txtB l[i].2.2.data ++ cntB l[i].2.2.acl.length) ++ (l[i].2.2.acl.take q.1).flatMap acB) (fun q => l[i].2.2.acl.length - q.1) (0, (t ++ txtB l[i].1 ++ txtB l[i].2.2.data ++ cntB l[i].2.2.acl.length)) (ts := [1, 2, 6, 8, 20, 21, 22, 23, 26, 27, 28, 29, 30, 31, 32, 33, 34, 35, 36, 37, 38, 39, 40, 41, 42, 43, 44, 45, 46, 47, 48]) (.cons rfl (.cons rfl (.cons rfl (.cons rfl (.cons rfl (.cons rfl (.cons rfl (.cons rfl (.cons rfl (.cons rfl (.cons rfl (.cons rfl (.cons rfl (.cons rfl (.cons rfl (.cons rfl (.cons rfl (.cons rfl (.cons rfl (.cons rfl (.cons rfl (.cons rfl (.cons rfl (.cons rfl (.cons rfl (.cons rfl (.cons rfl (.cons rfl (.cons rfl (.cons rfl (.cons rfl (.nil)))))))))))))))))))))))))))))))) (⟨Nat.zero_le _, by simp⟩) ⟨rfl, rfl, rfl, rfl, rfl, rfl, rfl, rfl, rfl, rfl, rfl, rfl, rfl, rfl, rfl, rfl, rfl, rfl, rfl, rfl, rfl, rfl, rfl, rfl, rfl, rfl, rfl, rfl, rfl, rfl, rfl, rfl, rfl, trivial⟩ (by repeat' constructor) ?_)))))))
  rintro ⟨j, s⟩ ⟨hj, hs⟩
  dsimp only
  dsimp only at hj hs
  have hfj := fm_take acB l[i].2.2.acl j
  have hsl2 : s.length ≤ 36912000000000 := by rw [hs]; simp only [List.length_append]; omega
  refine .seq (.sm rfl (.m rfl (.m rfl (.q (.indexAddr rfl rfl el_73 (by omega)) rfl (.u (.fieldAddr rfl fo_129_2) (.q (.to (v' := .slice aa l[i].2.2.acl.length ca) (.loadRd (sz := 12) (j := i * 12 + 2) (p := rnR _ l) rfl ag_34 (by repeat' constructor) (fun h hp => slR_rd hp) (by omega) ((rn_cell (l := l) (i := i) (k := 2) (by omega) (by decide)).trans rfl)) ea) rfl (.q (.slen rfl Tryz.underlying34 rfl) rfl (.ui rfl rfl rfl (.nt (.condD rfl (fun h56 => ?_) (fun h56 => ?_)))))))))))
  ·have hj2 : j < l[i].2.2.acl.length := by omega
   have hai := (hz.acl.each _ (List.getElem_mem hj2)).1
   have has := (hz.acl.each _ (List.getElem_mem hj2)).2
   have hn64 := hai.n
   try dsimp only at hn64 has
   have hnb := numB_len8 hn64
   have htb := txtB_len8 has
   refine .rdShape (p := bigR inA l) hrd (by repeat' constructor) (by omega) fun ba oa e1 => ?_
   subst e1
   refine .sk (.seq (.block (.draw [] [[0, 1, 2, 3, 4, 5, 6, 7, 8, 9, 10, 11, 12, 13, 14, 15, 16, 17, 18, 19, 20, 21, 22, 23]] mixed (by kernel_rfl) (.go [rnR _ l, bigR inA l] (by repeat' constructor) (.mv rfl rfl (.mv rfl rfl (.mv rfl rfl (.kv rfl (.indexAddr rfl rfl el_73 (by omega)) (.kv rfl (.fieldAddr rfl fo_129_2) (.kv rfl (.to (v' := .slice (some ⟨ba, oa, none⟩) l[i].2.2.acl.length ca) (.loadRd (sz := 12) (j := i * 12 + 2) (p := rnR _ l) rfl ag_34 (by repeat' constructor) (fun h hp => slR_rd hp) (by omega) ((rn_cell (l := l) (i := i) (k := 2) (by omega) (by decide)).trans rfl)) ea) (.mv rfl rfl (.kv rfl (.indexAddr rfl rfl el_34 (by omega)) (.kv rfl (.fieldAddr rfl fo_90_0) (.kv rfl (.loadRd (sz := 2) (j := j * 2 + 0) (p := bigR inA l) (v := vint l[i].2.2.acl[j].1) rfl ag_3 (by repeat' constructor) hrd (by simp) ((flatMap_cell (f := acC) (sz := 2) (k := 0) (fun _ _ => rfl) hj2 (by decide)).trans rfl)) ?_))))))))))))))
   refine D.m rfl (by kernel_rfl) (.c Tryz.func116 [_] (r1num_spec l[i].2.2.acl[j].1 hn64)) (by repeat' constructor) ?_
   refine D.kv rfl (.concat rfl rfl (by first | omega | (simp only [List.length_append]; omega) | (simp only [List.length_append] at *; omega))) (.mv rfl rfl (.mv rfl rfl (.kv rfl (.indexAddr rfl rfl el_73 (by omega)) (.kv rfl (.fieldAddr rfl fo_129_2) (.kv rfl (.to (v' := .slice (some ⟨ba, oa, none⟩) l[i].2.2.acl.length ca) (.loadRd (sz := 12) (j := i * 12 + 2) (p := rnR _ l) rfl ag_34 (by repeat' constructor) (fun h hp => slR_rd hp) (by omega) ((rn_cell (l := l) (i := i) (k := 2) (by omega) (by decide)).trans rfl)) ea) (.mv rfl rfl (.kv rfl (.indexAddr rfl rfl el_34 (by omega)) (.kv rfl (.fieldAddr rfl fo_90_1) (.kv rfl (.loadRd (sz := 2) (j := j * 2 + 1) (p := bigR inA l) (v := vstr l[i].2.2.acl[j].2) rfl ag_9 (by repeat' constructor) hrd (by simp; omega) ((flatMap_cell (f := acC) (sz := 2) (k := 1) (fun _ _ => rfl) hj2 (by decide)).trans rfl)) (.m rfl (by kernel_rfl) (.c Tryz.func115 [_] (r1txt_spec l[i].2.2.acl[j].2 (by omega))) (by repeat' constructor) ?_))))))))))
   refine D.kv rfl (.concat rfl rfl (by first | omega | (simp only [List.length_append]; omega) | (simp only [List.length_append] at *; omega))) (.kv rfl (.assign rfl) (.ph (.fin (.blk_n (.then_n (.region (.m rfl (.q (.add rfl rfl (by omega)) rfl (.an rfl ?_)))))))))
   exact .rk ((j + 1, s ++ numB l[i].2.2.acl[j].1 ++ txtB l[i].2.2.acl[j].2)) (⟨by dsimp only; omega, by dsimp only; rw [fm_step acB hj2, hs]; unfold acB; simp only [List.append_assoc]⟩) (by dsimp only; omega) ⟨rfl, rfl, rfl, rfl, rfl, rfl, rfl, rfl, rfl, rfl, rfl, rfl, rfl, rfl, rfl, rfl, rfl, rfl, rfl, rfl, rfl, rfl, rfl, rfl, rfl, rfl, rfl, rfl, rfl, rfl, rfl, rfl, rfl, trivial⟩
  have hje : j = l[i].2.2.acl.length := by omega
  refine .exit (.then_e (.then_e (.blk_e (.then_n (.sm rfl (.m rfl (.q (.indexAddr rfl rfl el_73 (by omega)) rfl (.u (.fieldAddr rfl fo_129_3) (.q (.loadRdA (sz := 12) (j := i * 12 + 3) (k := 9) (p := rnR _ l) (vs := stC l[i].2.2.st) rfl ag_92 (by repeat' constructor) (fun h hp => slR_rd hp) (by simp) (by omega) (by omega) (rn_stat hi2)) rfl (.oq (.allocA ze_92) ?_))))))))))
  rintro v L' ⟨b10, rfl, rfl⟩
  refine .oq (.storeA rfl rfl ?c87 sz_92 ?c90 ?c88 (nfz0 _ _)) ?_
  case c87 => intro v hv; simp only [stC, List.mem_cons, List.not_mem_nil, or_false] at hv; rcases hv with rfl | rfl | rfl | rfl | rfl | rfl | rfl | rfl | rfl <;> rfl
  case c90 => rfl
  case c88 => simp [stC]
  rintro v L' rfl
  refine .nil (.ptCast (b := b10) (l' := stC l[i].2.2.st) (by repeat' constructor) rfl (.then_n (.region (.m rfl (.u (.fieldAddr rfl fo_92_0) (.u (.ld rfl ag_3) (.u (.fieldAddr rfl fo_92_1) (.u (.ld rfl ag_3) (.u (.fieldAddr rfl fo_92_2) (.u (.ld rfl ag_3) (.u (.fieldAddr rfl fo_92_3) (.u (.ld rfl ag_3) (.u (.fieldAddr rfl fo_92_4) (.u (.ld rfl ag_3) (.u (.fieldAddr rfl fo_92_5) (.u (.ld rfl ag_3) (.u (.fieldAddr rfl fo_92_6) (.u (.ld rfl ag_3) (.oq (.buildSlice1 (vs := [_, _, _, _, _, _, _]) el_45 ze_3 rfl rfl rfl rfl rfl (by decide)) ?_)))))))))))))))))))
  rintro v L' ⟨b11, rfl, rfl⟩
  refine .oq (.call Tryz.func118 rfl rfl (vs := [_]) rfl (r8nums_spec _ (nums7 l[i].2.2.st) (ptc b11 (ints (nums7 l[i].2.2.st)) 3) (fun h hp => slR_rd (slR_pt hp rfl)) hz.st (by rw [hzn7]; decide))) ?_
  rintro v L' ⟨rfl, rfl⟩
  refine .q (.concat rfl rfl (by first | omega | (simp only [List.length_append]; omega) | (simp only [List.length_append] at *; omega))) rfl (.a rfl (.nil (.blk_n (.then_n (.region (.m rfl (.q (.add rfl rfl (by omega)) rfl (.an rfl ?_))))))))
  exact .rk ((i + 1, s ++ (nums7 l[i].2.2.st).flatMap numB)) (⟨by dsimp only; omega, by dsimp only; rw [fm_step nd8 hi2, ← List.append_assoc, ← ht, hs, hje, List.take_length]; exact nd8_step t l[i]⟩) (by dsimp only; omega) ⟨rfl, rfl, rfl, rfl, rfl, trivial⟩
 have hie : i = l.length := by omega
 have hfin : t = hd ++ l.flatMap nd8 := by rw [ht, hie, List.take_length]
 subst hfin
 refine .exit (.then_e (.then_e (.blk_e (.then_n (.sm rfl (.m rfl (.q (.slen rfl Tryz.underlying59 rfl) rfl (.cv Tryz.func117 [_] (r1cnt_spec ss.length (by omega)) ?_))))))))
 refine .q (.concat rfl rfl (by first | omega | (simp only [List.length_append]; omega) | (simp only [List.length_append] at *; omega))) rfl (.an rfl (.seq (.sr (.an rfl (.block (.loopK (ι := Nat × Bs) (fun q E => (11, vint q.1) :: (7, vstr q.2) :: E) (fun q => []) (fun q => q.1 ≤ ss.length ∧ q.2 = (hd ++ l.flatMap nd8 ++ cntB ss.length) ++ (ss.take q.1).flatMap ssB) (fun q => ss.length - q.1) (0, (hd ++ l.flatMap nd8 ++ cntB ss.length)) (ts := [2, 6]) (.cons rfl (.cons rfl (.nil))) (⟨Nat.zero_le _, by simp⟩) ⟨rfl, rfl, rfl, rfl, trivial⟩ (by repeat' constructor) ?_))))))
 rintro ⟨q, s⟩ ⟨hq, hs⟩
 dsimp only
 dsimp only at hq hs
 have hfq := fm_take ssB ss q
 have hsl2 : s.length ≤ 38200000000000 := by rw [hs]; simp only [List.length_append]; omega
 refine .seq (.sm rfl (.m rfl (.q (.slen rfl Tryz.underlying59 rfl) rfl (.ui rfl rfl rfl (.nt (.condD rfl (fun h113 => ?_) (fun h113 => ?_)))))))
 ·have hq2 : q < ss.length := by omega
  have hx := hsw _ (List.getElem_mem hq2)
  have hxi := hx.i
  have hxt := hx.t
  have hxs := hx.s
  have hx64 : ∀ n ∈ ([ss[q].1, ss[q].2.1]), I64 n := fun n hn => by simp only [List.mem_cons, List.not_mem_nil, or_false] at hn; rcases hn with rfl | rfl; exact hxi; exact hxt
  have hxn := nums8_len hx64
  have hxb := txtB_len8 hxs
  have hx2 : ([ss[q].1, ss[q].2.1]).length = 2 := rfl
  refine .slShape (T := 127) (sz := 3) (v := .slice as1 ss.length cs) (xs := ss.flatMap rsC) (by repeat' constructor) (by omega) fun bs bs' e0 mbs _ => ?_
  simp only [Value.slice.injEq, true_and] at e0
  obtain ⟨rfl, rfl⟩ := e0
  refine .sk (.seq (.block (.draw [11, 12] [[0, 1, 2, 3, 4, 5, 6, 7, 8, 9, 10, 14, 15, 16, 17, 18, 11, 12, 13, 19], [20, 21]] mixed (by kernel_rfl) (.go [rsR _ ss] (by repeat' constructor) (.k rfl (.move rfl) (.mv rfl rfl (.mv rfl rfl (.kv rfl (.indexAddr rfl rfl el_59 (by omega)) (.kv rfl (.fieldAddr rfl fo_127_0) (.kv rfl (.loadRd (sz := 3) (j := q * 3 + 0) (p := rsR _ ss) rfl ag_3 (by repeat' constructor) (fun h hp => slR_rd hp) (by omega) ((rs_cell (l := ss) (i := q) (k := 0) (by omega) (by decide)).trans rfl)) (.mv rfl rfl (.mv rfl rfl (.kv rfl (.indexAddr rfl rfl el_59 (by omega)) (.kv rfl (.fieldAddr rfl fo_127_1) (.kv rfl (.loadRd (sz := 3) (j := q * 3 + 1) (p := rsR _ ss) rfl ag_3 (by repeat' constructor) (fun h hp => slR_rd hp) (by omega) ((rs_cell (l := ss) (i := q) (k := 1) (by omega) (by decide)).trans rfl)) ?_)))))))))))))))
  refine D.k rfl (.move rfl) (.k rfl (.move rfl) (.k rfl (.indexAddr rfl rfl el_59 (by omega)) (.k rfl (.fieldAddr rfl fo_127_2) (.k rfl (.loadRd (sz := 3) (j := q * 3 + 2) (p := rsR _ ss) rfl ag_9 (by repeat' constructor) (fun h hp => slR_rd hp) (by omega) ((rs_cell (l := ss) (i := q) (k := 2) (by omega) (by decide)).trans rfl)) (.hh rfl (.buildSlice1 (vs := [_, _]) el_45 ze_3 rfl rfl rfl rfl rfl (by decide)) ?_)))))
  rintro v L' ⟨b16, rfl, rfl⟩
  refine D.hh rfl (.call Tryz.func118 rfl rfl (vs := [_]) rfl (r8nums_spec _ ([ss[q].1, ss[q].2.1]) (ptc b16 (ints ([ss[q].1, ss[q].2.1])) 3) (fun h hp => slR_rd (slR_pt hp rfl)) hx64 (by rw [hx2]; decide))) ?_
  rintro v L' ⟨rfl, rfl⟩
  refine D.kv rfl (.concat rfl rfl (by first | omega | (simp only [List.length_append]; omega) | (simp only [List.length_append] at *; omega))) (.m rfl (by kernel_rfl) (.c Tryz.func115 [_] (r1txt_spec ss[q].2.2 (by omega))) (by repeat' constructor) ?_)
  refine D.ph (.g0 (.kv rfl (.concat rfl rfl (by first | omega | (simp only [List.length_append]; omega) | (simp only [List.length_append] at *; omega))) (.kv rfl (.assign rfl) (.ph (.fin (.blk_n (.then_n (.region (.m rfl (.q (.add rfl rfl (by omega)) rfl (.an rfl ?_)))))))))))
  exact .rk ((q + 1, s ++ ([ss[q].1, ss[q].2.1]).flatMap numB ++ txtB ss[q].2.2)) (⟨by dsimp only; omega, by dsimp only; rw [fm_step ssB hq2, ← List.append_assoc, ← hs]; exact ss8_step s ss[q]⟩) (by dsimp only; omega) ⟨rfl, rfl, rfl, rfl, trivial⟩
 have hqe : q = ss.length := by omega
 have hfin : s = layB zx (ndsZ l) ss := by rw [hs, hqe, List.take_length, hhd]; exact lay_all
 subst hfin
 refine .exit (.then_e (.then_e (.blk_e (.then_n (.sm rfl (.an rfl (.ret ?_)))))))
 exact .vv
def rawN (τ : Tr) (z : Rno) : Tr := layZ τ z.1 z.2.2.data z.2.2.acl z.2.2.st
def rawS (τ : Tr) (x : SN) : Tr := layS τ x.1 x.2.1 x.2.2
def rawNs (l : List Rno) : Tr := l.foldl rawN newT
def rawSs (l : List Rno) (ss : SsM) : Tr := ss.foldl rawS (rawNs l)
def rawZ (l : List Rno) (ss : SsM) (zx : Int) : Tr := zxT (rawSs l ss) zx
theorem rawN_step {l : List Rno} {i : Nat} (hi : i < l.length) : rawNs (l.take (i + 1)) = rawN (rawNs (l.take i)) l[i] := by
 unfold rawNs; rw [List.take_succ_eq_append_getElem hi, List.foldl_append]; rfl
theorem rawS_step (l : List Rno) {ss : SsM} {i : Nat} (hi : i < ss.length) : rawSs l (ss.take (i + 1)) = rawS (rawSs l (ss.take i)) ss[i] := by
 unfold rawSs; rw [List.take_succ_eq_append_getElem hi, List.foldl_append]; rfl
structure RnW (z : Rno) : Prop where
 d : z.2.2.data.length ≤ 1048576
 p : z.1.length ≤ 1048576
 acl : AclW z.2.2.acl
 st : ∀ n ∈ nums7 z.2.2.st, I64 n
structure RawA (p : HP) (u us : Value) (l : List Rno) (ss : SsM) (zx : Int) : Prop where
 cN : ∀ h : Hp, p h → rdS 12 h u l.length (l.flatMap rnC)
 cS : ∀ h : Hp, p h → rdS 3 h us ss.length (ss.flatMap rsC)
 acl : ∀ z ∈ l, ∀ h : Hp, p h → rdS 2 h z.2.1 z.2.2.acl.length (z.2.2.acl.flatMap acC)
 cell : ∀ z ∈ l, isCell z.2.1 = true
 few : 1 + l.length + ss.length ≤ 1048576
 w : ∀ z ∈ l, RnW z
 sw : ∀ x ∈ ss, SnW x
 num : I64 zx
theorem TrW.rawN {τ : Tr} (h : TrW τ) {z : Rno} (hz : RnW z) : TrW (Go.Proofs.YtgppfpmmijbncaaGreatDoor.rawN τ z) := by
 unfold Go.Proofs.YtgppfpmmijbncaaGreatDoor.rawN layZ
 split
 ·rename_i hc
  refine ⟨fun y hy => ?_, h.ss, h.zx⟩
  rcases sset_mem hy with rfl | hy
  ·exact ⟨able_len (check_able hc), hz.d, hz.acl, fun n hn => hz.st n hn, rfl, rfl⟩
  ·exact h.nd y hy
 ·exact h
theorem TrW.rawS {τ : Tr} (h : TrW τ) {x : SN} (hx : SnW x) : TrW (Go.Proofs.YtgppfpmmijbncaaGreatDoor.rawS τ x) := by
 unfold Go.Proofs.YtgppfpmmijbncaaGreatDoor.rawS layS
 split
 ·refine ⟨h.nd, fun y hy => ?_, h.zx⟩
  rcases sset_mem hy with rfl | hy
  ·exact hx
  ·exact h.ss y hy
 ·exact h
theorem rawNs_w : ∀ {l : List Rno} {τ : Tr} {N : Nat}, τ.Ok N → TrW τ → (∀ z ∈ l, RnW z) → (l.foldl rawN τ).Ok (N + l.length) ∧ TrW (l.foldl rawN τ)
 | [], _, _, h, hw, _ => ⟨h, hw⟩
 | z :: l, τ, N, h, hw, hl => by
  have h1 : (rawN τ z).Ok (N + 1) := h.layZ _ _ _ (hl z List.mem_cons_self).acl.few
  have h2 := rawNs_w (l := l) h1 (hw.rawN (hl z List.mem_cons_self)) (fun x hx => hl x (List.mem_cons_of_mem _ hx))
  exact ⟨h2.1.more (by rw [List.length_cons]; omega), h2.2⟩
theorem rawSs_w : ∀ {l : SsM} {τ : Tr} {N : Nat}, τ.Ok N → TrW τ → (∀ x ∈ l, SnW x) → (l.foldl rawS τ).Ok (N + l.length) ∧ TrW (l.foldl rawS τ)
 | [], _, _, h, hw, _ => ⟨h, hw⟩
 | x :: l, τ, N, h, hw, hl => by
  have h1 : (rawS τ x).Ok (N + 1) := by
   unfold rawS layS
   split
   ·rename_i hi; exact h.openS hi _ _
   ·exact h.more (by omega)
  have h2 := rawSs_w (l := l) h1 (hw.rawS (hl x List.mem_cons_self)) (fun y hy => hl y (List.mem_cons_of_mem _ hy))
  exact ⟨h2.1.more (by rw [List.length_cons]; omega), h2.2⟩
theorem RawA.nok {p : HP} {u us : Value} {l : List Rno} {ss : SsM} {zx : Int} (h : RawA p u us l ss zx) (i : Nat) : (rawNs (l.take i)).Ok 1048576 := by
 have h1 := (rawNs_w (l := l.take i) newT_ok TrW.new (fun z hz => h.w z (List.mem_of_mem_take hz))).1
 have h2 := h.few
 exact h1.more (by rw [List.length_take]; omega)
theorem RawA.sok {p : HP} {u us : Value} {l : List Rno} {ss : SsM} {zx : Int} (h : RawA p u us l ss zx) (i : Nat) : (rawSs l (ss.take i)).Ok 1048576 := by
 have h0 := rawNs_w (l := l) newT_ok TrW.new h.w
 have h1 := (rawSs_w (l := ss.take i) h0.1 h0.2 (fun z hz => h.sw z (List.mem_of_mem_take hz))).1
 have h2 := h.few
 exact h1.more (by rw [List.length_take]; omega)
theorem RawA.ok {p : HP} {u us : Value} {l : List Rno} {ss : SsM} {zx : Int} (h : RawA p u us l ss zx) : (rawZ l ss zx).Ok 1048576 := by
 have h1 := h.sok ss.length
 rw [List.take_length] at h1
 exact h1.zx zx
theorem RawA.tw {p : HP} {u us : Value} {l : List Rno} {ss : SsM} {zx : Int} (h : RawA p u us l ss zx) : TrW (rawZ l ss zx) := by
 have h0 := rawNs_w (l := l) newT_ok TrW.new h.w
 exact ((rawSs_w (l := ss) h0.1 h0.2 h.sw).2).zxT h.num
theorem TrW.sesB {τ : Tr} (h : TrW τ) : SesB τ := fun y hy => (h.ss y hy).i.2
theorem laid8_spec (u us : Value) (l : List Rno) (ss : SsM) (zx : Int) (p : HP) (hr : RawA p u us l ss zx) : Fn Tryz.prog 25 #[.agg ([u, us, vint zx] : List Value).toArray] [p] fun v L => ∃ t x, v = .tuple #[vptr t, vptr x] ∧ L = [treeR t (rawZ l ss zx), refR x (rawZ l ss zx), p] := by
 refine Fn.intro Tryz.func25 rfl rfl fun F W => ?_
 refine .rdAny (p := p) hr.cN (by repeat' constructor) fun ua uc e0 _ => ?_
 subst e0
 refine .rdAny (p := p) hr.cS (by repeat' constructor) fun ub ud e0 _ => ?_
 subst e0
 have hrf := hr.few
 refine .sr (.oq (.box rfl) ?_)
 rintro v L' ⟨b0, rfl, rfl⟩
 refine .a rfl (.a rfl (.nil (.ptCast (b := b0) (l' := [.slice ua l.length uc, .slice ub ss.length ud, vint zx]) (by repeat' constructor) rfl (.then_n (.sr (.oq (.c Tryz.func11 [] (trnew_spec)) ?_))))))
 rintro v L' ⟨t, rfl, rfl⟩
 refine .an rfl (.sr (.oq (.c Tryz.func34 [] (rfnew_spec)) ?_))
 rintro v L' ⟨x, rfl, rfl⟩
 refine .an rfl (.seq (.sm rfl (.q (.as (v' := .bool false) (by rfl) (.ptreq rfl rfl Tryz.underlying28)) rfl (.nt (.condF rfl (.sk (.seq (.sr (.an rfl (.block (.trCast (t := t) (τ' := (rawNs (l.take 0))) (by repeat' constructor) (by rw [List.take_zero]; rfl) (.rfCast (x := x) (τ' := (rawNs (l.take 0))) (by repeat' constructor) (by rw [List.take_zero]; rfl) (.loopK (ι := Nat) (fun q E => (6, vint q) :: E) (fun q => [treeR t (rawNs (l.take q)), refR x (rawNs (l.take q))]) (fun q => q ≤ l.length) (fun q => l.length - q) (0) (ts := [1, 2, 3, 4, 5]) (.cons rfl (.cons rfl (.cons rfl (.cons rfl (.cons rfl (.nil)))))) (Nat.zero_le _) ⟨rfl, rfl, rfl, rfl, rfl, rfl, trivial⟩ (by repeat' constructor) ?_)))))))))))))
 rintro i hi
 refine .seq (.sm rfl (.u (.fieldAddr rfl fo_61_0) (.u (.ld rfl ag_58) (.q (.slen rfl Tryz.underlying58 rfl) rfl (.ui rfl rfl rfl (.nt (.condD rfl (fun h19 => ?_) (fun h19 => ?_))))))))
 ·have hi2 : i < l.length := by omega
  have hok := hr.nok i
  have hz := hr.w _ (List.getElem_mem hi2)
  have hzc := hr.cell _ (List.getElem_mem hi2)
  have hza := hr.acl _ (List.getElem_mem hi2)
  refine .rdShape (p := p) hr.cN (by repeat' constructor) (by omega) fun bn on e1 => ?_
  subst e1
  refine .sk (.seq (.block (.sr (.u (.fieldAddr rfl fo_61_0) (.u (.ld rfl ag_58) (.m rfl (.q (.indexAddr rfl rfl el_58 (by omega)) rfl (.q (.loadRdA (sz := 12) (j := i * 12) (k := 12) (p := p) (vs := rnC l[i]) rfl ag_124 (by repeat' constructor) hr.cN (by simp) (by omega) (by omega) (flatMap_at (f := rnC) (sz := 12) (fun _ _ => rfl) (by omega))) rfl (.oq (.allocA ze_124) ?_)))))))))
  rintro v L' ⟨b8, rfl, rfl⟩
  refine .oq (.storeA rfl rfl ?c23 sz_124 ?c26 ?c24 (nfz0 _ _)) ?_
  case c23 => exact rn_cells hzc
  case c26 => rfl
  case c24 => simp [rnC]
  rintro v L' rfl
  refine .nil (.ptCast (b := b8) (l' := rnC l[i]) (by repeat' constructor) (by exact rfl) (.then_n (.sm rfl (.u (.fieldAddr rfl fo_124_0) (.u (.ld rfl ag_9) (.u (.fieldAddr rfl fo_124_1) (.u (.ld rfl ag_9) (.u (.fieldAddr rfl fo_124_2) (.u (.ld rfl ag_34) (.u (.fieldAddr rfl fo_124_3) (.q (.loadAs (vs := stC l[i].2.2.st) rfl ag_92 (by repeat' constructor) (by simp [rnC, stC]) rfl) rfl (.cv Tryz.func59 [_, _, _, _, _] (trlay_spec t (rawNs (l.take i)) l[i].1 l[i].2.2.data l[i].2.1 l[i].2.2.acl l[i].2.2.st p hza hz.acl.few hz.p) ?_))))))))))))
  refine .nt (.region (.m rfl (.u (.fieldAddr rfl fo_124_0) (.u (.ld rfl ag_9) (.u (.fieldAddr rfl fo_124_1) (.u (.ld rfl ag_9) (.u (.fieldAddr rfl fo_124_2) (.u (.ld rfl ag_34) (.u (.fieldAddr rfl fo_124_3) (.q (.loadAs (vs := stC l[i].2.2.st) rfl ag_92 (by repeat' constructor) (by simp [rnC, stC]) rfl) rfl (.cv Tryz.func60 [_, _, _, _, _] (rlaynode_spec x (rawNs (l.take i)) l[i].1 l[i].2.2.data l[i].2.1 l[i].2.2.acl l[i].2.2.st p hza hz.acl.few hz.p 1048576 hok (by decide)) ?_)))))))))))
  refine .nil (.blk_n (.then_n (.region (.m rfl (.q (.add rfl rfl (by omega)) rfl (.an rfl (.trCast (t := t) (τ' := (rawNs (l.take (i + 1)))) (by repeat' constructor) (by rw [rawN_step hi2]; rfl) (.rfCast (x := x) (τ' := (rawNs (l.take (i + 1)))) (by repeat' constructor) (by rw [rawN_step hi2]; rfl) ?_))))))))
  exact .rk (i + 1) (by omega) (by omega) ⟨rfl, rfl, rfl, rfl, rfl, rfl, trivial⟩
 have hii : i = l.length := by omega
 rw [hii, List.take_length]
 refine .exit (.then_e (.then_e (.blk_e (.then_n (.seq (.sr (.an rfl (.block (.trCast (t := t) (τ' := (rawSs l (ss.take 0))) (by repeat' constructor) (by rw [List.take_zero]; rfl) (.rfCast (x := x) (τ' := (rawSs l (ss.take 0))) (by repeat' constructor) (by rw [List.take_zero]; rfl) (.loopK (ι := Nat) (fun q E => (8, vint q) :: E) (fun q => [treeR t (rawSs l (ss.take q)), refR x (rawSs l (ss.take q))]) (fun q => q ≤ ss.length) (fun q => ss.length - q) (0) (ts := [1, 2, 3, 4, 5]) (.cons rfl (.cons rfl (.cons rfl (.cons rfl (.cons rfl (.nil)))))) (Nat.zero_le _) ⟨rfl, rfl, rfl, rfl, rfl, rfl, trivial⟩ (by repeat' constructor) ?_)))))))))))
 rintro i hi
 refine .seq (.sm rfl (.u (.fieldAddr rfl fo_61_1) (.u (.ld rfl ag_59) (.q (.slen rfl Tryz.underlying59 rfl) rfl (.ui rfl rfl rfl (.nt (.condD rfl (fun h51 => ?_) (fun h51 => ?_))))))))
 ·have hi2 : i < ss.length := by omega
  have hok := hr.sok i
  refine .rdShape (p := p) hr.cS (by repeat' constructor) (by omega) fun bs os e1 => ?_
  subst e1
  refine .sk (.seq (.block (.sr (.u (.fieldAddr rfl fo_61_1) (.u (.ld rfl ag_59) (.m rfl (.q (.indexAddr rfl rfl el_59 (by omega)) rfl (.q (.loadRdA (sz := 3) (j := i * 3) (k := 3) (p := p) (vs := rsC ss[i]) rfl ag_127 (by repeat' constructor) hr.cS (by simp) (by omega) (by omega) (flatMap_at (f := rsC) (sz := 3) (fun _ _ => rfl) (by omega))) rfl (.oq (.allocA ze_127) ?_)))))))))
  rintro v L' ⟨b14, rfl, rfl⟩
  refine .oq (.storeA rfl rfl ?c65 sz_127 ?c68 ?c66 (nfz0 _ _)) ?_
  case c65 => intro v hv; simp only [rsC, List.mem_cons, List.not_mem_nil, or_false] at hv; rcases hv with rfl | rfl | rfl <;> rfl
  case c68 => rfl
  case c66 => simp [rsC]
  rintro v L' rfl
  refine .nil (.ptCast (b := b14) (l' := rsC ss[i]) (by repeat' constructor) (by exact rfl) (.then_n (.sm rfl (.u (.fieldAddr rfl fo_127_0) (.u (.ld rfl ag_3) (.u (.fieldAddr rfl fo_127_1) (.u (.ld rfl ag_3) (.u (.fieldAddr rfl fo_127_2) (.u (.ld rfl ag_9) (.cv Tryz.func61 [_, _, _, _] (trlayses_spec t (rawSs l (ss.take i)) ss[i].1 ss[i].2.1 ss[i].2.2) ?_))))))))))
  refine .nt (.region (.m rfl (.u (.fieldAddr rfl fo_127_0) (.u (.ld rfl ag_3) (.u (.fieldAddr rfl fo_127_1) (.u (.ld rfl ag_3) (.u (.fieldAddr rfl fo_127_2) (.u (.ld rfl ag_9) (.cv Tryz.func62 [_, _, _, _] (rlayses_spec x (rawSs l (ss.take i)) ss[i].1 ss[i].2.1 ss[i].2.2 1048576 hok (by decide)) ?_)))))))))
  refine .nil (.blk_n (.then_n (.region (.m rfl (.q (.add rfl rfl (by omega)) rfl (.an rfl (.trCast (t := t) (τ' := (rawSs l (ss.take (i + 1)))) (by repeat' constructor) (by rw [rawS_step _ hi2]; rfl) (.rfCast (x := x) (τ' := (rawSs l (ss.take (i + 1)))) (by repeat' constructor) (by rw [rawS_step _ hi2]; rfl) ?_))))))))
  exact .rk (i + 1) (by omega) (by omega) ⟨rfl, rfl, rfl, rfl, rfl, rfl, trivial⟩
 have hii : i = ss.length := by omega
 rw [hii, List.take_length]
 refine .exit (.then_e (.then_e (.blk_e (.then_n (.sm rfl (.u (.fieldAddr rfl fo_61_2) (.u (.ld rfl ag_3) (.cv Tryz.func63 [_, _] (trlayzx_spec t (rawSs l ss) zx) ?_))))))))
 refine .nt (.seq (.rtOpen (x := x) (τ := (rawSs l ss)) (by repeat' constructor) fun an cn as1 cs l2 hl2 => (.region (.m rfl (.u (.fieldAddr rfl fo_61_2) (.u (.ld rfl ag_3) (.nf rfl fo_87_2 (.st rfl rfl rfl sz_3 ?_))))))))
 refine .nil (.rtFold (x := x) (τ := (rawZ l ss zx)) (l := l2) hl2 (by repeat' constructor) rfl rfl rfl rfl rfl (.then_n (.sm rfl (.m rfl (.a rfl (.an rfl (.ret ?_)))))))
 exact .dn rfl rfl ⟨t, x, rfl, rfl⟩
theorem big_snoc1 {l : List Rno} {z : Rno} {h : Hp} (hs : sep [bigR inA [z], bigR inA l] h) : bigR inA (l ++ [z]) h := by
 obtain ⟨h1, h2, hd, a1, a2, p1, p2⟩ := hs
 obtain ⟨h3, b1, q⟩ := sep_head p1
 exact big_snoc ⟨h1, h2, hd, a1, a2, rdS_mono q b1, p2⟩
section
variable {W : World} {n : Nat} {ds : List Deferred} {E : Env} {L R : List HP} {X : Act → World → Prop}
theorem G.bigSnoc1 {l : List Rno} (z : Rno) (hL : Picks [bigR inA [z], bigR inA l] L R) (h : G W n ds E (bigR inA (l ++ [z]) :: R) X) : G W n ds E L X := G.fold hL (fun _ hp => big_snoc1 hp) h
theorem G.rfzCast {g x : Nat} {φ φ' : Fz} (hL : Pick (rfzR g x φ) L R) (hw : φ' = φ) (h : G W n ds E (rfzR g x φ' :: R) X) : G W n ds E L X := by
 subst hw; exact G.focus hL h
theorem G.slShape0 {T : TypeId} {sz m c : Nat} {a : Option Addr} {xs : List Value} (hL : Pick (slR T sz (.slice a m c) m xs) L R) (h : (m = 0 ∨ ∃ b, a = some ⟨b, 0, none⟩) → G W n ds E L X) : G W n ds E L X := by
 intro ac w he hk hs
 obtain ⟨h1, -, hp⟩ := sep_head (hs.pick hL)
 refine h ?_ ac w he hk hs
 rcases hp with ⟨-, h2, -⟩ | ⟨b, cap, rest, fr, hv, -⟩
 ·exact .inl h2
 ·simp only [Value.slice.injEq] at hv
  exact .inr ⟨b, hv.1⟩
end
theorem nil_ltB {p : Bs} (h : p ≠ []) : ([] : Bs) < p := by
 cases p with
 | nil => exact absurd rfl h
 | cons c p => exact List.nil_lt_cons c p
theorem rbegin8_spec (x : Nat) (τ : Tr) : Fn Tryz.prog 29 #[vptr x] [refR x τ] fun v L => ∃ g, v = vptr g ∧ L = [rfzR g x (beginZ τ), refR x τ] := by
 refine Fn.intro Tryz.func29 rfl rfl fun F W => ?_
 refine .rtOpen (x := x) (τ := τ) (by repeat' constructor) fun an cn as1 cs l hl => (.sr (.an rfl (.sm rfl (.m rfl (.nf rfl fo_87_2 (.u (.ld rfl ag_3) (.q (.to (v' := .agg ([vptr x, vint τ.zx, .slice none 0 0, .slice none 0 0, .bool false] : List Value).toArray) (.build (us := [(0, _), (1, _)]) fl_75 ze_75 rfl rfl (by simp [isCell])) rfl) rfl (.oq (.box rfl) ?_))))))))
 rintro v L' ⟨g, rfl, rfl⟩
 refine .an rfl (.ret (.rtFold (x := x) (τ := τ) (l := l) hl (by repeat' constructor) rfl rfl rfl rfl rfl (.ptCast (b := g) (l' := [vptr x, vint τ.zx, .slice none 0 0, .slice none 0 0, .bool false]) (by repeat' constructor) rfl (.add (slR_nil 129 12) (.add (slR_nil 127 3) (.add (p := bigR inA []) big_nil (.rfzFold (g := g) (x := x) (beginZ τ) (l := []) (rfl) (by repeat' constructor) rfl rfl rfl rfl rfl ?_)))))))
 exact .dn rfl rfl ⟨g, rfl, rfl⟩
theorem rtext8_spec (g x : Nat) (τ : Tr) (φ : Fz) (M : Nat) (hz : FzN τ φ M) (hM : M ≤ 1048576) : Fn Tryz.prog 32 #[vptr g] [rfzR g x φ] fun v L => v = vstr (textZ φ) ∧ L = [rfzR g x φ] := by
 refine Fn.intro Tryz.func32 rfl rfl fun F W => ?_
 refine .rfzOpen (by repeat' constructor) fun an cn as1 cs l hl => ?_
 have hll := nds_len hl
 have hlw : ∀ z ∈ l, PnW (z.1, z.2.2) := fun z hz0 => hz.nds _ (by rw [← hl]; exact List.mem_map_of_mem hz0)
 have hmy := hz.many
 have hsm := hz.sm
 refine .sr (.an rfl (.seq (.sm rfl (.nf rfl fo_75_4 (.u (.ld rfl ag_4) (.u (.not rfl) (.nt (.condB rfl (fun h7 => ?_) (fun h7 => ?_)))))))))
 ·have ha : φ.all = false := by simpa using h7
  refine .sr (.an rfl (.rt ?_))
  rw [text_no ha]
  refine .rfzFold (g := g) (x := x) φ (l := l) (hl) (by repeat' constructor) rfl rfl rfl rfl rfl ?_
  exact .vv
 have ha : φ.all = true := by simpa using h7
 refine .sk (.seq (.draw [12] [[0, 1, 2, 3, 4, 5, 6, 7, 8, 9, 10, 11, 12], [13]] mixed (by kernel_rfl) (.g0 (.mv rfl rfl (.nf rfl rfl rfl fo_75_1 (.kv rfl (.ld rfl ag_3) (.mv rfl rfl (.nf rfl rfl rfl fo_75_2 (.kv rfl (.ld rfl ag_73) (.mv rfl rfl (.nf rfl rfl rfl fo_75_3 (.kv rfl (.ld rfl ag_59) (.hh rfl (.call Tryz.func76 rfl rfl (vs := [_, _, _]) rfl (rlay8_spec φ.from' _ _ l φ.ss hz.from' (by omega) hlw (by omega) hz.ss)) ?_)))))))))))))
 rintro v L' ⟨rfl, rfl⟩; rw [show layB φ.from' (ndsZ l) φ.ss = textZ φ by unfold textZ; rw [if_pos ha, hl]]
 refine D.ph (.g0 (.kv rfl (.assign rfl) (.pf (.ret (.rfzFold (g := g) (x := x) φ (l := l) (hl) (by repeat' constructor) rfl rfl rfl rfl rfl ?_)))))
 exact .vv
set_option maxHeartbeats 1000000 in
theorem rstep8_spec (g x : Nat) (τ : Tr) (φ : Fz) (n : Int) (N M : Nat) (ho : τ.Ok N) (hN : N ≤ 1048576) (hw : TrW τ) (hz : FzN τ φ M) (hM : M ≤ 1048576) (hnm : N ≤ M) (hn : n ≤ 9223372036854775807) : Fn Tryz.prog 31 #[vptr g, vint n] [rfzR g x φ, refR x τ] fun v L => v = .bool (fzStep τ n.toNat φ).all ∧ L = [rfzR g x (fzStep τ n.toNat φ), refR x τ] := by
 refine Fn.intro Tryz.func31 rfl rfl fun F W => ?_
 have hfew := ho.few
 have hsf := ho.sfew
 have hne := path_ne ho
 refine .sr (.an rfl (.seq (.sr (.an rfl (.block (.loopK (ι := Nat) (fun q E => (5, vint q) :: E) (fun q => [rfzR g x (fzStep τ q φ), refR x τ]) (fun q => q ≤ n.toNat) (fun q => n.toNat - q) (0) (ts := [0, 1, 4]) (.cons rfl (.cons rfl (.cons rfl (.nil)))) (Nat.zero_le _) ⟨rfl, rfl, rfl, rfl, trivial⟩ (by repeat' constructor) ?_))))))
 rintro k hk
 have hzk := FzN.step hw ho (by have := ho.sfew; omega) k hz
 have hmy := hzk.many
 have hsm := hzk.sm
 refine .seq (.sm rfl (.m rfl (.ui rfl rfl rfl (.m rfl (.dec (t := 11) rfl (fun h2_11 => ?_) (fun h2_11 => ?_))))))
 ·refine .kDT (t := 10) rfl h2_11 (.rfzOpen (by repeat' constructor) fun an cn as1 cs l hl => (.grun (t := 11) rfl rfl rfl (.m rfl (.grun (t := 11) rfl rfl rfl (.u (.nilp rfl) (.grun (t := 11) rfl rfl rfl (.u (.fieldAddr rfl fo_75_4) (.grun (t := 11) rfl rfl rfl (.u (.ld rfl ag_4) (.grun (t := 11) rfl rfl rfl (.u (.not rfl) (.u (.pickT rfl rfl) (.nil (.rfzFold (g := g) (x := x) (fzStep τ k φ) (l := l) (hl) (by repeat' constructor) rfl rfl rfl rfl rfl (.then_n (.condB rfl (fun h17 => ?_) (fun h17 => ?_)))))))))))))))))
  ·have hal : (fzStep τ k φ).all = false := by simpa using h17
   have hss := hzk.none' hal
   have hsl : (fzStep τ k φ).ss.length = 0 := by rw [hss]; rfl
   refine .sk (.seq (.block (.sr (.an rfl (.seq (.joinK (ι := Nat) (fun q E => (6, vint q) :: E) (fun q => [rfzR g x (fzStep τ k φ), refR x τ]) (fun q => q ≤ τ.nodes.length ∧ ((∃ hi : q < τ.nodes.length, fzAt τ (fzStep τ k φ) = some (τ.nodes[q]'hi)) ∨ (q = τ.nodes.length ∧ fzAt τ (fzStep τ k φ) = none))) (pre := [rfzR g x (fzStep τ k φ), refR x τ]) (ts := [0, 1, 4, 5, 8, 9, 10, 11, 12, 13, 14, 15, 16, 17]) (.cons rfl (.cons rfl (.cons rfl (.cons rfl (.cons rfl (.cons rfl (.cons rfl (.cons rfl (.cons rfl (.cons rfl (.cons rfl (.cons rfl (.cons rfl (.cons rfl (.nil))))))))))))))) (by repeat' constructor) ?_ ?_))))))
   ·refine .block (.loopK (ι := Nat) (fun q E => (6, vint q) :: E) (fun q => [rfzR g x (fzStep τ k φ), refR x τ]) (fun q => q ≤ τ.nodes.length ∧ ∀ j (hj : j < τ.nodes.length), j < q → ¬ lastP (fzStep τ k φ).nds < τ.nodes[j].1) (fun q => τ.nodes.length - q) (0) (ts := [0, 1, 4, 5, 8, 9, 10, 11, 12, 13, 14, 15, 16, 17]) (.cons rfl (.cons rfl (.cons rfl (.cons rfl (.cons rfl (.cons rfl (.cons rfl (.cons rfl (.cons rfl (.cons rfl (.cons rfl (.cons rfl (.cons rfl (.cons rfl (.nil))))))))))))))) (⟨Nat.zero_le _, fun j _ h => absurd h (Nat.not_lt_zero _)⟩) ⟨rfl, rfl, rfl, rfl, rfl, rfl, rfl, rfl, rfl, rfl, rfl, rfl, rfl, rfl, rfl, trivial⟩ (by repeat' constructor) ?_)
    rintro i ⟨hi, hno⟩
    refine .seq (.seq (.rfzOpen (by repeat' constructor) fun an cn as1 cs l hl => (.rtOpen (x := x) (τ := τ) (by repeat' constructor) fun an2 cn2 as7 cs2 l2 hl2 => ?_)))
    have hll := nds_len hl
    have hll2 := nds_len hl2
    refine .slShape0 (T := 129) (sz := 12) (a := an) (m := l.length) (c := cn) (xs := l.flatMap rnC) (by repeat' constructor) fun sh1 => (.slShape0 (T := 129) (sz := 12) (a := an2) (m := l2.length) (c := cn2) (xs := l2.flatMap rnC) (by repeat' constructor) fun sh2 => (.draw [] [[0, 1, 2, 3, 4, 5, 6, 7, 8, 9, 10, 11, 12, 13, 14, 15, 16, 17, 18, 19, 20, 21, 22, 23, 24, 25, 26, 27, 28, 29, 30, 31, 32, 33, 34, 35, 36, 37, 38, 39, 40, 41, 42, 43, 44]] mixed (by kernel_rfl) (.g0 (.mv rfl rfl (.mv rfl rfl (.nf rfl rfl rfl fo_75_0 (.kv rfl (.ld rfl ag_25) (.nf rfl rfl rfl fo_87_0 (.kv rfl (.ld rfl ag_73) (.kv rfl (.slen rfl Tryz.underlying73 rfl) (.kv rfl (.int rfl rfl rfl) (.mv rfl rfl (.dec (t := 30) rfl (fun h5_30 => ?_) (fun h5_30 => ?_))))))))))))))
    ·refine D.kDT (t := 29) rfl h5_30 (.gv rfl (.move rfl) (.gv rfl (.nilp rfl) (.gv rfl (.fieldAddr rfl fo_75_2) (.gv rfl (.ld rfl ag_73) (.gv rfl (.slen rfl Tryz.underlying73 rfl) (.gv rfl (.int rfl rfl rfl) (.kv rfl (.pickT rfl rfl) (.mv rfl rfl (.dec (t := 38) rfl (fun h5_38 => ?_) (fun h5_38 => ?_))))))))))
     ·refine D.kDT (t := 36) rfl h5_38 (.kDT (t := 37) rfl h5_38 ?_)
      have hi3 : i < τ.nodes.length := by omega
      have hpi : τ.nodes[i].1 = (l2[i]'(by omega)).1 := congrArg Prod.fst (nds_get hl2 (i := i) (by omega))
      have hlp : lastP (fzStep τ k φ).nds = (l[l.length - 1]'(by omega)).1 := by rw [last_at (i := l.length - 1) (by omega)]; exact congrArg Prod.fst (nds_get hl (i := l.length - 1) (by omega))
      obtain ⟨bn2, rfl⟩ := sh2.resolve_left (by omega)
      obtain ⟨bn, rfl⟩ := sh1.resolve_left (by omega)
      refine D.gv rfl (.move rfl) (.gv rfl (.nilp rfl) (.gv rfl (.fieldAddr rfl fo_75_0) (.gv rfl (.ld rfl ag_25) (.gv rfl (.nilp rfl) (.gv rfl (.fieldAddr rfl fo_87_0) (.gv rfl (.ld rfl ag_73) (.gv rfl (.move rfl) (.gv rfl (.indexAddr rfl rfl el_73 (by omega)) (.gv rfl (.fieldAddr rfl fo_129_0) (.gv rfl (.loadRd (sz := 12) (j := i * 12 + 0) (p := rnR _ l2) rfl ag_9 (by repeat' constructor) (fun h hp => slR_rd hp) (by omega) ((rn_cell (l := l2) (i := i) (k := 0) (by omega) (by decide)).trans rfl)) (.gv rfl (.move rfl) (.gv rfl (.nilp rfl) (.gv rfl (.fieldAddr rfl fo_75_2) (.gv rfl (.ld rfl ag_73) (.gv rfl (.move rfl) (.gv rfl (.nilp rfl) (.gv rfl (.fieldAddr rfl fo_75_2) (.gv rfl (.ld rfl ag_73) (.gv rfl (.slen rfl Tryz.underlying73 rfl) (.gv rfl (.sub rfl rfl (by omega)) (.gv rfl (.indexAddr rfl rfl el_73 (by omega)) ?_)))))))))))))))))))))
      refine D.gv rfl (.fieldAddr rfl fo_129_0) (.gv rfl (.loadRd (sz := 12) (j := (l.length - 1) * 12 + 0) (p := rnR _ l) (v := vstr (l[l.length - 1]'(by omega)).1) rfl ag_9 (by repeat' constructor) (fun h hp => slR_rd hp) (by omega) ((rn_cell (l := l) (i := l.length - 1) (k := 0) (by omega) (by decide)).trans rfl)) (.gv rfl (.strle rfl rfl) (.kv rfl (.pickT rfl rfl) (.ph (.fin (.rfzFold (g := g) (x := x) (fzStep τ k φ) (l := l) (hl) (by repeat' constructor) rfl rfl rfl rfl rfl (.rtFold (x := x) (τ := τ) (l := l2) hl2 (by repeat' constructor) rfl rfl rfl rfl rfl (.then_n (.condD rfl (fun h64 => ?_) (fun h64 => ?_))))))))))
      ·refine .sk (.block (.region (.m rfl (.q (.add rfl rfl (by omega)) rfl (.a rfl (.nil (.blk_n (.then_n ?_))))))))
       exact .rk (i + 1) (⟨by omega, fun j hj hji => by by_cases e : j = i; (subst e; rw [hlp, hpi]; exact h64); exact hno j hj (by omega)⟩) (by omega) ⟨rfl, rfl, rfl, rfl, rfl, rfl, rfl, rfl, rfl, rfl, rfl, rfl, rfl, rfl, rfl, trivial⟩
      refine .exit (.then_e (.then_e (.blk_e (.then_n ?_))))
      exact .mk (i) (⟨hi, .inl ⟨hi3, find_first hi3 (by rw [hlp, hpi]; exact Classical.byContradiction fun g0 => h64 g0) hno⟩⟩) ⟨rfl, rfl, rfl, rfl, rfl, rfl, rfl, rfl, rfl, rfl, rfl, rfl, rfl, rfl, rfl, trivial⟩
     refine D.kDF (t := 36) rfl h5_38 (.kDF (t := 37) rfl h5_38 (.gz rfl (.gz rfl (.gz rfl (.gz rfl (.gz rfl (.gz rfl (.gz rfl (.gz rfl (.gz rfl (.gz rfl (.gz rfl (.gz rfl (.gz rfl (.gz rfl (.gz rfl (.gz rfl (.gz rfl (.gz rfl (.gz rfl (.gz rfl (.gz rfl (.gz rfl (.gz rfl (.gz rfl (.gz rfl (.kv rfl (.pickF rfl rfl) (.ph (.fin (.rfzFold (g := g) (x := x) (fzStep τ k φ) (l := l) (hl) (by repeat' constructor) rfl rfl rfl rfl rfl (.rtFold (x := x) (τ := τ) (l := l2) hl2 (by repeat' constructor) rfl rfl rfl rfl rfl (.then_n (.condF rfl (.exit (.then_e (.then_e (.blk_e (.then_n ?_))))))))))))))))))))))))))))))))))))))
     have hen : (fzStep τ k φ).nds = [] := List.eq_nil_of_length_eq_zero (by omega)
     have hi3 : i < τ.nodes.length := by omega
     exact .mk (i) (⟨hi, .inl ⟨hi3, find_first hi3 (by rw [hen]; exact nil_ltB (hne _ (List.getElem_mem hi3))) hno⟩⟩) ⟨rfl, rfl, rfl, rfl, rfl, rfl, rfl, rfl, rfl, rfl, rfl, rfl, rfl, rfl, rfl, trivial⟩
    refine D.kDF (t := 29) rfl h5_30 (.gz rfl (.gz rfl (.gz rfl (.gz rfl (.gz rfl (.gz rfl (.kv rfl (.pickF rfl rfl) (.mv rfl rfl (.gz rfl (.gz rfl (.gz rfl (.gz rfl (.gz rfl (.gz rfl (.gz rfl (.gz rfl (.gz rfl (.gz rfl (.gz rfl (.gz rfl (.gz rfl (.gz rfl (.gz rfl (.gz rfl (.gz rfl (.gz rfl (.gz rfl (.gz rfl (.gz rfl (.gz rfl (.gz rfl (.gz rfl (.gz rfl (.kv rfl (.pickF rfl rfl) (.ph (.fin (.rfzFold (g := g) (x := x) (fzStep τ k φ) (l := l) (hl) (by repeat' constructor) rfl rfl rfl rfl rfl (.rtFold (x := x) (τ := τ) (l := l2) hl2 (by repeat' constructor) rfl rfl rfl rfl rfl (.then_n (.condF rfl (.exit (.then_e (.then_e (.blk_e (.then_n ?_)))))))))))))))))))))))))))))))))))))))))))))
    exact .mk (i) (⟨hi, .inr ⟨by omega, find_last fun j hj => hno j hj (by omega)⟩⟩) ⟨rfl, rfl, rfl, rfl, rfl, rfl, rfl, rfl, rfl, rfl, rfl, rfl, rfl, rfl, rfl, trivial⟩
   rintro i ⟨hi, hat⟩
   refine .seq (.seq (.rfzOpen (by repeat' constructor) fun an cn as1 cs l hl => (.rtOpen (x := x) (τ := τ) (by repeat' constructor) fun an2 cn2 as7 cs2 l2 hl2 => ?_)))
   have hll2 := nds_len hl2
   refine .region (.m rfl (.m rfl (.nf rfl fo_75_0 (.u (.ld rfl ag_25) (.nf rfl fo_87_0 (.u (.ld rfl ag_73) (.q (.slen rfl Tryz.underlying73 rfl) rfl (.ui rfl rfl rfl (.nil (.rfzFold (g := g) (x := x) (fzStep τ k φ) (l := l) (hl) (by repeat' constructor) rfl rfl rfl rfl rfl (.rtFold (x := x) (τ := τ) (l := l2) hl2 (by repeat' constructor) rfl rfl rfl rfl rfl (.then_n (.condD rfl (fun h76 => ?_) (fun h76 => ?_))))))))))))))
   ·have hi3 : i < τ.nodes.length := by omega
    have he : fzAt τ (fzStep τ k φ) = some τ.nodes[i] := by rcases hat with ⟨_, h⟩ | ⟨h, _⟩; exact h; omega
    have hnx := next_yes he
    refine .seq (.rfzOpen (by repeat' constructor) fun an cn as1 cs l hl => ?_)
    have hll := nds_len hl
    refine .region (.m rfl (.nf rfl fo_75_0 (.u (.ld rfl ag_25) (.oq (.c Tryz.func81 [_] (rclone_spec x τ N ho (by omega))) ?_))))
    rintro v L' ⟨u, rfl, rfl⟩
    refine .an rfl (.seq (.rtOpen (x := u) (τ := τ) (by repeat' constructor) fun an3 cn3 as8 cs3 l3 hl3 => ?_))
    have hll3 := nds_len hl3
    have hi4 : i < l3.length := by omega
    refine .rdAny (p := bigR inA l3) (big_rd hi4) (by repeat' constructor) fun a9 c9 ea _ => ?_
    have hcl : isCell l3[i].2.1 = true := by rw [ea]; rfl
    refine .slShape (T := 129) (sz := 12) (m := l3.length) (v := .slice an3 l3.length cn3) (xs := l3.flatMap rnC) (by repeat' constructor) (by omega) fun bn3 bn3' e0 mbn3 _ => ?_
    simp only [Value.slice.injEq, true_and] at e0
    obtain ⟨rfl, rfl⟩ := e0
    refine .draw [12, 13, 16] [[0, 1, 2, 3, 4, 5, 6, 7, 8, 9, 10, 11, 12, 13], [14, 15, 16]] mixed (by kernel_rfl) (.go [ptc g _ _, ptc u _ _, rnR _ l3] (by repeat' constructor) (.k rfl (.move rfl) (.k rfl (.move rfl) (.k rfl (.nilp rfl) (.k rfl (.fieldAddr rfl fo_75_2) (.k rfl (.ld rfl ag_73) (.mv rfl rfl (.nf rfl rfl rfl fo_87_0 (.kv rfl (.ld rfl ag_73) (.mv rfl rfl (.kv rfl (.indexAddr rfl rfl el_73 (by omega)) (.kv rfl (.loadRdA (sz := 12) (j := i * 12) (k := 12) (p := rnR _ l3) (vs := rnC l3[i]) rfl ag_129 (by repeat' constructor) (fun h hp => slR_rd hp) (by omega) (by omega) (by omega) (flatMap_at (f := rnC) (sz := 12) (fun _ _ => rfl) (by omega))) (.hh rfl (.buildSlice (vs := [_]) el_73 ze_129 rfl rfl rfl rfl (by first | (simp [Value.cells]; done) | (intro v hv; simp only [List.mem_cons, List.not_mem_nil, or_false] at hv; (repeat (first | (subst hv; rfl) | (rcases hv with hv | hv; (subst hv; rfl)))))) (by decide)) ?_)))))))))))))
    rintro v L' ⟨b9_12, rfl, rfl⟩
    refine D.hh rfl (.append1 rfl rfl rfl el_73 ze_129 rfl rfl ?c87 ?c88 (Nat.le_refl _) ?c89 (by decide)) ?_
    case c87 => first | exact rn_cells hcl | (simp only [List.map_cons, List.map_nil, List.flatten_cons, List.flatten_nil, List.append_nil]; exact rn_cells hcl)
    case c88 => rfl
    case c89 => first | omega | (simp; omega)
    rintro v L' ⟨⟨a9_13, c9_13, rfl⟩, rfl⟩
    refine D.ph (.g0 (.nf rfl rfl rfl fo_75_2 (.hh rfl (.store rfl rfl rfl sz_73 ?c94 (nfz0 _ _)) ?_)))
    case c94 => first | decide | (simp; omega) | simp
    rintro v L' rfl
    refine D.ph (.fin (.bigSub (l := [l3[i]]) (m := l3) (List.singleton_sublist.2 (List.getElem_mem hi4)) (by repeat' constructor) (.bigSnoc1 (l := l) l3[i] (by repeat' constructor) ?_)))
    rw [show l.length + 1 = (l ++ [l3[i]]).length by rw [List.length_append]; rfl]
    refine .slCast (T := 129) (sz := 12) (m' := (l ++ [l3[i]]).length) (xs' := (l ++ [l3[i]]).flatMap rnC) (by repeat' constructor) rfl (by rw [List.flatMap_append]; simp; rfl) (.ptCast (b := g) (l' := [vptr x, vint (fzStep τ k φ).from', .slice a9_13 (l ++ [l3[i]]).length c9_13, .slice as1 (fzStep τ k φ).ss.length cs, .bool false]) (by repeat' constructor) (by rw [hal]; rfl) (.rfzFold (g := g) (x := x) (⟨(fzStep τ k φ).from', (fzStep τ k φ).nds ++ [τ.nodes[i]], (fzStep τ k φ).ss, false⟩ : Fz) (l := l ++ [l3[i]]) (by unfold ndsZ at hl ⊢; rw [List.map_append, hl]; show _ = _ ++ [τ.nodes[i]]; rw [nds_get hl3 hi4]; rfl) (by repeat' constructor) rfl rfl rfl rfl rfl (.then_n (.exit (.then_e (.blk_e (.then_n (.region (.m rfl (.q (.add rfl rfl (by omega)) rfl (.an rfl (.rfzCast (φ' := fzStep τ (k + 1) φ) (by repeat' constructor) (by rw [step_succ, if_neg (by rw [hal]; decide), hnx]) ?_))))))))))))
    exact .rk (k + 1) (by omega) (by omega) ⟨rfl, rfl, rfl, rfl, trivial⟩
   have he : fzAt τ (fzStep τ k φ) = none := by rcases hat with ⟨h, _⟩ | ⟨_, h⟩; omega; exact h
   have hnx := next_no he
   refine .sk (.seq (.rfzOpen (by repeat' constructor) fun an cn as1 cs l hl => (.rtOpen (x := x) (τ := τ) (by repeat' constructor) fun an2 cn2 as7 cs2 l2 hl2 => ?_)))
   have hll := nds_len hl
   refine .draw [12, 15] [[0, 1, 2, 3, 4, 5, 6, 7, 8, 9, 10, 11, 12], [13, 14, 15]] mixed (by kernel_rfl) (.go [ptc g _ _, ptc x _ _] (by repeat' constructor) (.k rfl (.move rfl) (.mv rfl rfl (.nf rfl rfl rfl fo_75_3 (.kv rfl (.ld rfl ag_59) (.mv rfl rfl (.nf rfl rfl rfl fo_75_0 (.kv rfl (.ld rfl ag_25) (.nf rfl rfl rfl fo_87_1 (.kv rfl (.ld rfl ag_59) (.hh rfl (.append (n := (fzStep τ k φ).ss.length) (m := τ.sess.length) (ys := τ.sess.flatMap rsC) (p := rsR (.slice as7 τ.sess.length cs2) τ.sess) rfl rfl rfl el_59 (.inl ⟨_, Tryz.underlying59⟩) ze_127 rfl rfl ?hc111 ?hr112 ?hb113 (by decide)) ?_)))))))))))
   case hc111 => exact rsl_cells _
   case hr112 => exact fun h hp => slR_rd hp
   case hb113 => omega
   rintro v L' ⟨⟨a10, c10, rfl⟩, rfl⟩
   refine D.ph (.g0 (.nf rfl rfl rfl fo_75_3 (.hh rfl (.store rfl rfl rfl sz_59 ?c118 (nfz0 _ _)) ?_)))
   case c118 => first | decide | (simp; omega) | simp
   rintro v L' rfl
   refine D.ph (.fin (.slCast (T := 127) (sz := 3) (m' := ((fzStep τ k φ).ss ++ τ.sess).length) (xs' := ((fzStep τ k φ).ss ++ τ.sess).flatMap rsC) (by repeat' constructor) (by rw [List.length_append]) (by rw [List.flatMap_append]) (.ptCast (b := g) (l' := [vptr x, vint (fzStep τ k φ).from', .slice an l.length cn, .slice a10 ((fzStep τ k φ).ss.length + τ.sess.length) c10, .bool (fzStep τ k φ).all]) (by repeat' constructor) rfl (.then_n (.region (.m rfl (.nf rfl fo_75_4 (.st rfl rfl rfl sz_4 ?_))))))))
   refine .nil (.rtFold (x := x) (τ := τ) (l := l2) hl2 (by repeat' constructor) rfl rfl rfl rfl rfl (.rfzFold (g := g) (x := x) (⟨(fzStep τ k φ).from', (fzStep τ k φ).nds, (fzStep τ k φ).ss ++ τ.sess, true⟩ : Fz) (l := l) (v1 := .slice an l.length cn) (v2 := .slice a10 ((fzStep τ k φ).ss.length + τ.sess.length) c10) (k1 := l.length) (y1 := l.flatMap rnC) (k2 := ((fzStep τ k φ).ss ++ τ.sess).length) (y2 := ((fzStep τ k φ).ss ++ τ.sess).flatMap rsC) (hl) (by repeat' constructor) rfl rfl rfl rfl rfl (.blk_n (.then_n (.region (.m rfl (.q (.add rfl rfl (by omega)) rfl (.an rfl (.rfzCast (φ' := fzStep τ (k + 1) φ) (by repeat' constructor) (by rw [step_succ, if_neg (by rw [hal]; decide), hnx]) ?_)))))))))
   exact .rk (k + 1) (by omega) (by omega) ⟨rfl, rfl, rfl, rfl, trivial⟩
  refine .exit (.then_e (.then_e (.blk_e (.then_n (.seq (.rfzOpen (by repeat' constructor) fun an cn as1 cs l hl => (.region (.m rfl (.nf rfl fo_75_4 (.u (.ld rfl ag_4) (.a rfl (.nil (.rfzFold (g := g) (x := x) (fzStep τ k φ) (l := l) (hl) (by repeat' constructor) rfl rfl rfl rfl rfl (.then_n (.ret ?_)))))))))))))))
  have hal : (fzStep τ k φ).all = true := by simpa using h17
  have hkn : fzStep τ n.toNat φ = (fzStep τ k φ) := by rw [show n.toNat = k + (n.toNat - k) by omega, step_add, step_all _ _ hal]
  rw [hkn]
  exact .vv
 refine .kDF (t := 10) rfl h2_11 (.gk (.gk (.gk (.gk (.gk (.u (.pickF rfl rfl) (.nt (.condF rfl (.exit (.then_e (.then_e (.blk_e (.then_n (.seq (.rfzOpen (by repeat' constructor) fun an cn as1 cs l hl => (.region (.m rfl (.nf rfl fo_75_4 (.u (.ld rfl ag_4) (.a rfl (.nil (.rfzFold (g := g) (x := x) (fzStep τ k φ) (l := l) (hl) (by repeat' constructor) rfl rfl rfl rfl rfl (.then_n (.ret ?_))))))))))))))))))))))))
 have hkn : k = n.toNat := by omega
 subst hkn
 exact .vv
structure Fa where
 kind : Int
 n : Int
 e : En
def faC (a : Fa) : List Value := [vint a.kind, vint a.n] ++ enC a.e
def wtF (l : List Fa) : Nat := wtL (l.map Fa.e)
structure FaA (p : HP) (v : Value) (l : List Fa) (N : Nat) : Prop where
 cells : ∀ h : Hp, p h → rdS 13 h v l.length (l.flatMap faC)
 len : l.length ≤ 1048576
 tx : ∀ a ∈ l, TxA p a.e.x a.e.subs
 en : ∀ a ∈ l, EnN a.e
 num : ∀ a ∈ l, a.n ≤ 9223372036854775807
 room : N + wtF l ≤ 1048576
theorem fa_en {l : List Fa} {k : Nat} (hk : k < l.length) : ((l.flatMap faC).drop (k * 13 + 2)).take 11 = enC l[k].e := by
 have h := flatMap_at (f := faC) (sz := 13) (l := l) (i := k) (fun _ _ => rfl) hk
 have h2 := congrArg (List.drop 2) h
 rw [List.drop_take, List.drop_drop] at h2
 exact h2
theorem wtF_step {l : List Fa} {i : Nat} (hi : i < l.length) : wtF (l.take (i + 1)) = wtF (l.take i) + (1 + l[i].e.subs.length) := by
 unfold wtF wtL
 rw [List.take_succ_eq_append_getElem hi, List.map_append, List.map_append, List.sum_append]
 simp
theorem wtF_take (l : List Fa) (i : Nat) : wtF (l.take i) ≤ wtF l := by
 unfold wtF
 rw [List.map_take]
 exact wt_take i
theorem rfz_from {g x : Nat} {φ : Fz} (h : Hp) (hp : rfzR g x φ h) : rdS 1 h (.slice (some ⟨g, 1, none⟩) 1 1) 1 [vint φ.from'] := by
 obtain ⟨y, hy, q⟩ := hp
 obtain ⟨h1, a1, q1⟩ := sep_head q
 exact .inr ⟨g, 1, 1, _, _, _, rfl, a1 _ _ q1, rfl, by simp, Nat.le_refl _⟩
theorem RawA.okN {p : HP} {u us : Value} {l : List Rno} {ss : SsM} {zx : Int} (h : RawA p u us l ss zx) : (rawZ l ss zx).Ok (1 + l.length + ss.length) := by
 have h0 := rawNs_w (l := l) newT_ok TrW.new h.w
 exact ((rawSs_w (l := ss) h0.1 h0.2 h.sw).1).zx zx
structure FzS (τ : Tr) (φ : Fz) (N : Nat) : Prop where
 ok : τ.Ok N
 w : TrW τ
 z : FzN τ φ N
theorem FzS.app {p : HP} {τ : Tr} {φ : Fz} {N : Nat} (h : FzS τ φ N) {e : En} (ht : TxA p e.x e.subs) (he : EnN e) : FzS (appE τ e) φ (N + (1 + e.subs.length)) := ⟨apply_ok h.ok ht, h.w.app he, h.z.app e⟩
theorem FzS.step {τ : Tr} {φ : Fz} {N : Nat} (h : FzS τ φ N) (k : Nat) : FzS τ (fzStep τ k φ) N := ⟨h.ok, h.w, FzN.step h.w h.ok h.ok.sfew k h.z⟩
theorem FzS.begin {τ : Tr} {φ : Fz} {N : Nat} (h : FzS τ φ N) : FzS τ (beginZ τ) N := ⟨h.ok, h.w, .begin h.w h.ok.few⟩
theorem FzS.more {τ : Tr} {φ : Fz} {N M : Nat} (h : FzS τ φ N) (hm : N ≤ M) : FzS τ φ M := ⟨h.ok.more hm, h.w, h.z.more hm⟩
set_option maxHeartbeats 1000000 in
theorem snapFuzzy8_spec (u us va : Value) (l : List Rno) (ss : SsM) (zx : Int) (al : List Fa) (p : HP) (hr : RawA p u us l ss zx) (N0 : Nat) (hN0 : N0 = 1 + l.length + ss.length) (ha : FaA p va al N0) : Fn Tryz.prog 7 #[.agg ([u, us, vint zx] : List Value).toArray, va] [p] fun v L => v = .bool true ∧ L = [p] := by
 refine Fn.intro Tryz.func7 rfl rfl fun F W => ?_
 refine .rdAny (p := p) ha.cells (by repeat' constructor) fun aa ca e0 _ => ?_
 subst e0
 have hrok := hr.ok
 have hrw := hr.tw
 have hlen := ha.len
 have hroom := ha.room
 have hok0 : (rawZ l ss zx).Ok N0 := by rw [hN0]; exact hr.okN
 have hs0 : FzS (rawZ l ss zx) (beginZ (rawZ l ss zx)) N0 := ⟨hok0, hrw, .begin hrw hok0.few⟩
 refine .sr (.oq (.box rfl) ?_)
 rintro v L' ⟨b0, rfl, rfl⟩
 refine .a rfl (.nil (.ptCast (b := b0) (l' := [u, us, vint zx]) (by repeat' constructor) rfl (.then_n (.sr (.cv Tryz.func9 [] (awake8_spec) ?_)))))
 refine .an rfl (.sr (.q (.loadAs (vs := [u, us, vint zx]) rfl ag_61 (by repeat' constructor) (by simp) rfl) rfl (.oq (.c Tryz.func25 [_] (laid8_spec u us l ss zx p hr)) ?_)))
 rintro v L' ⟨t, x, rfl, rfl⟩
 refine .m rfl (.u (.extract rfl rfl) (.u (.extract rfl rfl) (.a rfl (.an rfl (.sm rfl (.oq (.c Tryz.func17 [_] (sbegin_spec t (rawZ l ss zx))) ?_))))))
 rintro v L' ⟨f0, rfl, rfl⟩
 refine .an rfl (.sm rfl (.oq (.c Tryz.func29 [_] (rbegin8_spec x (rawZ l ss zx))) ?_))
 rintro v L' ⟨g0, rfl, rfl⟩
 refine .an rfl (.seq (.sm rfl (.u (.not rfl) (.m rfl (.grun (t := 23) rfl rfl rfl (.m rfl (.grun (t := 23) rfl rfl rfl (.q (.as (v' := .bool false) (by rfl) (.ptreq rfl rfl Tryz.underlying28)) rfl (.u (.pickF rfl rfl) (.m rfl (.grun (t := 27) rfl rfl rfl (.m rfl (.grun (t := 27) rfl rfl rfl (.q (.as (v' := .bool false) (by rfl) (.ptreq rfl rfl Tryz.underlying47)) rfl (.u (.pickF rfl rfl) (.nt (.condF rfl (.sk (.seq (.sr (.an rfl (.block (.loopK (ι := Nat × Nat × Nat × Tr × Fz) (fun q E => (10, vint q.1) :: (8, vptr q.2.1) :: (9, vptr q.2.2.1) :: E) (fun q => [treeR t q.2.2.2.1, refR x q.2.2.2.1, fuzR q.2.1 t q.2.2.2.2, rfzR q.2.2.1 x q.2.2.2.2]) (fun q => q.1 ≤ al.length ∧ FzS q.2.2.2.1 q.2.2.2.2 (N0 + wtF (al.take q.1))) (fun q => al.length - q.1) (0, f0, g0, rawZ l ss zx, beginZ (rawZ l ss zx)) (ts := [1, 6, 7]) (.cons rfl (.cons rfl (.cons rfl (.nil)))) (⟨Nat.zero_le _, hs0.more (by omega)⟩) ⟨rfl, rfl, rfl, rfl, rfl, rfl, trivial⟩ (by repeat' constructor) ?_)))))))))))))))))))))))
 rintro ⟨i, f, g, τ, φ⟩ ⟨hi, hS⟩
 dsimp only
 dsimp only at hi hS
 have hwt := wtF_take al i
 refine .seq (.sm rfl (.m rfl (.q (.slen rfl Tryz.underlying68 rfl) rfl (.ui rfl rfl rfl (.nt (.condD rfl (fun h34 => ?_) (fun h34 => ?_)))))))
 ·have hi2 : i < al.length := by omega
  have hws := wtF_step hi2
  have hwt1 := wtF_take al (i + 1)
  have htx := ha.tx _ (List.getElem_mem hi2)
  have hen := ha.en _ (List.getElem_mem hi2)
  have hnn := ha.num _ (List.getElem_mem hi2)
  refine .rdShape (p := p) ha.cells (by repeat' constructor) (by omega) fun ba oa e1 => ?_
  subst e1
  have hok := hS.ok
  have hSs := hS.step al[i].n.toNat
  refine .sk (.seq (.block (.seq (.joinK (ι := Nat × Nat × Tr × Fz) (fun q E => (8, vptr q.1) :: (9, vptr q.2.1) :: E) (fun q => [treeR t q.2.2.1, refR x q.2.2.1, fuzR q.1 t q.2.2.2, rfzR q.2.1 x q.2.2.2]) (fun q => FzS q.2.2.1 q.2.2.2 ((N0 + wtF (al.take i)) + (1 + al[i].e.subs.length))) (pre := [treeR t τ, refR x τ, fuzR f t φ, rfzR g x φ]) (ts := [1, 6, 7, 10, 31, 32, 33, 34]) (.cons rfl (.cons rfl (.cons rfl (.cons rfl (.cons rfl (.cons rfl (.cons rfl (.cons rfl (.nil))))))))) (by repeat' constructor) ?_ ?_))))
  ·refine .sm rfl (.m rfl (.q (.indexAddr rfl rfl el_68 (by omega)) rfl (.u (.fieldAddr rfl fo_72_0) (.q (.loadRd (sz := 13) (j := i * 13 + 0) (p := p) rfl ag_3 (by repeat' constructor) ha.cells (by omega) ((flatMap_cell (f := faC) (sz := 13) (l := al) (i := i) (k := 0) (fun _ _ => rfl) (by omega) (by decide)).trans rfl)) rfl (.nt (.block (.seq (.sr (.ui rfl rfl rfl (.an rfl (.condD rfl (fun h42 => ?_) (fun h42 => ?_))))))))))))
   ·refine .sk (.condD rfl (fun h42 => ?_) (fun h42 => ?_))
    ·refine .sm rfl (.m rfl (.m rfl (.q (.indexAddr rfl rfl el_68 (by omega)) rfl (.u (.fieldAddr rfl fo_72_2) (.q (.loadRdA (sz := 13) (j := i * 13 + 2) (k := 11) (p := p) (vs := enC al[i].e) rfl ag_39 (by repeat' constructor) ha.cells (by simp; omega) (by omega) (by omega) (fa_en (by omega))) rfl (.oq (.call Tryz.func12 rfl rfl (vs := [_, _]) rfl (trapply_spec t τ al[i].e.zx al[i].e.ses al[i].e.xid al[i].e.x al[i].e.subs p htx _ hok (by omega))) ?_))))))
     rintro v L' ⟨ue, ee, rfl, he, hue, rfl⟩
     refine .nt (.region (.m rfl (.m rfl (.m rfl (.q (.indexAddr rfl rfl el_68 (by omega)) rfl (.u (.fieldAddr rfl fo_72_2) (.q (.loadRdA (sz := 13) (j := i * 13 + 2) (k := 11) (p := p) (vs := enC al[i].e) rfl ag_39 (by repeat' constructor) ha.cells (by simp; omega) (by omega) (by omega) (fa_en (by omega))) rfl (.oq (.call Tryz.func30 rfl rfl (vs := [_, _]) rfl (rapply_spec x τ al[i].e.zx al[i].e.ses al[i].e.xid al[i].e.x al[i].e.subs p htx _ hok (by omega))) ?_))))))))
     rintro v L' ⟨uf, ef, rfl, hf, huf, rfl⟩
     refine .nil (.blk_n (.then_n ?_))
     exact .mk ((f, g, appE τ al[i].e, φ)) (hS.app htx hen) ⟨rfl, rfl, rfl, rfl, rfl, rfl, rfl, rfl, rfl, rfl, trivial⟩
    refine .sr (.ui rfl rfl rfl (.an rfl (.condD rfl (fun h61 => ?_) (fun h61 => ?_))))
    ·refine .seq (.draw [6, 13] [[0, 1, 2, 3, 4, 5, 7, 8, 9, 10, 11, 12, 6], [13], [14]] mixed (by kernel_rfl) (.go [p] (by repeat' constructor) (.mv rfl rfl (.mv rfl rfl (.mv rfl rfl (.kv rfl (.indexAddr rfl rfl el_68 (by omega)) (.kv rfl (.fieldAddr rfl fo_72_1) (.kv rfl (.loadRd (sz := 13) (j := i * 13 + 1) (p := p) rfl ag_3 (by repeat' constructor) ha.cells (by omega) ((flatMap_cell (f := faC) (sz := 13) (l := al) (i := i) (k := 1) (fun _ _ => rfl) (by omega) (by decide)).trans rfl)) (.k rfl (.move rfl) (.k rfl (.move rfl) (.k rfl (.move rfl) (.k rfl (.indexAddr rfl rfl el_68 (by omega)) (.k rfl (.fieldAddr rfl fo_72_1) (.k rfl (.loadRd (sz := 13) (j := i * 13 + 1) (p := p) rfl ag_3 (by repeat' constructor) ha.cells (by omega) ((flatMap_cell (f := faC) (sz := 13) (l := al) (i := i) (k := 1) (fun _ _ => rfl) (by omega) (by decide)).trans rfl)) ?_))))))))))))))
     refine D.hh rfl (.call Tryz.func18 rfl rfl (vs := [_, _]) rfl (sstep_spec f t τ φ al[i].n _ _ hok (by omega) hS.w hS.z (by omega) (Nat.le_refl _) hnn)) ?_
     rintro v L' ⟨rfl, rfl⟩
     refine D.ph (.g0 (.hh rfl (.call Tryz.func31 rfl rfl (vs := [_, _]) rfl (rstep8_spec g x τ φ al[i].n _ _ hok (by omega) hS.w hS.z (by omega) (Nat.le_refl _) hnn)) ?_))
     rintro v L' ⟨rfl, rfl⟩
     refine D.ph (.g0 (.kv rfl (.as (v' := .bool false) (by simp) (.boolne rfl rfl Tryz.underlying4)) (.pf (.condF rfl (.skip (.blk_n (.then_n ?_)))))))
     exact .mk ((f, g, τ, fzStep τ al[i].n.toNat φ)) (hSs.more (by omega)) ⟨rfl, rfl, rfl, rfl, rfl, rfl, rfl, rfl, rfl, rfl, trivial⟩
    refine .sr (.ui rfl rfl rfl (.an rfl (.condD rfl (fun h78 => ?_) (fun h78 => ?_))))
    ·refine .sm rfl (.oq (.c Tryz.func17 [_] (sbegin_spec t τ)) ?_)
     rintro v L' ⟨f2, rfl, rfl⟩
     refine .an rfl (.sm rfl (.oq (.c Tryz.func29 [_] (rbegin8_spec x τ)) ?_))
     rintro v L' ⟨g2, rfl, rfl⟩
     refine .an rfl (.sm rfl (.q (.as (v' := .bool false) (by rfl) (.ptreq rfl rfl Tryz.underlying47)) rfl (.nt (.condF rfl (.skip (.blk_n (.then_n ?_)))))))
     exact .mk ((f2, g2, τ, beginZ τ)) ((hS.begin).more (by omega)) ⟨rfl, rfl, rfl, rfl, rfl, rfl, rfl, rfl, rfl, rfl, trivial⟩
    refine .skip (.blk_n (.then_n ?_))
    exact .mk ((f, g, τ, φ)) (hS.more (by omega)) ⟨rfl, rfl, rfl, rfl, rfl, rfl, rfl, rfl, rfl, rfl, trivial⟩
   refine .sr (.ui rfl rfl rfl (.an rfl (.condD rfl (fun h42 => ?_) (fun h42 => ?_))))
   ·refine .sk (.condD rfl (fun h42 => ?_) (fun h42 => ?_))
    ·refine .sm rfl (.m rfl (.m rfl (.q (.indexAddr rfl rfl el_68 (by omega)) rfl (.u (.fieldAddr rfl fo_72_2) (.q (.loadRdA (sz := 13) (j := i * 13 + 2) (k := 11) (p := p) (vs := enC al[i].e) rfl ag_39 (by repeat' constructor) ha.cells (by simp; omega) (by omega) (by omega) (fa_en (by omega))) rfl (.oq (.call Tryz.func12 rfl rfl (vs := [_, _]) rfl (trapply_spec t τ al[i].e.zx al[i].e.ses al[i].e.xid al[i].e.x al[i].e.subs p htx _ hok (by omega))) ?_))))))
     rintro v L' ⟨ue, ee, rfl, he, hue, rfl⟩
     refine .nt (.region (.m rfl (.m rfl (.m rfl (.q (.indexAddr rfl rfl el_68 (by omega)) rfl (.u (.fieldAddr rfl fo_72_2) (.q (.loadRdA (sz := 13) (j := i * 13 + 2) (k := 11) (p := p) (vs := enC al[i].e) rfl ag_39 (by repeat' constructor) ha.cells (by simp; omega) (by omega) (by omega) (fa_en (by omega))) rfl (.oq (.call Tryz.func30 rfl rfl (vs := [_, _]) rfl (rapply_spec x τ al[i].e.zx al[i].e.ses al[i].e.xid al[i].e.x al[i].e.subs p htx _ hok (by omega))) ?_))))))))
     rintro v L' ⟨uf, ef, rfl, hf, huf, rfl⟩
     refine .nil (.blk_n (.then_n ?_))
     exact .mk ((f, g, appE τ al[i].e, φ)) (hS.app htx hen) ⟨rfl, rfl, rfl, rfl, rfl, rfl, rfl, rfl, rfl, rfl, trivial⟩
    refine .sr (.ui rfl rfl rfl (.an rfl (.condD rfl (fun h61 => ?_) (fun h61 => ?_))))
    ·refine .seq (.draw [6, 13] [[0, 1, 2, 3, 4, 5, 7, 8, 9, 10, 11, 12, 6], [13], [14]] mixed (by kernel_rfl) (.go [p] (by repeat' constructor) (.mv rfl rfl (.mv rfl rfl (.mv rfl rfl (.kv rfl (.indexAddr rfl rfl el_68 (by omega)) (.kv rfl (.fieldAddr rfl fo_72_1) (.kv rfl (.loadRd (sz := 13) (j := i * 13 + 1) (p := p) rfl ag_3 (by repeat' constructor) ha.cells (by omega) ((flatMap_cell (f := faC) (sz := 13) (l := al) (i := i) (k := 1) (fun _ _ => rfl) (by omega) (by decide)).trans rfl)) (.k rfl (.move rfl) (.k rfl (.move rfl) (.k rfl (.move rfl) (.k rfl (.indexAddr rfl rfl el_68 (by omega)) (.k rfl (.fieldAddr rfl fo_72_1) (.k rfl (.loadRd (sz := 13) (j := i * 13 + 1) (p := p) rfl ag_3 (by repeat' constructor) ha.cells (by omega) ((flatMap_cell (f := faC) (sz := 13) (l := al) (i := i) (k := 1) (fun _ _ => rfl) (by omega) (by decide)).trans rfl)) ?_))))))))))))))
     refine D.hh rfl (.call Tryz.func18 rfl rfl (vs := [_, _]) rfl (sstep_spec f t τ φ al[i].n _ _ hok (by omega) hS.w hS.z (by omega) (Nat.le_refl _) hnn)) ?_
     rintro v L' ⟨rfl, rfl⟩
     refine D.ph (.g0 (.hh rfl (.call Tryz.func31 rfl rfl (vs := [_, _]) rfl (rstep8_spec g x τ φ al[i].n _ _ hok (by omega) hS.w hS.z (by omega) (Nat.le_refl _) hnn)) ?_))
     rintro v L' ⟨rfl, rfl⟩
     refine D.ph (.g0 (.kv rfl (.as (v' := .bool false) (by simp) (.boolne rfl rfl Tryz.underlying4)) (.pf (.condF rfl (.skip (.blk_n (.then_n ?_)))))))
     exact .mk ((f, g, τ, fzStep τ al[i].n.toNat φ)) (hSs.more (by omega)) ⟨rfl, rfl, rfl, rfl, rfl, rfl, rfl, rfl, rfl, rfl, trivial⟩
    refine .sr (.ui rfl rfl rfl (.an rfl (.condD rfl (fun h78 => ?_) (fun h78 => ?_))))
    ·refine .sm rfl (.oq (.c Tryz.func17 [_] (sbegin_spec t τ)) ?_)
     rintro v L' ⟨f2, rfl, rfl⟩
     refine .an rfl (.sm rfl (.oq (.c Tryz.func29 [_] (rbegin8_spec x τ)) ?_))
     rintro v L' ⟨g2, rfl, rfl⟩
     refine .an rfl (.sm rfl (.q (.as (v' := .bool false) (by rfl) (.ptreq rfl rfl Tryz.underlying47)) rfl (.nt (.condF rfl (.skip (.blk_n (.then_n ?_)))))))
     exact .mk ((f2, g2, τ, beginZ τ)) ((hS.begin).more (by omega)) ⟨rfl, rfl, rfl, rfl, rfl, rfl, rfl, rfl, rfl, rfl, trivial⟩
    refine .skip (.blk_n (.then_n ?_))
    exact .mk ((f, g, τ, φ)) (hS.more (by omega)) ⟨rfl, rfl, rfl, rfl, rfl, rfl, rfl, rfl, rfl, rfl, trivial⟩
   refine .sr (.ui rfl rfl rfl (.an rfl (.condD rfl (fun h42 => ?_) (fun h42 => ?_))))
   ·refine .sk (.condD rfl (fun h42 => ?_) (fun h42 => ?_))
    ·refine .sm rfl (.m rfl (.m rfl (.q (.indexAddr rfl rfl el_68 (by omega)) rfl (.u (.fieldAddr rfl fo_72_2) (.q (.loadRdA (sz := 13) (j := i * 13 + 2) (k := 11) (p := p) (vs := enC al[i].e) rfl ag_39 (by repeat' constructor) ha.cells (by simp; omega) (by omega) (by omega) (fa_en (by omega))) rfl (.oq (.call Tryz.func12 rfl rfl (vs := [_, _]) rfl (trapply_spec t τ al[i].e.zx al[i].e.ses al[i].e.xid al[i].e.x al[i].e.subs p htx _ hok (by omega))) ?_))))))
     rintro v L' ⟨ue, ee, rfl, he, hue, rfl⟩
     refine .nt (.region (.m rfl (.m rfl (.m rfl (.q (.indexAddr rfl rfl el_68 (by omega)) rfl (.u (.fieldAddr rfl fo_72_2) (.q (.loadRdA (sz := 13) (j := i * 13 + 2) (k := 11) (p := p) (vs := enC al[i].e) rfl ag_39 (by repeat' constructor) ha.cells (by simp; omega) (by omega) (by omega) (fa_en (by omega))) rfl (.oq (.call Tryz.func30 rfl rfl (vs := [_, _]) rfl (rapply_spec x τ al[i].e.zx al[i].e.ses al[i].e.xid al[i].e.x al[i].e.subs p htx _ hok (by omega))) ?_))))))))
     rintro v L' ⟨uf, ef, rfl, hf, huf, rfl⟩
     refine .nil (.blk_n (.then_n ?_))
     exact .mk ((f, g, appE τ al[i].e, φ)) (hS.app htx hen) ⟨rfl, rfl, rfl, rfl, rfl, rfl, rfl, rfl, rfl, rfl, trivial⟩
    refine .sr (.ui rfl rfl rfl (.an rfl (.condD rfl (fun h61 => ?_) (fun h61 => ?_))))
    ·refine .seq (.draw [6, 13] [[0, 1, 2, 3, 4, 5, 7, 8, 9, 10, 11, 12, 6], [13], [14]] mixed (by kernel_rfl) (.go [p] (by repeat' constructor) (.mv rfl rfl (.mv rfl rfl (.mv rfl rfl (.kv rfl (.indexAddr rfl rfl el_68 (by omega)) (.kv rfl (.fieldAddr rfl fo_72_1) (.kv rfl (.loadRd (sz := 13) (j := i * 13 + 1) (p := p) rfl ag_3 (by repeat' constructor) ha.cells (by omega) ((flatMap_cell (f := faC) (sz := 13) (l := al) (i := i) (k := 1) (fun _ _ => rfl) (by omega) (by decide)).trans rfl)) (.k rfl (.move rfl) (.k rfl (.move rfl) (.k rfl (.move rfl) (.k rfl (.indexAddr rfl rfl el_68 (by omega)) (.k rfl (.fieldAddr rfl fo_72_1) (.k rfl (.loadRd (sz := 13) (j := i * 13 + 1) (p := p) rfl ag_3 (by repeat' constructor) ha.cells (by omega) ((flatMap_cell (f := faC) (sz := 13) (l := al) (i := i) (k := 1) (fun _ _ => rfl) (by omega) (by decide)).trans rfl)) ?_))))))))))))))
     refine D.hh rfl (.call Tryz.func18 rfl rfl (vs := [_, _]) rfl (sstep_spec f t τ φ al[i].n _ _ hok (by omega) hS.w hS.z (by omega) (Nat.le_refl _) hnn)) ?_
     rintro v L' ⟨rfl, rfl⟩
     refine D.ph (.g0 (.hh rfl (.call Tryz.func31 rfl rfl (vs := [_, _]) rfl (rstep8_spec g x τ φ al[i].n _ _ hok (by omega) hS.w hS.z (by omega) (Nat.le_refl _) hnn)) ?_))
     rintro v L' ⟨rfl, rfl⟩
     refine D.ph (.g0 (.kv rfl (.as (v' := .bool false) (by simp) (.boolne rfl rfl Tryz.underlying4)) (.pf (.condF rfl (.skip (.blk_n (.then_n ?_)))))))
     exact .mk ((f, g, τ, fzStep τ al[i].n.toNat φ)) (hSs.more (by omega)) ⟨rfl, rfl, rfl, rfl, rfl, rfl, rfl, rfl, rfl, rfl, trivial⟩
    refine .sr (.ui rfl rfl rfl (.an rfl (.condD rfl (fun h78 => ?_) (fun h78 => ?_))))
    ·refine .sm rfl (.oq (.c Tryz.func17 [_] (sbegin_spec t τ)) ?_)
     rintro v L' ⟨f2, rfl, rfl⟩
     refine .an rfl (.sm rfl (.oq (.c Tryz.func29 [_] (rbegin8_spec x τ)) ?_))
     rintro v L' ⟨g2, rfl, rfl⟩
     refine .an rfl (.sm rfl (.q (.as (v' := .bool false) (by rfl) (.ptreq rfl rfl Tryz.underlying47)) rfl (.nt (.condF rfl (.skip (.blk_n (.then_n ?_)))))))
     exact .mk ((f2, g2, τ, beginZ τ)) ((hS.begin).more (by omega)) ⟨rfl, rfl, rfl, rfl, rfl, rfl, rfl, rfl, rfl, rfl, trivial⟩
    refine .skip (.blk_n (.then_n ?_))
    exact .mk ((f, g, τ, φ)) (hS.more (by omega)) ⟨rfl, rfl, rfl, rfl, rfl, rfl, rfl, rfl, rfl, rfl, trivial⟩
   refine .region (.ui rfl rfl rfl (.an rfl (.condD rfl (fun h42 => ?_) (fun h42 => ?_))))
   ·refine .sm rfl (.m rfl (.m rfl (.q (.indexAddr rfl rfl el_68 (by omega)) rfl (.u (.fieldAddr rfl fo_72_2) (.q (.loadRdA (sz := 13) (j := i * 13 + 2) (k := 11) (p := p) (vs := enC al[i].e) rfl ag_39 (by repeat' constructor) ha.cells (by simp; omega) (by omega) (by omega) (fa_en (by omega))) rfl (.oq (.call Tryz.func12 rfl rfl (vs := [_, _]) rfl (trapply_spec t τ al[i].e.zx al[i].e.ses al[i].e.xid al[i].e.x al[i].e.subs p htx _ hok (by omega))) ?_))))))
    rintro v L' ⟨ue, ee, rfl, he, hue, rfl⟩
    refine .nt (.region (.m rfl (.m rfl (.m rfl (.q (.indexAddr rfl rfl el_68 (by omega)) rfl (.u (.fieldAddr rfl fo_72_2) (.q (.loadRdA (sz := 13) (j := i * 13 + 2) (k := 11) (p := p) (vs := enC al[i].e) rfl ag_39 (by repeat' constructor) ha.cells (by simp; omega) (by omega) (by omega) (fa_en (by omega))) rfl (.oq (.call Tryz.func30 rfl rfl (vs := [_, _]) rfl (rapply_spec x τ al[i].e.zx al[i].e.ses al[i].e.xid al[i].e.x al[i].e.subs p htx _ hok (by omega))) ?_))))))))
    rintro v L' ⟨uf, ef, rfl, hf, huf, rfl⟩
    refine .nil (.blk_n (.then_n ?_))
    exact .mk ((f, g, appE τ al[i].e, φ)) (hS.app htx hen) ⟨rfl, rfl, rfl, rfl, rfl, rfl, rfl, rfl, rfl, rfl, trivial⟩
   refine .sr (.ui rfl rfl rfl (.an rfl (.condD rfl (fun h61 => ?_) (fun h61 => ?_))))
   ·refine .seq (.draw [6, 13] [[0, 1, 2, 3, 4, 5, 7, 8, 9, 10, 11, 12, 6], [13], [14]] mixed (by kernel_rfl) (.go [p] (by repeat' constructor) (.mv rfl rfl (.mv rfl rfl (.mv rfl rfl (.kv rfl (.indexAddr rfl rfl el_68 (by omega)) (.kv rfl (.fieldAddr rfl fo_72_1) (.kv rfl (.loadRd (sz := 13) (j := i * 13 + 1) (p := p) rfl ag_3 (by repeat' constructor) ha.cells (by omega) ((flatMap_cell (f := faC) (sz := 13) (l := al) (i := i) (k := 1) (fun _ _ => rfl) (by omega) (by decide)).trans rfl)) (.k rfl (.move rfl) (.k rfl (.move rfl) (.k rfl (.move rfl) (.k rfl (.indexAddr rfl rfl el_68 (by omega)) (.k rfl (.fieldAddr rfl fo_72_1) (.k rfl (.loadRd (sz := 13) (j := i * 13 + 1) (p := p) rfl ag_3 (by repeat' constructor) ha.cells (by omega) ((flatMap_cell (f := faC) (sz := 13) (l := al) (i := i) (k := 1) (fun _ _ => rfl) (by omega) (by decide)).trans rfl)) ?_))))))))))))))
    refine D.hh rfl (.call Tryz.func18 rfl rfl (vs := [_, _]) rfl (sstep_spec f t τ φ al[i].n _ _ hok (by omega) hS.w hS.z (by omega) (Nat.le_refl _) hnn)) ?_
    rintro v L' ⟨rfl, rfl⟩
    refine D.ph (.g0 (.hh rfl (.call Tryz.func31 rfl rfl (vs := [_, _]) rfl (rstep8_spec g x τ φ al[i].n _ _ hok (by omega) hS.w hS.z (by omega) (Nat.le_refl _) hnn)) ?_))
    rintro v L' ⟨rfl, rfl⟩
    refine D.ph (.g0 (.kv rfl (.as (v' := .bool false) (by simp) (.boolne rfl rfl Tryz.underlying4)) (.pf (.condF rfl (.skip (.blk_n (.then_n ?_)))))))
    exact .mk ((f, g, τ, fzStep τ al[i].n.toNat φ)) (hSs.more (by omega)) ⟨rfl, rfl, rfl, rfl, rfl, rfl, rfl, rfl, rfl, rfl, trivial⟩
   refine .sr (.ui rfl rfl rfl (.an rfl (.condD rfl (fun h78 => ?_) (fun h78 => ?_))))
   ·refine .sm rfl (.oq (.c Tryz.func17 [_] (sbegin_spec t τ)) ?_)
    rintro v L' ⟨f2, rfl, rfl⟩
    refine .an rfl (.sm rfl (.oq (.c Tryz.func29 [_] (rbegin8_spec x τ)) ?_))
    rintro v L' ⟨g2, rfl, rfl⟩
    refine .an rfl (.sm rfl (.q (.as (v' := .bool false) (by rfl) (.ptreq rfl rfl Tryz.underlying47)) rfl (.nt (.condF rfl (.skip (.blk_n (.then_n ?_)))))))
    exact .mk ((f2, g2, τ, beginZ τ)) ((hS.begin).more (by omega)) ⟨rfl, rfl, rfl, rfl, rfl, rfl, rfl, rfl, rfl, rfl, trivial⟩
   refine .skip (.blk_n (.then_n ?_))
   exact .mk ((f, g, τ, φ)) (hS.more (by omega)) ⟨rfl, rfl, rfl, rfl, rfl, rfl, rfl, rfl, rfl, rfl, trivial⟩
  rintro ⟨f1, g1, τ1, φ1⟩ hS1
  dsimp only
  dsimp only at hS1
  refine .seq (.draw [1, 3, 7] [[0, 2, 1], [3], [4, 5, 6, 8, 9, 10, 11, 7], [12, 13]] mixed (by kernel_rfl) (.go [rfzR g1 x _] (by repeat' constructor) (.mv rfl rfl (.k rfl (.move rfl) (.hh rfl (.call Tryz.func20 rfl rfl (vs := [_]) rfl (stext_spec f1 t τ1 φ1 _ _ hS1.ok (by omega) hS1.w hS1.z (by omega))) ?_)))))
  rintro v L' ⟨rfl, rfl⟩
  refine D.ph (.g0 (.hh rfl (.call Tryz.func32 rfl rfl (vs := [_]) rfl (rtext8_spec g1 x τ1 φ1 _ hS1.z (by omega))) ?_))
  rintro v L' ⟨rfl, rfl⟩
  refine D.ph (.go [rfzR g1 x _] (by repeat' constructor) (.kv rfl (.as (v' := .bool false) (by simp) (.strne rfl rfl)) (.mv rfl rfl (.gv rfl (.move rfl) (.gq (t := 91) rfl rfl rfl (by kernel_rfl) (.move rfl) (.gq (t := 91) rfl rfl rfl (by kernel_rfl) (.nilp rfl) (.gq (t := 91) rfl rfl rfl (by kernel_rfl) (.fieldAddr rfl fo_75_1) (.gq (t := 91) rfl rfl rfl (by kernel_rfl) (.loadRd (sz := 1) (j := 0) (p := rfzR g1 x φ1) rfl ag_3 (by repeat' constructor) rfz_from (by decide) rfl) (.gh (t := 91) rfl rfl rfl (by kernel_rfl) (.c Tryz.func23 [_] (sfrom_spec f1 t φ1)) (by repeat' constructor) ?_)))))))))
  rintro v L' ⟨rfl, rfl⟩
  refine D.ph (.g0 (.gv rfl (.as (v' := .bool false) (by simp) (.int rfl rfl rfl)) (.kv rfl (.pickF rfl rfl) (.pf (.condF rfl (.skip (.blk_n (.then_n (.region (.m rfl (.q (.add rfl rfl (by omega)) rfl (.an rfl ?_))))))))))))
  exact .rk ((i + 1, f1, g1, τ1, φ1)) (⟨by dsimp only; omega, by dsimp only; rw [wtF_step hi2, ← Nat.add_assoc]; exact hS1⟩) (by dsimp only; omega) ⟨rfl, rfl, rfl, rfl, rfl, rfl, trivial⟩
 have hok := hS.ok
 have hSs := hS.step 4611686018427387904
 refine .exit (.then_e (.then_e (.blk_e (.then_n (.sm rfl (.oq (.call Tryz.func18 rfl rfl (vs := [_, _]) rfl (sstep_spec f t τ φ 4611686018427387904 _ _ hok (by omega) hS.w hS.z (by omega) (Nat.le_refl _) (by decide))) ?_))))))
 rintro v L' ⟨rfl, rfl⟩; rw [show (4611686018427387904 : Int).toNat = 4611686018427387904 from rfl]
 refine .nt (.sm rfl (.oq (.call Tryz.func31 rfl rfl (vs := [_, _]) rfl (rstep8_spec g x τ φ 4611686018427387904 _ _ hok (by omega) hS.w hS.z (by omega) (Nat.le_refl _) (by decide))) ?_))
 rintro v L' ⟨rfl, rfl⟩; rw [show (4611686018427387904 : Int).toNat = 4611686018427387904 from rfl]; obtain ⟨ψ, hψ⟩ : ∃ ψ, ψ = fzStep τ 4611686018427387904 φ := ⟨_, rfl⟩; rw [← hψ] at hSs ⊢
 refine .nt (.seq (.draw [1, 3, 7, 17] [[0, 2, 1], [3], [4, 5, 6, 8, 9, 10, 11, 7], [12, 13, 14, 15, 16, 17], [18, 19]] mixed (by kernel_rfl) (.go [rfzR g x _] (by repeat' constructor) (.mv rfl rfl (.k rfl (.move rfl) (.hh rfl (.call Tryz.func20 rfl rfl (vs := [_]) rfl (stext_spec f t τ ψ _ _ hok (by omega) hS.w hSs.z (by omega))) ?_))))))
 rintro v L' ⟨rfl, rfl⟩
 refine D.ph (.g0 (.hh rfl (.call Tryz.func32 rfl rfl (vs := [_]) rfl (rtext8_spec g x τ ψ _ hSs.z (by omega))) ?_))
 rintro v L' ⟨rfl, rfl⟩
 refine D.ph (.go [rfzR g x _] (by repeat' constructor) (.kv rfl (.as (v' := .bool true) (by exact congrArg Value.bool (decide_eq_true rfl)) (.streq rfl rfl)) (.mv rfl rfl (.gv rfl (.move rfl) (.gq (t := 109) rfl rfl rfl (by kernel_rfl) (.move rfl) (.gq (t := 109) rfl rfl rfl (by kernel_rfl) (.nilp rfl) (.gq (t := 109) rfl rfl rfl (by kernel_rfl) (.fieldAddr rfl fo_75_1) (.gq (t := 109) rfl rfl rfl (by kernel_rfl) (.loadRd (sz := 1) (j := 0) (p := rfzR g x ψ) rfl ag_3 (by repeat' constructor) rfz_from (by decide) rfl) (.gh (t := 109) rfl rfl rfl (by kernel_rfl) (.c Tryz.func23 [_] (sfrom_spec f t ψ)) (by repeat' constructor) ?_)))))))))
 rintro v L' ⟨rfl, rfl⟩
 refine D.ph (.g0 (.gv rfl (.as (v' := .bool true) (by exact congrArg Value.bool (decide_eq_true rfl)) (.int rfl rfl rfl)) (.kv rfl (.pickT rfl rfl) (.mv rfl rfl (.gv rfl (.move rfl) (.gv rfl (.move rfl) (.gh (t := 118) rfl rfl rfl (by kernel_rfl) (.call Tryz.func26 rfl rfl (vs := [_, _]) rfl (alike7_spec t x τ _ hok (by omega) hS.w.sesB)) (by repeat' constructor) ?_)))))))
 rintro v L' ⟨rfl, rfl⟩
 refine D.ph (.g0 (.kv rfl (.pickT rfl rfl) (.kv rfl (.assign rfl) (.pf (.ret ?_)))))
 exact .vv
open Go Go.ChangeShapes Go.WideShapes Go.ChangeAt Go.RowKit
section
variable {H : Type} {enc : TypeId × Value → H} {P : Program} {W W' : World}
theorem trodAll_old (hl : laidOutB P = true) (hb : Below W.heap.size W W') (sp : Nat → Bool) : ∀ (ts : List TypeId) (vs : List Value) (ds : List (DataW H)) (p : List MemPlace), (∀ t ∈ ts, P.readableRec t = true ∧ t < P.types.size) →
  DataW.TrodAll enc P W 0 (fun _ => true) true ts vs ds p → (∀ x ∈ p, x.block < W.heap.size) → (∀ x ∈ p, sp x.block = true) → DataW.TrodAll enc P W' 0 sp true ts vs ds p
 | [], vs, ds, p, _, h, _, _ => by
  obtain ⟨rfl, rfl, rfl⟩ := trodAll_nil h
  exact h
 | t :: ts, vs, ds, p, hr, h, hlt, hsp => by
  obtain ⟨v, vs1, d, ds1, a, b, rfl, rfl, rfl, h1, h2⟩ := trodAll_cons h
  have r := hr t (by simp)
  refine ⟨a, b, WideElems.Trod_stays hl r.1 r.2 h1 (fun x hx => hb.same (hlt x (by simp [hx]))) (fun x hx => hsp x (by simp [hx])), ?_, rfl⟩
  exact trodAll_old hl hb sp ts vs1 ds1 b (fun t ht => hr t (by simp [ht])) h2 (fun x hx => hlt x (by simp [hx])) (fun x hx => hsp x (by simp [hx]))
theorem settled {fn : Func} {s : ChangeSpec} {apart fresh handsOn again : Bool} {args : Array Value} {ds gs : List (DataW H)} {before : List MemPlace} {tb : TypeId}
  (hW : DataW.Whole enc P fn.params.toList s.vars apart W args.toList ds gs before) (hvars : s.vars = []) (hspec : ∀ gs', gs' = [] → s.fn H (ds ++ gs') = { results := [.lit (.bool true)], args := ds })
  (hres : fn.resultTypes = #[tb]) (htb : P.underlying tb = some .bool) (hl : laidOutB P = true) (hr : ∀ t ∈ fn.params.toList, P.readableRec t = true ∧ t < P.types.size) (hb : Below W.heap.size W W') :
  s.post enc P fn apart fresh handsOn again W args (.bool true) W' := by
 have hW' := hW
 have hlt := hW.lt
 obtain ⟨p, q, hA, hV, rfl, hfz, hnd⟩ := hW
 rw [hvars] at hV
 obtain ⟨rfl, rfl⟩ := trodVars_none hV
 have hs := hspec [] rfl
 have hargs : ∀ sp : Nat → Bool, (∀ x ∈ p, sp x.block = true) → DataW.TrodAll enc P W' 0 sp true fn.params.toList args.toList ds p := fun sp hsp =>
  trodAll_old hl hb sp _ _ _ _ hr hA (fun x hx => hlt x (by simp [hx])) hsp
 have hbool : ∀ (b : Nat) (sp : Nat → Bool) (hd : Bool), DataW.TrodAll enc P W' b sp hd fn.resultTypes.toList ((Value.bool true).resultList fn.resultTypes.size) [.lit (.bool true)] [] := by
  intro b sp hd
  rw [hres]
  exact trodAll_cons_mk (shut_bool htb _) trodAll_mk0
 refine ⟨ds, [], p ++ [], [], p, [], hW', ?_, ?_, ?_, hb.frame _, fun _ => ⟨ok_one hres rfl (okWide_bool_mk htb _), [.lit (.bool true)] ++ ds, [], p, ⟨p, [], ?_, ?_, by simp, ?_, ?_⟩, ?_⟩⟩
 ·rw [hs]; exact hbool _ _ _
 ·rw [hs]; exact hargs _ (fun x hx => by simpa using hlt x (by simp [hx]))
 ·rw [hs, hvars]; exact hV
 ·exact trodAll_append (hargs _ (fun _ _ => rfl)) (hbool _ _ _)
 ·rw [hvars]; exact hV
 ·intro b off hp
  rw [hb.frozen (p := ⟨b, off, none⟩) (hlt (.cell b off) (by simp [hp]))]
  exact hfz b off (by simp [hp])
 ·intro ha
  have := hnd ha
  simpa using this
 ·intro x hx _
  simp [hx]
theorem old_calls {f : FuncId} {args : Array Value} (h : Fn P f args [Old W] fun v L => v = .bool true ∧ L = [Old W]) :
  Calls P f args W fun e W' => e = .returned (.bool true) ∧ Below W.heap.size W W' := by
 have h0 : St [Old W] W := ⟨fun b => W.heap[b]?, fun _ => none, fun _ => .inr rfl, fun b o h => h, fun b o h => (by cases h), fun b hb => rfl, trivial⟩
 refine (h [] W h0).mono ?_
 rintro e W' ⟨v, L, ⟨rfl, rfl⟩, rfl, hs, hk⟩
 refine ⟨rfl, hk.os, hk.tape, hk.output, hk.size, fun k hk' => ?_⟩
 obtain ⟨h1, a1, hp⟩ := sep_head hs
 have e1 := hp k hk'
 have : ∃ o, W.heap[k]? = some o := ⟨_, Array.getElem?_eq_getElem hk'⟩
 obtain ⟨o, ho⟩ := this
 rw [ho] at e1 ⊢
 exact a1 _ _ e1
theorem old_rd {a : Addr} {len cap : Nat} {V : Nat → Value} (hc : ∀ i, i < len → W.cell? (a.add i) = some (V i)) (hle : len ≤ cap) : ∀ h : Hp, Old W h → rdS 1 h (.slice (some a) len cap) len ((List.range len).map V) := by
 intro h hold
 rcases Nat.eq_zero_or_pos len with rfl | hpos
 ·exact .inl ⟨rfl, rfl, some a, cap, rfl⟩
 ·obtain ⟨b, off, spot⟩ := a
  have h0 := hc 0 hpos
  have e0 : (⟨b, off, spot⟩ : Addr).add 0 = ⟨b, off, spot⟩ := by simp [Addr.add]
  rw [e0] at h0
  simp only [World.cell?] at h0
  rcases hw : W.heap[b]? with _ | o
  ·rw [hw] at h0; cases h0
  ·cases o with
   | cells c T fr =>
    rw [hw] at h0
    dsimp only at h0
    split at h0
    ·cases h0
    ·rename_i hsp
     have hspot : spot = none := by simpa using hsp
     subst hspot
     have hc' : ∀ i, i < len → c[off + i]? = some (V i) := by
      intro i hi
      have := hc i hi
      have e1 : (⟨b, off, none⟩ : Addr).add i = ⟨b, off + i, none⟩ := by
       simp only [Addr.add]; split
       ·rename_i h0; simp [h0]
       ·rfl
      rw [e1] at this
      simp only [World.cell?, hw] at this
      simpa using this
     have hlt : b < W.heap.size := by
      rcases Nat.lt_or_ge b W.heap.size with h' | h'
      ·exact h'
      ·rw [Array.getElem?_eq_none h'] at hw; cases hw
     have hlen : off + len ≤ c.size := by
      have := hc' (len - 1) (by omega)
      rcases Nat.lt_or_ge (off + (len - 1)) c.size with h' | h'
      ·omega
      ·rw [Array.getElem?_eq_none h'] at this; cases this
     refine .inr ⟨b, off, cap, c.toList, T, fr, rfl, by rw [hold b hlt, hw], ?_, by simpa using hlen, hle⟩
     apply List.ext_getElem?
     intro i
     rw [Nat.mul_one, List.getElem?_take, List.getElem?_map, List.getElem?_drop]
     split
     ·rename_i hi
      rw [List.getElem?_range hi]
      simpa using hc' i hi
     ·rename_i hi
      rw [List.getElem?_eq_none (by simpa using hi)]; rfl
   | _ => rw [hw] at h0; cases h0
end
open Go Go.ChangeShapes Go.WideShapes Go.ChangeAt Go.RowKit
section
variable {H : Type} {enc : TypeId × Value → H} {P : Program} {W : World}
theorem string_vstr (s : ByteArray) : Value.string s = vstr s.data.toList := by cases s; rfl
end
open Go Go.ChangeShapes Go.WideShapes Go.ChangeAt Go.RowKit
section
variable {H : Type} {enc : TypeId × Value → H} {P : Program} {W : World}
theorem flat_at {α : Type} {sz : Nat} (f : Nat → List α) : ∀ n, (∀ i, i < n → (f i).length = sz) → ∀ j, j < n * sz → ((List.range n).flatMap f)[j]? = (f (j / sz))[j % sz]? ∧ ((List.range n).flatMap f).length = n * sz := by
 intro n
 induction n with
 | zero => intro _ j hj; omega
 | succ n ih =>
  intro hf j hj
  have hn := hf n (by omega)
  have hlen : ((List.range n).flatMap f).length = n * sz := by
   rcases Nat.eq_zero_or_pos (n * sz) with h0 | h0
   ·rcases Nat.eq_zero_or_pos n with h1 | h1
    ·subst h1; simp
    ·have : sz = 0 := by
      rcases Nat.eq_zero_or_pos sz with h2 | h2
      ·exact h2
      ·have := Nat.mul_pos h1 h2; omega
     subst this; omega
   ·exact (ih (fun i hi => hf i (by omega)) 0 h0).2
  have e : (List.range (n + 1)).flatMap f = (List.range n).flatMap f ++ f n := by simp [List.range_succ]
  have hm : (n + 1) * sz = n * sz + sz := by rw [Nat.add_mul, Nat.one_mul]
  rw [e]
  refine ⟨?_, by rw [List.length_append, hlen, hn, hm]⟩
  rcases Nat.lt_or_ge j (n * sz) with h | h
  ·rw [List.getElem?_append_left (by omega)]
   exact (ih (fun i hi => hf i (by omega)) j h).1
  ·rw [List.getElem?_append_right (by omega), hlen]
   have hs : 0 < sz := by omega
   have h1 : j / sz = n := by
    have : j < (n + 1) * sz := hj
    have a := Nat.div_lt_of_lt_mul (show j < sz * (n + 1) by rw [Nat.mul_comm]; exact this)
    have b := (Nat.le_div_iff_mul_le hs).2 h
    omega
   have h2 : j % sz = j - n * sz := by
    have := Nat.div_add_mod j sz
    rw [h1, Nat.mul_comm] at this; omega
   rw [h1, h2]
theorem rdS_regroup {sz n c c1 : Nat} {a : Option Addr} {ys : List Value} {h : Hp} (hr : rdS 1 h (.slice a (n * sz) c1) (n * sz) ys) (hc : n ≤ c) (hs : 0 < sz) : rdS sz h (.slice a n c) n ys := by
 rcases hr with ⟨h1, h2, -⟩ | ⟨b, off, cap, l, T, fr, hv, hb, h1, h2, h3⟩
 ·have : n = 0 := by
   rcases Nat.eq_zero_or_pos n with h0 | h0
   ·exact h0
   ·have := Nat.mul_pos h0 hs; omega
  subst this
  exact .inl ⟨rfl, h2, a, c, rfl⟩
 ·simp only [Value.slice.injEq] at hv
  obtain ⟨rfl, -, -⟩ := hv
  exact .inr ⟨b, off, c, l, T, fr, rfl, hb, by rw [← h1, Nat.mul_one], by rw [Nat.mul_one] at h2; exact h2, hc⟩
abbrev Reads (enc : TypeId × Value → H) (P : Program) (W : World) (fuel : Nat) (t : TypeId) (cs : List Value) (x : DataW H × List MemPlace) : Prop := DataW.trod enc P W 0 (fun _ => true) true fuel t cs = some x
theorem dec_int {t : TypeId} {fuel : Nat} {cs : List Value} {x : DataW H × List MemPlace} (ht : P.underlying t = some (.int .i64)) (h : Reads enc P W fuel t cs x) : ∃ n : Int, cs = [vint n] ∧ -9223372036854775808 ≤ n ∧ n ≤ 9223372036854775807 := by
 obtain ⟨n, rfl, -, hwf⟩ := DataW.trod_int ht h
 exact ⟨n, rfl, bounds_i64 hwf⟩
end
open Go Go.ChangeShapes Go.WideShapes Go.ChangeAt Go.RowKit
theorem bulk_pos {H : Type} (d : DataW H) : 1 ≤ Rows.uptoBulk d := by
 cases d with
 | lit l => cases l <;> simp [Rows.uptoBulk]
 | _ => simp [Rows.uptoBulk]
theorem bulk_part {H : Type} {d : DataW H} : ∀ {l : List (DataW H)}, d ∈ l → Rows.uptoBulk d ≤ Rows.uptoBulkAll l
 | x :: l, h => by
  unfold Rows.uptoBulkAll
  rcases List.mem_cons.1 h with rfl | h
  ·omega
  ·have := bulk_part h; omega
theorem bulk_count {H : Type} : ∀ l : List (DataW H), l.length ≤ Rows.uptoBulkAll l
 | [] => by simp
 | x :: l => by
  have h1 := bulk_pos x
  have h2 := bulk_count l
  unfold Rows.uptoBulkAll
  rw [List.length_cons]; omega
theorem bulk_sum {H : Type} : ∀ l : List (DataW H), (l.map Rows.uptoBulk).sum ≤ Rows.uptoBulkAll l
 | [] => by simp
 | x :: l => by
  have h2 := bulk_sum l
  unfold Rows.uptoBulkAll
  rw [List.map_cons, List.sum_cons]; omega
theorem bulk_small {H : Type} {l : List (DataW H)} (h : Rows.uptoSmall H l = true) {d : DataW H} (hd : d ∈ l) : Rows.uptoBulk d ≤ 1048576 :=
 Nat.le_trans (bulk_part hd) (of_decide_eq_true h)
instance : Inhabited Value := ⟨.bool false⟩
section
variable {H : Type} {enc : TypeId × Value → H} {P : Program} {W : World} {N : Nat}
theorem dec_int' {t : TypeId} {fuel : Nat} {cs : List Value} {x : DataW H × List MemPlace} (ht : P.underlying t = some (.int .i64)) (h : Reads enc P W fuel t cs x) : ∃ n : Int, cs = [vint n] ∧ (-9223372036854775808 ≤ n ∧ n ≤ 9223372036854775807) := by
 obtain ⟨n, h1, h2⟩ := dec_int ht h; exact ⟨n, h1, h2⟩
theorem slice_cell {t e : TypeId} {fuel : Nat} {v : Value} {x : DataW H × List MemPlace} (ht : P.underlying t = some (.slice e)) (h : Reads enc P W fuel t [v] x) : isCell v = true := by
 rcases Go.Deep.open_slice ht h with ⟨hv, -⟩ | ⟨a, len, cap, m, n, Dd, Pl, hv, -⟩
 ·rw [List.cons.injEq] at hv; rw [hv.1]; rfl
 ·rw [List.cons.injEq] at hv; rw [hv.1]; rfl
theorem dec_sliceV {Z : Type} [Inhabited Z] (toC : Z → List Value) (Q : Z → Prop) {t e : TypeId} {sz : Nat} {fuel : Nat} {cs : List Value} {x : DataW H × List MemPlace} (ht : P.underlying t = some (.slice e)) (hc : P.cellsOf e = sz) (hs : 0 < sz)
  (hdec : ∀ (n : Nat) (cs : List Value) (y : DataW H × List MemPlace), Reads enc P W n e cs y → Rows.uptoBulk y.1 ≤ N → ∃ z, cs = toC z ∧ Q z) (h : Reads enc P W fuel t cs x) (hb : Rows.uptoBulk x.1 ≤ N + 1) :
  ∃ z : Value × List Z, cs = [z.1] ∧ (∀ h : Hp, Old W h → rdS sz h z.1 z.2.length (z.2.flatMap toC)) ∧ z.2.length ≤ N ∧ ∀ y ∈ z.2, Q y := by
 subst hc
 rcases Go.Deep.open_slice ht h with ⟨rfl, rfl⟩ | ⟨a, len, cap, m, n, Dd, Pl, rfl, -, hl, hm, hmm, rfl, hx⟩
 ·exact ⟨(_, []), rfl, fun h _ => .inl ⟨rfl, rfl, none, 0, rfl⟩, by simp, by simp⟩
 ·simp only [if_true] at hmm
  subst hmm
  have hbl : len ≤ N := by
   have := bulk_count ((List.range len).map Dd)
   simp only [Rows.uptoBulk] at hb
   rw [List.length_map, List.length_range] at this
   omega
  have hbe : ∀ i, i < len → Rows.uptoBulk (Dd i) ≤ N := fun i hi => by
   have := bulk_part (d := Dd i) (l := (List.range len).map Dd) (List.mem_map_of_mem (by simpa using hi))
   simp only [Rows.uptoBulk] at hb
   omega
  obtain ⟨Zf, hZ⟩ := Go.Deep.choose_lt (α := Z) (p := fun i z => W.cells? 0 (a.add (i * P.cellsOf e)) (P.cellsOf e) = some (toC z) ∧ Q z) (n := len) (fun i hi => by
   obtain ⟨cs', h1, h2⟩ := hx i (by omega)
   obtain ⟨z, rfl, h3⟩ := hdec _ _ _ h2 (hbe i hi)
   exact ⟨z, h1, h3⟩)
  have hlenf : ∀ i, i < len → (toC (Zf i)).length = P.cellsOf e := fun i hi => (World.cells?_some (hZ i hi).1).2.1
  have hflat := flat_at (fun i => toC (Zf i)) len hlenf
  refine ⟨(_, (List.range len).map Zf), rfl, ?_, ?_, ?_⟩
  ·intro h hold
   dsimp only
   rw [List.length_map, List.length_range]
   refine rdS_regroup (c1 := len * P.cellsOf e) ?_ hl hs
   have e1 : ((List.range len).map Zf).flatMap toC = (List.range (len * P.cellsOf e)).map (fun j => ((List.range len).flatMap fun i => toC (Zf i)).getD j (.bool false)) := by
    rw [List.flatMap_map]
    apply List.ext_getElem?
    intro j
    rcases Nat.lt_or_ge j (len * P.cellsOf e) with hj | hj
    ·rw [List.getElem?_map, List.getElem?_range hj]
     have := (hflat j hj).2
     have hjl : j < ((List.range len).flatMap fun i => toC (Zf i)).length := by omega
     simp only [Option.map_some, List.getD_eq_getElem?_getD, List.getElem?_eq_getElem hjl, Option.getD_some]
    ·have : ((List.range len).flatMap fun i => toC (Zf i)).length = len * P.cellsOf e := by
      rcases Nat.eq_zero_or_pos (len * P.cellsOf e) with h0 | h0
      ·have : len = 0 := by
        rcases Nat.eq_zero_or_pos len with h1 | h1
        ·exact h1
        ·have := Nat.mul_pos h1 hs; omega
       subst this; simp
      ·exact (hflat 0 h0).2
     rw [List.getElem?_eq_none (by omega), List.getElem?_eq_none (by simpa using hj)]
   rw [e1]
   refine old_rd (W := W) (fun j hj => ?_) (Nat.le_refl _) h hold
   have hi : j / P.cellsOf e < len := Nat.div_lt_of_lt_mul (by rw [Nat.mul_comm]; exact hj)
   have hcell := (World.cells?_some (hZ (j / P.cellsOf e) hi).1).2.2 (j % P.cellsOf e) (Nat.mod_lt _ hs)
   rw [Addr.add_add, Nat.mul_comm, Nat.div_add_mod] at hcell
   rw [hcell]
   obtain ⟨f1, f2⟩ := hflat j hj
   rw [List.getD_eq_getElem?_getD, f1]
   have : j % P.cellsOf e < (toC (Zf (j / P.cellsOf e))).length := by rw [hlenf _ hi]; exact Nat.mod_lt _ hs
   simp [this]
  ·dsimp only; rw [List.length_map, List.length_range]; exact hbl
  ·intro z hz
   obtain ⟨i, hi, rfl⟩ := List.mem_map.1 hz
   exact (hZ i (by simpa using hi)).2
theorem dec_sliceQV {Z : Type} [Inhabited Z] (toC : Z → List Value) (Q : Nat → Z → Prop) {t e : TypeId} {sz : Nat} {fuel : Nat} {cs : List Value} {x : DataW H × List MemPlace} (ht : P.underlying t = some (.slice e)) (hc : P.cellsOf e = sz) (hs : 0 < sz)
  (hdec : ∀ (n : Nat) (cs : List Value) (y : DataW H × List MemPlace), Reads enc P W n e cs y → ∃ z, cs = toC z ∧ Q (Rows.uptoBulk y.1) z) (h : Reads enc P W fuel t cs x) (hb : Rows.uptoBulk x.1 ≤ N + 1) :
  ∃ (z : Value × List Z) (ws : List Nat), cs = [z.1] ∧ (∀ h : Hp, Old W h → rdS sz h z.1 z.2.length (z.2.flatMap toC)) ∧ z.2.length ≤ N ∧ ws.length = z.2.length ∧ ws.sum ≤ N ∧ (∀ w ∈ ws, 1 ≤ w) ∧ ∀ i (h1 : i < z.2.length) (h2 : i < ws.length), Q ws[i] z.2[i] := by
 subst hc
 rcases Go.Deep.open_slice ht h with ⟨rfl, rfl⟩ | ⟨a, len, cap, m, n, Dd, Pl, rfl, -, hl, hm, hmm, rfl, hx⟩
 ·exact ⟨(_, []), [], rfl, fun h _ => .inl ⟨rfl, rfl, none, 0, rfl⟩, by simp, rfl, by simp, (fun _ h => by cases h), (fun i h1 _ => by simp at h1)⟩
 ·simp only [if_true] at hmm
  subst hmm
  have hbl : len ≤ N := by
   have := bulk_count ((List.range len).map Dd)
   simp only [Rows.uptoBulk] at hb
   rw [List.length_map, List.length_range] at this
   omega
  have hall : ((List.range len).map fun i => Rows.uptoBulk (Dd i)).sum ≤ N := by
   have := bulk_sum ((List.range len).map Dd)
   rw [List.map_map] at this
   simp only [Rows.uptoBulk] at hb
   have e : ((List.range len).map fun i => Rows.uptoBulk (Dd i)) = (List.range len).map (Rows.uptoBulk ∘ Dd) := rfl
   rw [e]; omega
  obtain ⟨Zf, hZ⟩ := Go.Deep.choose_lt (α := Z) (p := fun i z => W.cells? 0 (a.add (i * P.cellsOf e)) (P.cellsOf e) = some (toC z) ∧ Q (Rows.uptoBulk (Dd i)) z) (n := len) (fun i hi => by
   obtain ⟨cs', h1, h2⟩ := hx i (by omega)
   obtain ⟨z, rfl, h3⟩ := hdec _ _ _ h2
   exact ⟨z, h1, h3⟩)
  have hlenf : ∀ i, i < len → (toC (Zf i)).length = P.cellsOf e := fun i hi => (World.cells?_some (hZ i hi).1).2.1
  have hflat := flat_at (fun i => toC (Zf i)) len hlenf
  refine ⟨(_, (List.range len).map Zf), (List.range len).map fun i => Rows.uptoBulk (Dd i), rfl, ?_, ?_, by simp, hall, ?_, ?_⟩
  ·intro h hold
   dsimp only
   rw [List.length_map, List.length_range]
   refine rdS_regroup (c1 := len * P.cellsOf e) ?_ hl hs
   have e1 : ((List.range len).map Zf).flatMap toC = (List.range (len * P.cellsOf e)).map (fun j => ((List.range len).flatMap fun i => toC (Zf i)).getD j (.bool false)) := by
    rw [List.flatMap_map]
    apply List.ext_getElem?
    intro j
    rcases Nat.lt_or_ge j (len * P.cellsOf e) with hj | hj
    ·rw [List.getElem?_map, List.getElem?_range hj]
     have := (hflat j hj).2
     have hjl : j < ((List.range len).flatMap fun i => toC (Zf i)).length := by omega
     simp only [Option.map_some, List.getD_eq_getElem?_getD, List.getElem?_eq_getElem hjl, Option.getD_some]
    ·have : ((List.range len).flatMap fun i => toC (Zf i)).length = len * P.cellsOf e := by
      rcases Nat.eq_zero_or_pos (len * P.cellsOf e) with h0 | h0
      ·have : len = 0 := by
        rcases Nat.eq_zero_or_pos len with h1 | h1
        ·exact h1
        ·have := Nat.mul_pos h1 hs; omega
       subst this; simp
      ·exact (hflat 0 h0).2
     rw [List.getElem?_eq_none (by omega), List.getElem?_eq_none (by simpa using hj)]
   rw [e1]
   refine old_rd (W := W) (fun j hj => ?_) (Nat.le_refl _) h hold
   have hi : j / P.cellsOf e < len := Nat.div_lt_of_lt_mul (by rw [Nat.mul_comm]; exact hj)
   have hcell := (World.cells?_some (hZ (j / P.cellsOf e) hi).1).2.2 (j % P.cellsOf e) (Nat.mod_lt _ hs)
   rw [Addr.add_add, Nat.mul_comm, Nat.div_add_mod] at hcell
   rw [hcell]
   obtain ⟨f1, f2⟩ := hflat j hj
   rw [List.getD_eq_getElem?_getD, f1]
   have : j % P.cellsOf e < (toC (Zf (j / P.cellsOf e))).length := by rw [hlenf _ hi]; exact Nat.mod_lt _ hs
   simp [this]
  ·dsimp only; rw [List.length_map, List.length_range]; exact hbl
  ·intro w hw
   obtain ⟨i, -, rfl⟩ := List.mem_map.1 hw
   exact bulk_pos _
  ·intro i h1 h2
   simp only [List.getElem_map, List.getElem_range]
   exact (hZ i (by simpa using h1)).2
/-! ### With weights: what is read weighs no more than its bulk -/
theorem dec_strW {t : TypeId} {fuel : Nat} {cs : List Value} {x : DataW H × List MemPlace} (ht : P.underlying t = some .string) (h : Reads enc P W fuel t cs x) : ∃ s : List UInt8, cs = [vstr s] ∧ s.length + 1 ≤ Rows.uptoBulk x.1 := by
 obtain ⟨s, rfl, rfl, -⟩ := DataW.trod_string ht h
 exact ⟨s.data.toList, by rw [string_vstr], by simp [Rows.uptoBulk]⟩
theorem dec_intW {t : TypeId} {fuel : Nat} {cs : List Value} {x : DataW H × List MemPlace} (ht : P.underlying t = some (.int .i64)) (h : Reads enc P W fuel t cs x) : ∃ n : Int, cs = [vint n] ∧ (-9223372036854775808 ≤ n ∧ n ≤ 9223372036854775807) ∧ 1 ≤ Rows.uptoBulk x.1 := by
 obtain ⟨n, h1, h2⟩ := dec_int' ht h; exact ⟨n, h1, h2, bulk_pos _⟩
theorem sum_le {Z : Type} {m : Z → Nat} : ∀ {l : List Z} {ws : List Nat}, ws.length = l.length → (∀ i (h1 : i < l.length) (h2 : i < ws.length), m l[i] ≤ ws[i]) → (l.map m).sum ≤ ws.sum
 | [], _, _, _ => by simp
 | z :: l, [], h, _ => by simp at h
 | z :: l, w :: ws, h, hq => by
  have h0 := hq 0 (by simp) (by simp)
  have h1 := sum_le (l := l) (ws := ws) (m := m) (by simpa using h) (fun i h1 h2 => hq (i + 1) (by simpa using h1) (by simpa using h2))
  rw [List.map_cons, List.sum_cons, List.sum_cons]
  have h0' : m z ≤ w := h0
  omega
theorem dec_sliceW {Z : Type} [Inhabited Z] (toC : Z → List Value) (Q : Z → Prop) (m : Z → Nat) {t e : TypeId} {sz : Nat} {fuel : Nat} {cs : List Value} {x : DataW H × List MemPlace} (ht : P.underlying t = some (.slice e)) (hc : P.cellsOf e = sz) (hs : 0 < sz)
  (hdec : ∀ (n : Nat) (cs : List Value) (y : DataW H × List MemPlace), Reads enc P W n e cs y → ∃ z, cs = toC z ∧ Q z ∧ m z ≤ Rows.uptoBulk y.1) (h : Reads enc P W fuel t cs x) :
  ∃ z : Value × List Z, cs = [z.1] ∧ (∀ h : Hp, Old W h → rdS sz h z.1 z.2.length (z.2.flatMap toC)) ∧ (∀ y ∈ z.2, Q y) ∧ z.2.length + 1 ≤ Rows.uptoBulk x.1 ∧ 1 + (z.2.map m).sum ≤ Rows.uptoBulk x.1 := by
 have hp := bulk_pos x.1
 obtain ⟨z, ws, h1, h2, h3, h4, h5, -, h7⟩ := dec_sliceQV (N := Rows.uptoBulk x.1 - 1) toC (fun B z => Q z ∧ m z ≤ B) ht hc hs hdec h (by omega)
 refine ⟨z, h1, h2, fun y hy => ?_, by omega, ?_⟩
 ·obtain ⟨i, hi, rfl⟩ := List.mem_iff_getElem.1 hy
  exact (h7 i hi (by omega)).1
 ·have := sum_le (m := m) h4 (fun i g1 g2 => (h7 i g1 g2).2)
  omega
theorem rd_shape {sz n : Nat} {v : Value} {ys : List Value} (hr : ∀ h : Hp, Old W h → rdS sz h v n ys) : ∃ a c, v = .slice a n c := by
 have h := hr (fun b => if b < W.heap.size then W.heap[b]? else none) (fun b hb => if_pos hb)
 rcases h with ⟨rfl, -, a, c, rfl⟩ | ⟨b, off, cap, l, T, fr, rfl, -⟩
 ·exact ⟨_, _, rfl⟩
 ·exact ⟨_, _, rfl⟩
end
open Go Go.ChangeShapes Go.WideShapes Go.ChangeAt Go.RowKit
def mAc (a : Ac) : Nat := 3 + a.2.length
def mNd (z : Rno) : Nat := 3 + z.1.length + z.2.2.data.length + (z.2.2.acl.map mAc).sum
def mSs (x : SN) : Nat := 3 + x.2.2.length
theorem sum_mem {α : Type} {m : α → Nat} : ∀ {l : List α} {x : α}, x ∈ l → m x ≤ (l.map m).sum
 | y :: l, x, h => by
  rw [List.map_cons, List.sum_cons]
  rcases List.mem_cons.1 h with rfl | h
  ·omega
  ·have := sum_mem (m := m) h; omega
theorem sum_three {α : Type} {m : α → Nat} (hm : ∀ x, 3 ≤ m x) : ∀ l : List α, 3 * l.length ≤ (l.map m).sum
 | [] => by simp
 | y :: l => by have := sum_three hm l; have := hm y; rw [List.map_cons, List.sum_cons, List.length_cons]; omega
theorem fm_weigh {α : Type} {f : α → Bs} {m : α → Nat} : ∀ {l : List α}, (∀ x ∈ l, (f x).length ≤ 20 * m x) → (l.flatMap f).length ≤ 20 * (l.map m).sum
 | [], _ => by simp
 | y :: l, h => by
  have h1 := h y (List.mem_cons_self ..)
  have h2 := fm_weigh (l := l) (m := m) (f := f) (fun x hx => h x (List.mem_cons_of_mem _ hx))
  rw [List.flatMap_cons, List.length_append, List.map_cons, List.sum_cons]; omega
theorem aclW_of {l : List Ac} (h : ∀ a ∈ l, I64 a.1) (hm : (l.map mAc).sum ≤ 1048576) : AclW l := by
 have hl := sum_three (m := mAc) (fun a => by unfold mAc; omega) l
 have hu : U64 = 18446744073709551616 := rfl
 have hi : ∀ a ∈ l, a.2.length ≤ 1048576 := fun a ha => by
  have h1 := sum_mem (m := mAc) ha
  have h2 : mAc a = 3 + a.2.length := rfl
  omega
 refine ⟨by omega, ?_, fun a ha => ⟨⟨h a ha, by have := hi a ha; omega⟩, hi a ha⟩⟩
 have h3 := fm_weigh (f := acB) (m := mAc) (l := l) (fun a ha => by
  have h1 := numB_len8 (h a ha)
  have h2 := sev_len10 (u := a.2.length) (by have := hi a ha; omega)
  unfold acB txtB cntB mAc
  rw [List.length_append, List.length_append]; omega)
 have h4 := sev_len10 (u := l.length) (by omega)
 unfold aclB cntB
 rw [List.length_append]; omega
structure NdQ (p : HP) (z : Rno) : Prop where
 acl : ∀ h : Hp, p h → rdS 2 h z.2.1 z.2.2.acl.length (z.2.2.acl.flatMap acC)
 cell : isCell z.2.1 = true
 each : ∀ a ∈ z.2.2.acl, I64 a.1
 st : ∀ n ∈ nums7 z.2.2.st, I64 n
theorem NdQ.w {p : HP} {z : Rno} (h : NdQ p z) (hm : mNd z ≤ 1048576) : RnW z := by
 unfold mNd at hm
 exact ⟨by omega, by omega, aclW_of h.each (by omega), h.st⟩
theorem st_nums {c m p v cv a o l k : Int} (h1 : I64 c) (h2 : I64 m) (h3 : I64 p) (h4 : I64 v) (h5 : I64 cv) (h6 : I64 a) (h7 : I64 o) : ∀ n ∈ nums7 (⟨c, m, p, v, cv, a, o, l, k⟩ : Stt), I64 n := by
 intro n hn
 rw [nums7_mem] at hn
 rcases hn with rfl | rfl | rfl | rfl | rfl | rfl | rfl
 ·exact h1
 ·exact h2
 ·exact h3
 ·exact h4
 ·exact h5
 ·exact h6
 ·exact h7
instance : Inhabited Stt := ⟨st0⟩
instance : Inhabited Rno := ⟨([], (.bool false, ⟨[], [], st0⟩))⟩
theorem decAc {H : Type} {enc : TypeId × Value → H} {W : World} (n : Nat) (cs : List Value) (y : DataW H × List MemPlace) (h : Reads enc Tryz.prog W n 90 cs y) : ∃ a : Ac, cs = acC a ∧ I64 a.1 ∧ mAc a ≤ Rows.uptoBulk y.1 := by
 obtain ⟨xs, m, -, rfl, hlen, hxs, hf⟩ := DataW.trod_struct Tryz.underlying90 h
 rw [show Tryz.prog.cellsOf 90 = 2 by kernel_rfl] at hlen
 obtain ⟨a0, a1, rfl⟩ : ∃ a0 a1, cs = [a0, a1] := by
  match cs, hlen with
  | [a0, a1], _ => exact ⟨a0, a1, rfl⟩
 obtain ⟨y0, y1, rfl⟩ : ∃ y0 y1, xs = [y0, y1] := by
  match xs, hxs with
  | [y0, y1], _ => exact ⟨y0, y1, rfl⟩
 try simp only [Rows.uptoBulk, Rows.uptoBulkAll, List.map_cons, List.map_nil]
 have g0 : Reads enc Tryz.prog W m 3 (([a0, a1] : List Value).drop 0 |>.take (Tryz.prog.cellsOf 3)) y0 := hf 0 _ rfl
 rw [show Tryz.prog.cellsOf 3 = 1 by kernel_rfl] at g0
 have p0 := bulk_pos y0.1
 obtain ⟨z0, e0, q0, r0⟩ := dec_intW Tryz.underlying3 g0
 try simp at e0
 have g1 : Reads enc Tryz.prog W m 9 (([a0, a1] : List Value).drop 1 |>.take (Tryz.prog.cellsOf 9)) y1 := hf 1 _ rfl
 rw [show Tryz.prog.cellsOf 9 = 1 by kernel_rfl] at g1
 have p1 := bulk_pos y1.1
 obtain ⟨z1, e1, r1⟩ := dec_strW Tryz.underlying9 g1
 try simp at e1
 subst e0
 subst e1
 exact ⟨(z0, z1), rfl, q0, by unfold mAc; dsimp only; omega⟩
theorem decStt {H : Type} {enc : TypeId × Value → H} {W : World} (n : Nat) (cs : List Value) (y : DataW H × List MemPlace) (h : Reads enc Tryz.prog W n 92 cs y) : ∃ s : Stt, cs = stC s ∧ ∀ n ∈ nums7 s, I64 n := by
 obtain ⟨xs, m, -, rfl, hlen, hxs, hf⟩ := DataW.trod_struct Tryz.underlying92 h
 rw [show Tryz.prog.cellsOf 92 = 9 by kernel_rfl] at hlen
 obtain ⟨a0, a1, a2, a3, a4, a5, a6, a7, a8, rfl⟩ : ∃ a0 a1 a2 a3 a4 a5 a6 a7 a8, cs = [a0, a1, a2, a3, a4, a5, a6, a7, a8] := by
  match cs, hlen with
  | [a0, a1, a2, a3, a4, a5, a6, a7, a8], _ => exact ⟨a0, a1, a2, a3, a4, a5, a6, a7, a8, rfl⟩
 obtain ⟨y0, y1, y2, y3, y4, y5, y6, y7, y8, rfl⟩ : ∃ y0 y1 y2 y3 y4 y5 y6 y7 y8, xs = [y0, y1, y2, y3, y4, y5, y6, y7, y8] := by
  match xs, hxs with
  | [y0, y1, y2, y3, y4, y5, y6, y7, y8], _ => exact ⟨y0, y1, y2, y3, y4, y5, y6, y7, y8, rfl⟩
 try simp only [Rows.uptoBulk, Rows.uptoBulkAll, List.map_cons, List.map_nil]
 have g0 : Reads enc Tryz.prog W m 3 (([a0, a1, a2, a3, a4, a5, a6, a7, a8] : List Value).drop 0 |>.take (Tryz.prog.cellsOf 3)) y0 := hf 0 _ rfl
 rw [show Tryz.prog.cellsOf 3 = 1 by kernel_rfl] at g0
 have p0 := bulk_pos y0.1
 obtain ⟨z0, e0, q0, r0⟩ := dec_intW Tryz.underlying3 g0
 try simp at e0
 have g1 : Reads enc Tryz.prog W m 3 (([a0, a1, a2, a3, a4, a5, a6, a7, a8] : List Value).drop 1 |>.take (Tryz.prog.cellsOf 3)) y1 := hf 1 _ rfl
 rw [show Tryz.prog.cellsOf 3 = 1 by kernel_rfl] at g1
 have p1 := bulk_pos y1.1
 obtain ⟨z1, e1, q1, r1⟩ := dec_intW Tryz.underlying3 g1
 try simp at e1
 have g2 : Reads enc Tryz.prog W m 3 (([a0, a1, a2, a3, a4, a5, a6, a7, a8] : List Value).drop 2 |>.take (Tryz.prog.cellsOf 3)) y2 := hf 2 _ rfl
 rw [show Tryz.prog.cellsOf 3 = 1 by kernel_rfl] at g2
 have p2 := bulk_pos y2.1
 obtain ⟨z2, e2, q2, r2⟩ := dec_intW Tryz.underlying3 g2
 try simp at e2
 have g3 : Reads enc Tryz.prog W m 3 (([a0, a1, a2, a3, a4, a5, a6, a7, a8] : List Value).drop 3 |>.take (Tryz.prog.cellsOf 3)) y3 := hf 3 _ rfl
 rw [show Tryz.prog.cellsOf 3 = 1 by kernel_rfl] at g3
 have p3 := bulk_pos y3.1
 obtain ⟨z3, e3, q3, r3⟩ := dec_intW Tryz.underlying3 g3
 try simp at e3
 have g4 : Reads enc Tryz.prog W m 3 (([a0, a1, a2, a3, a4, a5, a6, a7, a8] : List Value).drop 4 |>.take (Tryz.prog.cellsOf 3)) y4 := hf 4 _ rfl
 rw [show Tryz.prog.cellsOf 3 = 1 by kernel_rfl] at g4
 have p4 := bulk_pos y4.1
 obtain ⟨z4, e4, q4, r4⟩ := dec_intW Tryz.underlying3 g4
 try simp at e4
 have g5 : Reads enc Tryz.prog W m 3 (([a0, a1, a2, a3, a4, a5, a6, a7, a8] : List Value).drop 5 |>.take (Tryz.prog.cellsOf 3)) y5 := hf 5 _ rfl
 rw [show Tryz.prog.cellsOf 3 = 1 by kernel_rfl] at g5
 have p5 := bulk_pos y5.1
 obtain ⟨z5, e5, q5, r5⟩ := dec_intW Tryz.underlying3 g5
 try simp at e5
 have g6 : Reads enc Tryz.prog W m 3 (([a0, a1, a2, a3, a4, a5, a6, a7, a8] : List Value).drop 6 |>.take (Tryz.prog.cellsOf 3)) y6 := hf 6 _ rfl
 rw [show Tryz.prog.cellsOf 3 = 1 by kernel_rfl] at g6
 have p6 := bulk_pos y6.1
 obtain ⟨z6, e6, q6, r6⟩ := dec_intW Tryz.underlying3 g6
 try simp at e6
 have g7 : Reads enc Tryz.prog W m 3 (([a0, a1, a2, a3, a4, a5, a6, a7, a8] : List Value).drop 7 |>.take (Tryz.prog.cellsOf 3)) y7 := hf 7 _ rfl
 rw [show Tryz.prog.cellsOf 3 = 1 by kernel_rfl] at g7
 have p7 := bulk_pos y7.1
 obtain ⟨z7, e7, q7, r7⟩ := dec_intW Tryz.underlying3 g7
 try simp at e7
 have g8 : Reads enc Tryz.prog W m 3 (([a0, a1, a2, a3, a4, a5, a6, a7, a8] : List Value).drop 8 |>.take (Tryz.prog.cellsOf 3)) y8 := hf 8 _ rfl
 rw [show Tryz.prog.cellsOf 3 = 1 by kernel_rfl] at g8
 have p8 := bulk_pos y8.1
 obtain ⟨z8, e8, q8, r8⟩ := dec_intW Tryz.underlying3 g8
 try simp at e8
 subst e0
 subst e1
 subst e2
 subst e3
 subst e4
 subst e5
 subst e6
 subst e7
 subst e8
 exact ⟨⟨z0, z1, z2, z3, z4, z5, z6, z7, z8⟩, rfl, st_nums q0 q1 q2 q3 q4 q5 q6⟩
theorem decNd {H : Type} {enc : TypeId × Value → H} {W : World} (n : Nat) (cs : List Value) (y : DataW H × List MemPlace) (h : Reads enc Tryz.prog W n 124 cs y) : ∃ z : Rno, cs = rnC z ∧ NdQ (Old W) z ∧ mNd z ≤ Rows.uptoBulk y.1 := by
 obtain ⟨xs, m, -, rfl, hlen, hxs, hf⟩ := DataW.trod_struct Tryz.underlying124 h
 rw [show Tryz.prog.cellsOf 124 = 12 by kernel_rfl] at hlen
 obtain ⟨a0, a1, a2, a3, a4, a5, a6, a7, a8, a9, a10, a11, rfl⟩ : ∃ a0 a1 a2 a3 a4 a5 a6 a7 a8 a9 a10 a11, cs = [a0, a1, a2, a3, a4, a5, a6, a7, a8, a9, a10, a11] := by
  match cs, hlen with
  | [a0, a1, a2, a3, a4, a5, a6, a7, a8, a9, a10, a11], _ => exact ⟨a0, a1, a2, a3, a4, a5, a6, a7, a8, a9, a10, a11, rfl⟩
 obtain ⟨y0, y1, y2, y3, rfl⟩ : ∃ y0 y1 y2 y3, xs = [y0, y1, y2, y3] := by
  match xs, hxs with
  | [y0, y1, y2, y3], _ => exact ⟨y0, y1, y2, y3, rfl⟩
 try simp only [Rows.uptoBulk, Rows.uptoBulkAll, List.map_cons, List.map_nil]
 have g0 : Reads enc Tryz.prog W m 9 (([a0, a1, a2, a3, a4, a5, a6, a7, a8, a9, a10, a11] : List Value).drop 0 |>.take (Tryz.prog.cellsOf 9)) y0 := hf 0 _ rfl
 rw [show Tryz.prog.cellsOf 9 = 1 by kernel_rfl] at g0
 have p0 := bulk_pos y0.1
 obtain ⟨z0, e0, r0⟩ := dec_strW Tryz.underlying9 g0
 try simp at e0
 have g1 : Reads enc Tryz.prog W m 9 (([a0, a1, a2, a3, a4, a5, a6, a7, a8, a9, a10, a11] : List Value).drop 1 |>.take (Tryz.prog.cellsOf 9)) y1 := hf 1 _ rfl
 rw [show Tryz.prog.cellsOf 9 = 1 by kernel_rfl] at g1
 have p1 := bulk_pos y1.1
 obtain ⟨z1, e1, r1⟩ := dec_strW Tryz.underlying9 g1
 try simp at e1
 have g2 : Reads enc Tryz.prog W m 34 (([a0, a1, a2, a3, a4, a5, a6, a7, a8, a9, a10, a11] : List Value).drop 2 |>.take (Tryz.prog.cellsOf 34)) y2 := hf 2 _ rfl
 rw [show Tryz.prog.cellsOf 34 = 1 by kernel_rfl] at g2
 have p2 := bulk_pos y2.1
 obtain ⟨⟨v2, l2⟩, e2, k2, q2, c2, r2⟩ := dec_sliceW acC (fun a => I64 a.1) mAc Tryz.underlying34 (show Tryz.prog.cellsOf 90 = 2 by kernel_rfl) (by decide) (fun n cs y h => decAc n cs y h) g2
 dsimp only at e2 k2 q2 c2 r2
 have ck2 : isCell v2 = true := by obtain ⟨sa, sc, hs⟩ := rd_shape k2; rw [hs]; rfl
 try simp at e2
 have g3 : Reads enc Tryz.prog W m 92 (([a0, a1, a2, a3, a4, a5, a6, a7, a8, a9, a10, a11] : List Value).drop 3 |>.take (Tryz.prog.cellsOf 92)) y3 := hf 3 _ rfl
 rw [show Tryz.prog.cellsOf 92 = 9 by kernel_rfl] at g3
 have p3 := bulk_pos y3.1
 obtain ⟨z3, e3, q3⟩ := decStt _ _ _ g3
 try simp [ptC, enC, stC] at e3
 subst e0
 subst e1
 subst e2
 obtain ⟨rfl, rfl, rfl, rfl, rfl, rfl, rfl, rfl, rfl⟩ := e3
 exact ⟨(z0, (a2, ⟨z1, l2, z3⟩)), rfl, ⟨k2, ck2, q2, q3⟩, by unfold mNd; dsimp only; omega⟩
theorem decSs {H : Type} {enc : TypeId × Value → H} {W : World} (n : Nat) (cs : List Value) (y : DataW H × List MemPlace) (h : Reads enc Tryz.prog W n 127 cs y) : ∃ x : SN, cs = rsC x ∧ (I64 x.1 ∧ I64 x.2.1) ∧ mSs x ≤ Rows.uptoBulk y.1 := by
 obtain ⟨xs, m, -, rfl, hlen, hxs, hf⟩ := DataW.trod_struct Tryz.underlying127 h
 rw [show Tryz.prog.cellsOf 127 = 3 by kernel_rfl] at hlen
 obtain ⟨a0, a1, a2, rfl⟩ : ∃ a0 a1 a2, cs = [a0, a1, a2] := by
  match cs, hlen with
  | [a0, a1, a2], _ => exact ⟨a0, a1, a2, rfl⟩
 obtain ⟨y0, y1, y2, rfl⟩ : ∃ y0 y1 y2, xs = [y0, y1, y2] := by
  match xs, hxs with
  | [y0, y1, y2], _ => exact ⟨y0, y1, y2, rfl⟩
 try simp only [Rows.uptoBulk, Rows.uptoBulkAll, List.map_cons, List.map_nil]
 have g0 : Reads enc Tryz.prog W m 3 (([a0, a1, a2] : List Value).drop 0 |>.take (Tryz.prog.cellsOf 3)) y0 := hf 0 _ rfl
 rw [show Tryz.prog.cellsOf 3 = 1 by kernel_rfl] at g0
 have p0 := bulk_pos y0.1
 obtain ⟨z0, e0, q0, r0⟩ := dec_intW Tryz.underlying3 g0
 try simp at e0
 have g1 : Reads enc Tryz.prog W m 3 (([a0, a1, a2] : List Value).drop 1 |>.take (Tryz.prog.cellsOf 3)) y1 := hf 1 _ rfl
 rw [show Tryz.prog.cellsOf 3 = 1 by kernel_rfl] at g1
 have p1 := bulk_pos y1.1
 obtain ⟨z1, e1, q1, r1⟩ := dec_intW Tryz.underlying3 g1
 try simp at e1
 have g2 : Reads enc Tryz.prog W m 9 (([a0, a1, a2] : List Value).drop 2 |>.take (Tryz.prog.cellsOf 9)) y2 := hf 2 _ rfl
 rw [show Tryz.prog.cellsOf 9 = 1 by kernel_rfl] at g2
 have p2 := bulk_pos y2.1
 obtain ⟨z2, e2, r2⟩ := dec_strW Tryz.underlying9 g2
 try simp at e2
 subst e0
 subst e1
 subst e2
 exact ⟨(z0, (z1, z2)), rfl, ⟨q0, q1⟩, by unfold mSs; dsimp only; omega⟩
theorem decRaw {H : Type} {enc : TypeId × Value → H} {W : World} (n : Nat) (cs : List Value) (y : DataW H × List MemPlace) (h : Reads enc Tryz.prog W n 61 cs y) : ∃ (u us : Value) (l : List Rno) (ss : SsM) (zx : Int), cs = [u, us, vint zx] ∧ 1 + l.length + ss.length ≤ Rows.uptoBulk y.1 ∧ (Rows.uptoBulk y.1 ≤ 1048576 → RawA (Old W) u us l ss zx) := by
 obtain ⟨xs, m, -, rfl, hlen, hxs, hf⟩ := DataW.trod_struct Tryz.underlying61 h
 rw [show Tryz.prog.cellsOf 61 = 3 by kernel_rfl] at hlen
 obtain ⟨a0, a1, a2, rfl⟩ : ∃ a0 a1 a2, cs = [a0, a1, a2] := by
  match cs, hlen with
  | [a0, a1, a2], _ => exact ⟨a0, a1, a2, rfl⟩
 obtain ⟨y0, y1, y2, rfl⟩ : ∃ y0 y1 y2, xs = [y0, y1, y2] := by
  match xs, hxs with
  | [y0, y1, y2], _ => exact ⟨y0, y1, y2, rfl⟩
 try simp only [Rows.uptoBulk, Rows.uptoBulkAll, List.map_cons, List.map_nil]
 have g0 : Reads enc Tryz.prog W m 58 (([a0, a1, a2] : List Value).drop 0 |>.take (Tryz.prog.cellsOf 58)) y0 := hf 0 _ rfl
 rw [show Tryz.prog.cellsOf 58 = 1 by kernel_rfl] at g0
 have p0 := bulk_pos y0.1
 obtain ⟨⟨v0, l0⟩, e0, k0, q0, c0, r0⟩ := dec_sliceW rnC (fun z => NdQ (Old W) z) mNd Tryz.underlying58 (show Tryz.prog.cellsOf 124 = 12 by kernel_rfl) (by decide) (fun n cs y h => decNd n cs y h) g0
 dsimp only at e0 k0 q0 c0 r0
 have ck0 : isCell v0 = true := by obtain ⟨sa, sc, hs⟩ := rd_shape k0; rw [hs]; rfl
 try simp at e0
 have g1 : Reads enc Tryz.prog W m 59 (([a0, a1, a2] : List Value).drop 1 |>.take (Tryz.prog.cellsOf 59)) y1 := hf 1 _ rfl
 rw [show Tryz.prog.cellsOf 59 = 1 by kernel_rfl] at g1
 have p1 := bulk_pos y1.1
 obtain ⟨⟨v1, l1⟩, e1, k1, q1, c1, r1⟩ := dec_sliceW rsC (fun x : SN => I64 x.1 ∧ I64 x.2.1) mSs Tryz.underlying59 (show Tryz.prog.cellsOf 127 = 3 by kernel_rfl) (by decide) (fun n cs y h => decSs n cs y h) g1
 dsimp only at e1 k1 q1 c1 r1
 have ck1 : isCell v1 = true := by obtain ⟨sa, sc, hs⟩ := rd_shape k1; rw [hs]; rfl
 try simp at e1
 have g2 : Reads enc Tryz.prog W m 3 (([a0, a1, a2] : List Value).drop 2 |>.take (Tryz.prog.cellsOf 3)) y2 := hf 2 _ rfl
 rw [show Tryz.prog.cellsOf 3 = 1 by kernel_rfl] at g2
 have p2 := bulk_pos y2.1
 obtain ⟨z2, e2, q2, r2⟩ := dec_intW Tryz.underlying3 g2
 try simp at e2
 subst e0
 subst e1
 subst e2
 have h3 := sum_three (m := mNd) (fun a => by unfold mNd; omega) l0
 have h4 := sum_three (m := mSs) (fun a => by unfold mSs; omega) l1
 refine ⟨a0, a1, l0, l1, z2, rfl, by omega, fun hb => ?_⟩
 try simp only [Rows.uptoBulk, Rows.uptoBulkAll, List.map_cons, List.map_nil] at hb
 exact ⟨k0, k1, fun z hz => (q0 z hz).acl, fun z hz => (q0 z hz).cell, by omega, fun z hz => (q0 z hz).w (by have := sum_mem (m := mNd) hz; omega), fun x hx => ⟨(q1 x hx).1, (q1 x hx).2, by have h5 := sum_mem (m := mSs) hx; have h6 : mSs x = 3 + x.2.2.length := rfl; omega⟩, q2⟩
open Go Go.ChangeShapes Go.WideShapes Go.ChangeAt Go.RowKit
def mPt (y : Pt) : Nat := 9 + y.path.length + y.data.length + (y.acl.map mAc).sum
def mEn (e : En) : Nat := mPt e.x + (e.subs.map mPt).sum
def mFa (a : Fa) : Nat := 2 + mEn a.e
structure PtG (p : HP) (y : Pt) : Prop where
 own : I64 y.own
 num : I64 y.num
 acl : ∀ h : Hp, p h → rdS 2 h y.aclV y.acl.length (y.acl.flatMap acC)
 ac : isCell y.aclV = true
 sc : isCell y.subsV = true
 each : ∀ a ∈ y.acl, I64 a.1
structure EnG (p : HP) (e : En) : Prop where
 zx : I64 e.zx
 x : PtG p e.x
 subs : ∀ h : Hp, p h → rdS 8 h e.x.subsV e.subs.length (e.subs.flatMap ptC)
 each : ∀ y ∈ e.subs, PtG p y
theorem PtG.A {p : HP} {y : Pt} (h : PtG p y) (hm : mPt y ≤ 1048576) : PtA p y := by
 unfold mPt at hm
 exact ⟨h.acl, (aclW_of h.each (by omega)).few, by omega, h.sc, h.ac⟩
theorem PtG.N {p : HP} {y : Pt} (h : PtG p y) (hm : mPt y ≤ 1048576) : PtN y := by
 unfold mPt at hm
 exact ⟨h.own, h.num, by omega, aclW_of h.each (by omega)⟩
theorem subs_few (l : List Pt) : 3 * l.length ≤ (l.map mPt).sum := sum_three (fun y => by unfold mPt; omega) l
theorem EnG.T {p : HP} {e : En} (h : EnG p e) (hm : mEn e ≤ 1048576) : TxA p e.x e.subs := by
 unfold mEn at hm
 have := subs_few e.subs
 exact ⟨h.x.A (by omega), h.subs, by omega, fun y hy => (h.each y hy).A (by have := sum_mem (m := mPt) hy; omega)⟩
theorem EnG.N {p : HP} {e : En} (h : EnG p e) (hm : mEn e ≤ 1048576) : EnN e := by
 unfold mEn at hm
 exact ⟨h.zx, h.x.N (by omega), fun y hy => (h.each y hy).N (by have := sum_mem (m := mPt) hy; omega)⟩
theorem wtF_le : ∀ l : List Fa, wtF l ≤ (l.map mFa).sum
 | [] => by simp [wtF, wtL]
 | a :: l => by
  have h1 := wtF_le l
  have h2 := subs_few a.e.subs
  unfold wtF wtL at h1 ⊢
  rw [List.map_cons, List.map_cons, List.sum_cons, List.map_cons, List.sum_cons]
  have h3 : mFa a = 2 + (mPt a.e.x + (a.e.subs.map mPt).sum) := rfl
  omega
instance : Inhabited Pt := ⟨ptS 0 [] [] 0⟩
instance : Inhabited En := ⟨⟨0, 0, 0, ptS 0 [] [] 0, []⟩⟩
instance : Inhabited Fa := ⟨⟨0, 0, ⟨0, 0, 0, ptS 0 [] [] 0, []⟩⟩⟩
theorem decPt {H : Type} {enc : TypeId × Value → H} {W : World} (n : Nat) (cs : List Value) (y : DataW H × List MemPlace) (h : Reads enc Tryz.prog W n 37 cs y) : ∃ y0 : Pt, cs = ptC y0 ∧ PtG (Old W) y0 ∧ mPt y0 ≤ Rows.uptoBulk y.1 := by
 obtain ⟨xs, m, -, rfl, hlen, hxs, hf⟩ := DataW.trod_struct Tryz.underlying37 h
 rw [show Tryz.prog.cellsOf 37 = 8 by kernel_rfl] at hlen
 obtain ⟨a0, a1, a2, a3, a4, a5, a6, a7, rfl⟩ : ∃ a0 a1 a2 a3 a4 a5 a6 a7, cs = [a0, a1, a2, a3, a4, a5, a6, a7] := by
  match cs, hlen with
  | [a0, a1, a2, a3, a4, a5, a6, a7], _ => exact ⟨a0, a1, a2, a3, a4, a5, a6, a7, rfl⟩
 obtain ⟨y0, y1, y2, y3, y4, y5, y6, y7, rfl⟩ : ∃ y0 y1 y2 y3 y4 y5 y6 y7, xs = [y0, y1, y2, y3, y4, y5, y6, y7] := by
  match xs, hxs with
  | [y0, y1, y2, y3, y4, y5, y6, y7], _ => exact ⟨y0, y1, y2, y3, y4, y5, y6, y7, rfl⟩
 try simp only [Rows.uptoBulk, Rows.uptoBulkAll, List.map_cons, List.map_nil]
 have g0 : Reads enc Tryz.prog W m 3 (([a0, a1, a2, a3, a4, a5, a6, a7] : List Value).drop 0 |>.take (Tryz.prog.cellsOf 3)) y0 := hf 0 _ rfl
 rw [show Tryz.prog.cellsOf 3 = 1 by kernel_rfl] at g0
 have p0 := bulk_pos y0.1
 obtain ⟨z0, e0, q0, r0⟩ := dec_intW Tryz.underlying3 g0
 try simp at e0
 have g1 : Reads enc Tryz.prog W m 9 (([a0, a1, a2, a3, a4, a5, a6, a7] : List Value).drop 1 |>.take (Tryz.prog.cellsOf 9)) y1 := hf 1 _ rfl
 rw [show Tryz.prog.cellsOf 9 = 1 by kernel_rfl] at g1
 have p1 := bulk_pos y1.1
 obtain ⟨z1, e1, r1⟩ := dec_strW Tryz.underlying9 g1
 try simp at e1
 have g2 : Reads enc Tryz.prog W m 9 (([a0, a1, a2, a3, a4, a5, a6, a7] : List Value).drop 2 |>.take (Tryz.prog.cellsOf 9)) y2 := hf 2 _ rfl
 rw [show Tryz.prog.cellsOf 9 = 1 by kernel_rfl] at g2
 have p2 := bulk_pos y2.1
 obtain ⟨z2, e2, r2⟩ := dec_strW Tryz.underlying9 g2
 try simp at e2
 have g3 : Reads enc Tryz.prog W m 34 (([a0, a1, a2, a3, a4, a5, a6, a7] : List Value).drop 3 |>.take (Tryz.prog.cellsOf 34)) y3 := hf 3 _ rfl
 rw [show Tryz.prog.cellsOf 34 = 1 by kernel_rfl] at g3
 have p3 := bulk_pos y3.1
 obtain ⟨⟨v3, l3⟩, e3, k3, q3, c3, r3⟩ := dec_sliceW acC (fun a => I64 a.1) mAc Tryz.underlying34 (show Tryz.prog.cellsOf 90 = 2 by kernel_rfl) (by decide) (fun n cs y h => decAc n cs y h) g3
 dsimp only at e3 k3 q3 c3 r3
 have ck3 : isCell v3 = true := by obtain ⟨sa, sc, hs⟩ := rd_shape k3; rw [hs]; rfl
 try simp at e3
 have g4 : Reads enc Tryz.prog W m 3 (([a0, a1, a2, a3, a4, a5, a6, a7] : List Value).drop 4 |>.take (Tryz.prog.cellsOf 3)) y4 := hf 4 _ rfl
 rw [show Tryz.prog.cellsOf 3 = 1 by kernel_rfl] at g4
 have p4 := bulk_pos y4.1
 obtain ⟨z4, e4, q4, r4⟩ := dec_intW Tryz.underlying3 g4
 try simp at e4
 have g5 : Reads enc Tryz.prog W m 3 (([a0, a1, a2, a3, a4, a5, a6, a7] : List Value).drop 5 |>.take (Tryz.prog.cellsOf 3)) y5 := hf 5 _ rfl
 rw [show Tryz.prog.cellsOf 3 = 1 by kernel_rfl] at g5
 have p5 := bulk_pos y5.1
 obtain ⟨z5, e5, q5, r5⟩ := dec_intW Tryz.underlying3 g5
 try simp at e5
 have g6 : Reads enc Tryz.prog W m 31 (([a0, a1, a2, a3, a4, a5, a6, a7] : List Value).drop 6 |>.take (Tryz.prog.cellsOf 31)) y6 := hf 6 _ rfl
 rw [show Tryz.prog.cellsOf 31 = 1 by kernel_rfl] at g6
 have p6 := bulk_pos y6.1
 obtain ⟨z6, e6, q6, r6⟩ := dec_intW Tryz.underlying31 g6
 try simp at e6
 have g7 : Reads enc Tryz.prog W m 35 (([a0, a1, a2, a3, a4, a5, a6, a7] : List Value).drop 7 |>.take (Tryz.prog.cellsOf 35)) y7 := hf 7 _ rfl
 rw [show Tryz.prog.cellsOf 35 = 1 by kernel_rfl] at g7
 have p7 := bulk_pos y7.1
 obtain ⟨z7, e7, s7⟩ : ∃ z : Value, a7 = z ∧ isCell z = true := ⟨_, rfl, slice_cell Tryz.underlying35 g7⟩
 try simp at e7
 subst e0
 subst e1
 subst e2
 subst e3
 subst e4
 subst e5
 subst e6
 subst e7
 exact ⟨⟨z0, z1, z2, a3, l3, z4, z5, z6, a7⟩, rfl, ⟨q4, q5, k3, ck3, s7, q3⟩, by unfold mPt; dsimp only; omega⟩
theorem decPtD {H : Type} {enc : TypeId × Value → H} {W : World} (n : Nat) (cs : List Value) (y : DataW H × List MemPlace) (h : Reads enc Tryz.prog W n 37 cs y) : ∃ (y0 : Pt) (l : List Pt), cs = ptC y0 ∧ PtG (Old W) y0 ∧ (∀ h : Hp, Old W h → rdS 8 h y0.subsV l.length (l.flatMap ptC)) ∧ (∀ q ∈ l, PtG (Old W) q) ∧ mPt y0 + (l.map mPt).sum ≤ Rows.uptoBulk y.1 := by
 obtain ⟨xs, m, -, rfl, hlen, hxs, hf⟩ := DataW.trod_struct Tryz.underlying37 h
 rw [show Tryz.prog.cellsOf 37 = 8 by kernel_rfl] at hlen
 obtain ⟨a0, a1, a2, a3, a4, a5, a6, a7, rfl⟩ : ∃ a0 a1 a2 a3 a4 a5 a6 a7, cs = [a0, a1, a2, a3, a4, a5, a6, a7] := by
  match cs, hlen with
  | [a0, a1, a2, a3, a4, a5, a6, a7], _ => exact ⟨a0, a1, a2, a3, a4, a5, a6, a7, rfl⟩
 obtain ⟨y0, y1, y2, y3, y4, y5, y6, y7, rfl⟩ : ∃ y0 y1 y2 y3 y4 y5 y6 y7, xs = [y0, y1, y2, y3, y4, y5, y6, y7] := by
  match xs, hxs with
  | [y0, y1, y2, y3, y4, y5, y6, y7], _ => exact ⟨y0, y1, y2, y3, y4, y5, y6, y7, rfl⟩
 try simp only [Rows.uptoBulk, Rows.uptoBulkAll, List.map_cons, List.map_nil]
 have g0 : Reads enc Tryz.prog W m 3 (([a0, a1, a2, a3, a4, a5, a6, a7] : List Value).drop 0 |>.take (Tryz.prog.cellsOf 3)) y0 := hf 0 _ rfl
 rw [show Tryz.prog.cellsOf 3 = 1 by kernel_rfl] at g0
 have p0 := bulk_pos y0.1
 obtain ⟨z0, e0, q0, r0⟩ := dec_intW Tryz.underlying3 g0
 try simp at e0
 have g1 : Reads enc Tryz.prog W m 9 (([a0, a1, a2, a3, a4, a5, a6, a7] : List Value).drop 1 |>.take (Tryz.prog.cellsOf 9)) y1 := hf 1 _ rfl
 rw [show Tryz.prog.cellsOf 9 = 1 by kernel_rfl] at g1
 have p1 := bulk_pos y1.1
 obtain ⟨z1, e1, r1⟩ := dec_strW Tryz.underlying9 g1
 try simp at e1
 have g2 : Reads enc Tryz.prog W m 9 (([a0, a1, a2, a3, a4, a5, a6, a7] : List Value).drop 2 |>.take (Tryz.prog.cellsOf 9)) y2 := hf 2 _ rfl
 rw [show Tryz.prog.cellsOf 9 = 1 by kernel_rfl] at g2
 have p2 := bulk_pos y2.1
 obtain ⟨z2, e2, r2⟩ := dec_strW Tryz.underlying9 g2
 try simp at e2
 have g3 : Reads enc Tryz.prog W m 34 (([a0, a1, a2, a3, a4, a5, a6, a7] : List Value).drop 3 |>.take (Tryz.prog.cellsOf 34)) y3 := hf 3 _ rfl
 rw [show Tryz.prog.cellsOf 34 = 1 by kernel_rfl] at g3
 have p3 := bulk_pos y3.1
 obtain ⟨⟨v3, l3⟩, e3, k3, q3, c3, r3⟩ := dec_sliceW acC (fun a => I64 a.1) mAc Tryz.underlying34 (show Tryz.prog.cellsOf 90 = 2 by kernel_rfl) (by decide) (fun n cs y h => decAc n cs y h) g3
 dsimp only at e3 k3 q3 c3 r3
 have ck3 : isCell v3 = true := by obtain ⟨sa, sc, hs⟩ := rd_shape k3; rw [hs]; rfl
 try simp at e3
 have g4 : Reads enc Tryz.prog W m 3 (([a0, a1, a2, a3, a4, a5, a6, a7] : List Value).drop 4 |>.take (Tryz.prog.cellsOf 3)) y4 := hf 4 _ rfl
 rw [show Tryz.prog.cellsOf 3 = 1 by kernel_rfl] at g4
 have p4 := bulk_pos y4.1
 obtain ⟨z4, e4, q4, r4⟩ := dec_intW Tryz.underlying3 g4
 try simp at e4
 have g5 : Reads enc Tryz.prog W m 3 (([a0, a1, a2, a3, a4, a5, a6, a7] : List Value).drop 5 |>.take (Tryz.prog.cellsOf 3)) y5 := hf 5 _ rfl
 rw [show Tryz.prog.cellsOf 3 = 1 by kernel_rfl] at g5
 have p5 := bulk_pos y5.1
 obtain ⟨z5, e5, q5, r5⟩ := dec_intW Tryz.underlying3 g5
 try simp at e5
 have g6 : Reads enc Tryz.prog W m 31 (([a0, a1, a2, a3, a4, a5, a6, a7] : List Value).drop 6 |>.take (Tryz.prog.cellsOf 31)) y6 := hf 6 _ rfl
 rw [show Tryz.prog.cellsOf 31 = 1 by kernel_rfl] at g6
 have p6 := bulk_pos y6.1
 obtain ⟨z6, e6, q6, r6⟩ := dec_intW Tryz.underlying31 g6
 try simp at e6
 have g7 : Reads enc Tryz.prog W m 35 (([a0, a1, a2, a3, a4, a5, a6, a7] : List Value).drop 7 |>.take (Tryz.prog.cellsOf 35)) y7 := hf 7 _ rfl
 rw [show Tryz.prog.cellsOf 35 = 1 by kernel_rfl] at g7
 have p7 := bulk_pos y7.1
 obtain ⟨⟨v7, l7⟩, e7, k7, q7, c7, r7⟩ := dec_sliceW ptC (fun q => PtG (Old W) q) mPt Tryz.underlying35 (show Tryz.prog.cellsOf 37 = 8 by kernel_rfl) (by decide) (fun n cs y h => decPt n cs y h) g7
 dsimp only at e7 k7 q7 c7 r7
 have ck7 : isCell v7 = true := by obtain ⟨sa, sc, hs⟩ := rd_shape k7; rw [hs]; rfl
 try simp at e7
 subst e0
 subst e1
 subst e2
 subst e3
 subst e4
 subst e5
 subst e6
 subst e7
 exact ⟨⟨z0, z1, z2, a3, l3, z4, z5, z6, a7⟩, l7, rfl, ⟨q4, q5, k3, ck3, ck7, q3⟩, k7, q7, by unfold mPt; dsimp only; unfold mPt at r7; omega⟩
theorem decEn {H : Type} {enc : TypeId × Value → H} {W : World} (n : Nat) (cs : List Value) (y : DataW H × List MemPlace) (h : Reads enc Tryz.prog W n 39 cs y) : ∃ e : En, cs = enC e ∧ EnG (Old W) e ∧ mEn e ≤ Rows.uptoBulk y.1 := by
 obtain ⟨xs, m, -, rfl, hlen, hxs, hf⟩ := DataW.trod_struct Tryz.underlying39 h
 rw [show Tryz.prog.cellsOf 39 = 11 by kernel_rfl] at hlen
 obtain ⟨a0, a1, a2, a3, a4, a5, a6, a7, a8, a9, a10, rfl⟩ : ∃ a0 a1 a2 a3 a4 a5 a6 a7 a8 a9 a10, cs = [a0, a1, a2, a3, a4, a5, a6, a7, a8, a9, a10] := by
  match cs, hlen with
  | [a0, a1, a2, a3, a4, a5, a6, a7, a8, a9, a10], _ => exact ⟨a0, a1, a2, a3, a4, a5, a6, a7, a8, a9, a10, rfl⟩
 obtain ⟨y0, y1, y2, y3, rfl⟩ : ∃ y0 y1 y2 y3, xs = [y0, y1, y2, y3] := by
  match xs, hxs with
  | [y0, y1, y2, y3], _ => exact ⟨y0, y1, y2, y3, rfl⟩
 try simp only [Rows.uptoBulk, Rows.uptoBulkAll, List.map_cons, List.map_nil]
 have g0 : Reads enc Tryz.prog W m 3 (([a0, a1, a2, a3, a4, a5, a6, a7, a8, a9, a10] : List Value).drop 0 |>.take (Tryz.prog.cellsOf 3)) y0 := hf 0 _ rfl
 rw [show Tryz.prog.cellsOf 3 = 1 by kernel_rfl] at g0
 have p0 := bulk_pos y0.1
 obtain ⟨z0, e0, q0, r0⟩ := dec_intW Tryz.underlying3 g0
 try simp at e0
 have g1 : Reads enc Tryz.prog W m 3 (([a0, a1, a2, a3, a4, a5, a6, a7, a8, a9, a10] : List Value).drop 1 |>.take (Tryz.prog.cellsOf 3)) y1 := hf 1 _ rfl
 rw [show Tryz.prog.cellsOf 3 = 1 by kernel_rfl] at g1
 have p1 := bulk_pos y1.1
 obtain ⟨z1, e1, q1, r1⟩ := dec_intW Tryz.underlying3 g1
 try simp at e1
 have g2 : Reads enc Tryz.prog W m 3 (([a0, a1, a2, a3, a4, a5, a6, a7, a8, a9, a10] : List Value).drop 2 |>.take (Tryz.prog.cellsOf 3)) y2 := hf 2 _ rfl
 rw [show Tryz.prog.cellsOf 3 = 1 by kernel_rfl] at g2
 have p2 := bulk_pos y2.1
 obtain ⟨z2, e2, q2, r2⟩ := dec_intW Tryz.underlying3 g2
 try simp at e2
 have g3 : Reads enc Tryz.prog W m 37 (([a0, a1, a2, a3, a4, a5, a6, a7, a8, a9, a10] : List Value).drop 3 |>.take (Tryz.prog.cellsOf 37)) y3 := hf 3 _ rfl
 rw [show Tryz.prog.cellsOf 37 = 8 by kernel_rfl] at g3
 have p3 := bulk_pos y3.1
 obtain ⟨z3, l3, e3, q3, k3, s3, r3⟩ := decPtD _ _ _ g3
 try simp [ptC, enC] at e3
 subst e0
 subst e1
 subst e2
 obtain ⟨rfl, rfl, rfl, rfl, rfl, rfl, rfl, rfl⟩ := e3
 exact ⟨⟨z0, z1, z2, z3, l3⟩, rfl, ⟨q0, q3, k3, s3⟩, by unfold mEn; dsimp only; omega⟩
theorem decFa {H : Type} {enc : TypeId × Value → H} {W : World} (n : Nat) (cs : List Value) (y : DataW H × List MemPlace) (h : Reads enc Tryz.prog W n 72 cs y) : ∃ a : Fa, cs = faC a ∧ (EnG (Old W) a.e ∧ a.n ≤ 9223372036854775807) ∧ mFa a ≤ Rows.uptoBulk y.1 := by
 obtain ⟨xs, m, -, rfl, hlen, hxs, hf⟩ := DataW.trod_struct Tryz.underlying72 h
 rw [show Tryz.prog.cellsOf 72 = 13 by kernel_rfl] at hlen
 obtain ⟨a0, a1, a2, a3, a4, a5, a6, a7, a8, a9, a10, a11, a12, rfl⟩ : ∃ a0 a1 a2 a3 a4 a5 a6 a7 a8 a9 a10 a11 a12, cs = [a0, a1, a2, a3, a4, a5, a6, a7, a8, a9, a10, a11, a12] := by
  match cs, hlen with
  | [a0, a1, a2, a3, a4, a5, a6, a7, a8, a9, a10, a11, a12], _ => exact ⟨a0, a1, a2, a3, a4, a5, a6, a7, a8, a9, a10, a11, a12, rfl⟩
 obtain ⟨y0, y1, y2, rfl⟩ : ∃ y0 y1 y2, xs = [y0, y1, y2] := by
  match xs, hxs with
  | [y0, y1, y2], _ => exact ⟨y0, y1, y2, rfl⟩
 try simp only [Rows.uptoBulk, Rows.uptoBulkAll, List.map_cons, List.map_nil]
 have g0 : Reads enc Tryz.prog W m 3 (([a0, a1, a2, a3, a4, a5, a6, a7, a8, a9, a10, a11, a12] : List Value).drop 0 |>.take (Tryz.prog.cellsOf 3)) y0 := hf 0 _ rfl
 rw [show Tryz.prog.cellsOf 3 = 1 by kernel_rfl] at g0
 have p0 := bulk_pos y0.1
 obtain ⟨z0, e0, q0, r0⟩ := dec_intW Tryz.underlying3 g0
 try simp at e0
 have g1 : Reads enc Tryz.prog W m 3 (([a0, a1, a2, a3, a4, a5, a6, a7, a8, a9, a10, a11, a12] : List Value).drop 1 |>.take (Tryz.prog.cellsOf 3)) y1 := hf 1 _ rfl
 rw [show Tryz.prog.cellsOf 3 = 1 by kernel_rfl] at g1
 have p1 := bulk_pos y1.1
 obtain ⟨z1, e1, q1, r1⟩ := dec_intW Tryz.underlying3 g1
 try simp at e1
 have g2 : Reads enc Tryz.prog W m 39 (([a0, a1, a2, a3, a4, a5, a6, a7, a8, a9, a10, a11, a12] : List Value).drop 2 |>.take (Tryz.prog.cellsOf 39)) y2 := hf 2 _ rfl
 rw [show Tryz.prog.cellsOf 39 = 11 by kernel_rfl] at g2
 have p2 := bulk_pos y2.1
 obtain ⟨z2, e2, q2, r2⟩ := decEn _ _ _ g2
 try simp [ptC, enC] at e2
 subst e0
 subst e1
 obtain ⟨rfl, rfl, rfl, rfl, rfl, rfl, rfl, rfl, rfl, rfl, rfl⟩ := e2
 exact ⟨⟨z0, z1, z2⟩, rfl, ⟨q2, q1.2⟩, by unfold mFa; dsimp only; omega⟩
theorem dec_fas {H : Type} {enc : TypeId × Value → H} {W : World} {fuel : Nat} {cs : List Value} {x : DataW H × List MemPlace} (h : Reads enc Tryz.prog W fuel 68 cs x) (_ : Rows.uptoBulk x.1 ≤ 1048576) : ∃ (v : Value) (l : List Fa), cs = [v] ∧ ∀ N, N + Rows.uptoBulk x.1 ≤ 1048576 → FaA (Old W) v l N := by
 obtain ⟨⟨v, l⟩, h1, h2, h3, h4, h5⟩ := dec_sliceW faC (fun a => EnG (Old W) a.e ∧ a.n ≤ 9223372036854775807) mFa Tryz.underlying68 (show Tryz.prog.cellsOf 72 = 13 by kernel_rfl) (by decide) (fun n cs y h => decFa n cs y h) h
 dsimp only at h1 h2 h3 h4 h5
 refine ⟨v, l, h1, fun N hN => ?_⟩
 have hw := wtF_le l
 have hm : ∀ a ∈ l, mEn a.e ≤ 1048576 := fun a ha => by
  have h6 := sum_mem (m := mFa) ha
  have h7 : mFa a = 2 + mEn a.e := rfl
  omega
 exact ⟨h2, by omega, fun a ha => (h3 a ha).1.T (hm a ha), fun a ha => (h3 a ha).1.N (hm a ha), fun a ha => (h3 a ha).2, by omega⟩
end Go.Proofs.YtgppfpmmijbncaaGreatDoor
namespace Go.Proofs.YtgppfpmmijbncaaGreatDoor.snapFuzzy
open Go Go.ChangeShapes Go.WideShapes Go.ChangeAt Go.RowKit
theorem own : ownKnob Tryz.prog.godebug = none := by kernel_rfl
theorem laid : laidOutB Tryz.prog = true := by kernel_rfl
theorem readable : ∀ t ∈ Tryz.f7.params.toList, Tryz.prog.readableRec t = true ∧ t < Tryz.prog.types.size := by
 have h : (Tryz.f7.params.toList.all fun t => Tryz.prog.readableRec t && decide (t < Tryz.prog.types.size)) = true := by kernel_rfl
 intro t ht
 simpa using List.all_eq_true.1 h t ht
theorem contract (H : Type) (enc : TypeId × Value → H) (W : World) (base : Nat) (args : Array Value) (ds gs : List (DataW H)) (before : List MemPlace)
  (hval : ∀ (j : Nat) t v, Tryz.f7.params[j]? = some t → args[j]? = some v → Value.okWide Tryz.prog W .any base t v)
  (hW : DataW.Whole enc Tryz.prog Tryz.f7.params.toList Rows.snapFuzzySpec.vars false W args.toList ds gs before) (hk : Rows.uptoSmall H (ds ++ gs) = true) :
  Calls Tryz.prog 7 args W fun e W' => ∃ v, e = .returned v ∧ Rows.snapFuzzySpec.post enc Tryz.prog Tryz.f7 false true false false W args v W' := by
 have hW' := hW
 obtain ⟨p, q, hA, hV, rfl, hfz, hnd⟩ := hW
 obtain ⟨rfl, -⟩ := trodVars_none hV
 rw [List.append_nil] at hk
 have hpar : Tryz.f7.params = #[61, 68] := Tryz.params7
 rw [hpar] at hval
 have hA' := hA
 rw [hpar] at hA'
 obtain ⟨v0, vs0, d0, ds0, p0, r0, ha0, rfl, rfl, h0, t0⟩ := trodAll_cons hA'
 obtain ⟨v1, vs1, d1, ds1, p1, r1, ha1, rfl, rfl, h1, t1⟩ := trodAll_cons t0
 obtain ⟨hv, rfl, rfl⟩ := trodAll_nil t1
 obtain rfl : args = #[v0, v1] := by
  have e : args.toList = [v0, v1] := by rw [ha0, ha1, hv]
  cases args; simp_all
 have b0 := bulk_small hk (d := d0) (by simp)
 obtain ⟨ca0, rfl, -⟩ := okWide_struct Tryz.underlying61 (hval 0 _ _ rfl rfl)
 obtain ⟨fu0, g0⟩ := h0
 obtain ⟨u0, us0, l0, ss0, zx0, e0, q0⟩ := decRaw _ _ _ g0
 obtain rfl : ca0 = ([u0, us0, vint zx0] : List Value).toArray := by have := congrArg List.toArray e0; simpa [Value.cells] using this
 have b1 := bulk_small hk (d := d1) (by simp)
 obtain ⟨ad1, nn1, cp1, rfl⟩ := okWide_slice Tryz.underlying68 (hval 1 _ _ rfl rfl)
 obtain ⟨fu1, g1⟩ := h1
 obtain ⟨v1, xs1, e1, q1⟩ := dec_fas g1 b1
 simp [Value.cells] at e1
 subst e1
 refine (old_calls (snapFuzzy8_spec u0 us0 _ l0 ss0 zx0 xs1 (Old W) (q0.2 b0) _ rfl (q1 _ (by have hs := of_decide_eq_true hk; simp only [Rows.uptoBulkAll] at hs; have h0 := q0.1; dsimp only at h0 ⊢; omega)))).mono fun e W' ⟨he, hb⟩ => ⟨_, he, ?_⟩
 exact settled hW' rfl (fun gs' h => by subst h; rfl) rfl Tryz.underlying4 laid readable hb
def cellsTo (l : List Value) : Obj → Obj
 | .cells _ t frozen => .cells l.toArray t frozen
 | o => o
noncomputable def laidWorld (os : Os) : World :=
 let w := World.holding Tryz.prog os ⟨#[], #[], []⟩
 { w with heap := (w.heap.modify 1 (cellsTo (Pinned.utf8FirstZ.map fun (n : Nat) => Value.int .u8 n))).modify 2 (cellsTo [.int .u8 128, .int .u8 191, .int .u8 160, .int .u8 191, .int .u8 128, .int .u8 159, .int .u8 144, .int .u8 191, .int .u8 128, .int .u8 143, .int .u8 0, .int .u8 0, .int .u8 0, .int .u8 0, .int .u8 0, .int .u8 0, .int .u8 0, .int .u8 0, .int .u8 0, .int .u8 0, .int .u8 0, .int .u8 0, .int .u8 0, .int .u8 0, .int .u8 0, .int .u8 0, .int .u8 0, .int .u8 0, .int .u8 0, .int .u8 0, .int .u8 0, .int .u8 0]) }
theorem laid_met (os : Os) : laidMet Tryz.prog Rows.snapFuzzyUptoRow.laid ((laidWorld os).forCall (fun _ _ => 0) ⟨#[], #[.agg #[.slice none 0 0, .slice none 0 0, .int .i64 0], .slice none 0 0], []⟩).memory :=
 laidMet_of_run' 8 (by kernel_rfl) (by kernel_rfl)
theorem reads (os : Os) {H : Type} (enc : TypeId × Value → H) : ∃ places, DataW.whole enc Tryz.prog ((laidWorld os).forCall (fun _ _ => 0) ⟨#[], #[.agg #[.slice none 0 0, .slice none 0 0, .int .i64 0], .slice none 0 0], []⟩).memory Tryz.f7.params.toList Rows.snapFuzzySpec.vars false (#[.agg #[.slice none 0 0, .slice none 0 0, .int .i64 0], .slice none 0 0] : Array Value).toList 8 = some ([.agg [.nil, .nil, .lit (.int .i64 0)], .nil], [], places) :=
 ⟨[], by kernel_rfl⟩
theorem lifted (os : Os) (started : os.Started) (H : Type) (enc : TypeId × Value → H) (F : Stop.Interp) :
  ReturnsInHanded {} Tryz.checked os 7 .any ((Rows.OpenSpec.upto Rows.snapFuzzySpec).preRow enc Tryz.prog Tryz.f7 Rows.snapFuzzyUptoRow.domain false Rows.snapFuzzyUptoRow.laid) (((Rows.OpenSpec.upto Rows.snapFuzzySpec).at F).post enc Tryz.prog Tryz.f7 false true false false) := by
 obtain ⟨places, hx⟩ := reads os enc
 refine returnsInHanded_of_row (C := Tryz.checked) (s := Rows.OpenSpec.upto Rows.snapFuzzySpec) own started (by kernel_rfl) Tryz.func7
  (witness_row_at (enc := enc) (C := Tryz.checked) false (laidWorld os) #[.agg #[.slice none 0 0, .slice none 0 0, .int .i64 0], .slice none 0 0] rfl (by kernel_rfl) (by kernel_rfl) (by kernel_rfl)
   (OpenSpec.preRow_of_cond 8 hx (by kernel_rfl) (fun k hk => by cases hk; kernel_rfl) (by kernel_rfl) (laid_met os))) ?_
 intro W base args ds gs before hval hW _ hcond _ _ _ _
 exact contract H enc W base args ds gs before hval hW (hcond _ rfl)
theorem saidUpto : Rows.SnapFuzzyUptoSaid :=
 OpenClaim.holds_of_cond 7 Tryz.f7 rfl rfl rfl rfl rfl rfl rfl ⟨rfl, rfl, rfl, rfl, rfl⟩ rfl rfl rfl rfl rfl (by kernel_rfl) Tryz.func7 (by kernel_rfl)
  (of_decide_eq_true (by kernel_rfl)) (by unfold Func.isWrapper; first | (rw [if_pos (by decide +kernel)]; kernel_rfl) | (rw [if_neg (by decide +kernel)]; exact ⟨rfl, rfl⟩))
  (fun os started H enc _ F => by rw [OpenClaim.pre_eq_preRow]; exact lifted os started H enc F)
theorem plain (f : FuncId) (fn : Func) (hf : Tryz.pinned.checked.prog.funcNamed "arboretum/arboretumlaw08.SnapFuzzy" = some f) (hfn : Tryz.pinned.checked.prog.funcs[f]? = some fn) :
  false = Tryz.pinned.checked.prog.looks [] ∧ ∀ (j : Nat) t, fn.params[j]? = some t → Tryz.pinned.checked.prog.wantsStandIn t = false := by
 obtain rfl : f = 7 := Option.some.inj ((show Tryz.prog.funcNamed "arboretum/arboretumlaw08.SnapFuzzy" = some 7 by kernel_rfl).symm.trans hf) |>.symm
 obtain rfl : fn = Tryz.f7 := (Option.some.inj (Tryz.func7.symm.trans hfn)).symm
 refine ⟨by kernel_rfl, fun j t ht => ?_⟩
 have h : (Tryz.f7.params.toList.all fun t => !Tryz.pinned.checked.prog.wantsStandIn t) = true := by kernel_rfl
 have h2 := List.all_eq_true.1 h t (Array.mem_def.1 (Array.mem_of_getElem? ht))
 simpa using h2
theorem proved : Rows.SnapFuzzyUptoCardSaid :=
 Claim7.holds_tied_plain_at .later [] _ _ _ _ saidUpto (fun _ h => by cases h) (by kernel_rfl) (fun _ h => by cases h) snapFuzzyUpto_row_tie rfl ⟨rfl, rfl⟩ (by kernel_rfl) rfl plain (by kernel_rfl)
end Go.Proofs.YtgppfpmmijbncaaGreatDoor.snapFuzzy
