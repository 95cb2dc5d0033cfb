/- Own work, some of it printed by program, texts that were built one by one: a part of the proof of ledgerPlays.proved. -/
import Derived.Test.YtidjhgbdokcphaaGreatCLPlaysP1
import Derived.Test.YtidjhgbdokcphaaGreatCLPlaysP0
import Derived.Laws.StructEq
set_option maxRecDepth 100000
namespace Go.Proofs.YtidjhgbdokcphaaGreat
open Go
theorem long_spec (s : Bs) : Fn Tryz.prog 208 #[vstr s] [] fun v L => v = .bool (decide (s.length > 4000)) ∧ L = [] := by
 refine Fn.intro Tryz.func208 rfl rfl fun F W => ?_
 refine .sr (.an rfl (.sm rfl (.q (.strlen rfl Tryz.underlying9 rfl) rfl (.ui rfl rfl rfl (.an rfl (.ret ?_))))))
 exact .dn rfl rfl ⟨congrArg Value.bool (decide_eq_decide.2 (by omega)), rfl⟩
theorem indexLong_spec (v : Value) (l : List Bs) (p : HP) (hr : ∀ h : Hp, p h → rdS 1 h v l.length (strs l)) (hl : l.length ≤ 4294967296) : Fn Tryz.prog 225 #[v, .func (.func 208) #[] #[]] [p] fun u L => (∃ r : Int, u = vint r ∧ (decide (r ≥ 0) = l.any (fun s : Bs => decide (s.length > 4000)))) ∧ L = [p] := by
 refine Fn.intro Tryz.func225 rfl rfl fun F W => ?_
 refine .rdAny (p := p) hr (by repeat' constructor) fun aa ca e _ => ?_
 subst e
 refine .sr (.an rfl (.seq (.sm rfl (.q (.slen rfl Tryz.underlying46 rfl) rfl (.m rfl (.nt (.block (.loopK (ι := Nat) (fun q E => (8, vint q) :: E) (fun q => []) (fun q => q ≤ l.length ∧ ∀ j (hj : j < q) (hl : j < l.length), ¬ l[j].length > 4000) (fun q => l.length - q) (0) (ts := [0, 1, 7]) (.cons rfl (.cons rfl (.cons rfl (.nil)))) (⟨Nat.zero_le _, fun j hj => by omega⟩) ⟨rfl, rfl, rfl, rfl, trivial⟩ (by repeat' constructor) ?_))))))))
 rintro i ⟨hi, hb⟩
 refine .sr (.ui rfl rfl rfl (.nt (.seq (.condD rfl (fun h9 => ?_) (fun h9 => ?_)))))
 ·have hi2 : i < l.length := by omega
  refine .rdShape (p := p) hr (by repeat' constructor) (by omega) fun ba oa e => ?_
  subst e
  refine .sk (.seq (.block (.sm rfl (.an rfl (.sm rfl (.m rfl (.m rfl (.q (.indexAddr rfl rfl el_46 (by omega)) rfl (.q (.loadRd (sz := 1) (j := i) (p := p) (v := vstr l[i]) rfl ag_9 (by repeat' constructor) hr (by simp) (by simp [hi2])) rfl (.oq (.callV Tryz.func208 rfl rfl (us := []) (vs := [_]) (ws := []) rfl rfl (long_spec l[i])) ?_))))))))))
  rintro v L' ⟨rfl, rfl⟩
  refine .nt (.condD rfl (fun h16 => ?_) (fun h16 => ?_))
  ·refine .sm rfl (.an rfl (.ret (.blk_r (.then_r (.then_r (.blk_r (.then_r ?_)))))))
   exact .dn rfl rfl ⟨⟨_, rfl, by rw [decide_eq_true (by omega)]; exact (List.any_eq_true.2 ⟨l[i], List.getElem_mem hi2, decide_eq_true h16⟩).symm⟩, rfl⟩
  refine .skip (.blk_n (.then_n (.region (.q (.add rfl rfl (by omega)) rfl (.m rfl (.nt ?_))))))
  exact .rk (i + 1) (⟨by omega, fun j hj hl => by rcases Nat.lt_or_ge j i with h | h; exact hb j h hl; obtain rfl : j = i := (by omega); exact h16⟩) (by omega) ⟨rfl, rfl, rfl, rfl, trivial⟩
 refine .exit (.then_e (.then_e (.blk_e (.then_n (.sr (.an rfl (.ret ?_)))))))
 exact .dn rfl rfl ⟨⟨_, rfl, by rw [decide_eq_false (by decide)]; symm; rw [List.any_eq_false]; intro s hs; obtain ⟨j, hj, rfl⟩ := List.mem_iff_getElem.1 hs; simpa using hb j (by omega) hj⟩, rfl⟩
theorem containsLong_spec (v : Value) (l : List Bs) (p : HP) (hr : ∀ h : Hp, p h → rdS 1 h v l.length (strs l)) (hl : l.length ≤ 4294967296) : Fn Tryz.prog 207 #[v, .func (.func 208) #[] #[]] [p] fun u L => u = .bool (l.any (fun s : Bs => decide (s.length > 4000))) ∧ L = [p] := by
 refine Fn.intro Tryz.func207 rfl rfl fun F W => ?_
 refine .sr (.an rfl (.sm rfl (.m rfl (.oq (.c Tryz.func225 [_, _] (indexLong_spec v l p hr hl)) ?_))))
 rintro v' L' ⟨⟨r, rfl, hrl⟩, rfl⟩
 refine .ui rfl rfl rfl (.an rfl (.ret ?_))
 exact .dn rfl rfl ⟨congrArg Value.bool hrl, rfl⟩
theorem wrenew2_spec (x d : Nat) (ω : Wl) (δ : Dk) (va : Value) (l : List Bs) (p : HP) (hI : WlI δ ω) (hr : ∀ h : Hp, p h → rdS 1 h va l.length (strs l)) (hln : l.length ≤ 3000000) (hlb2 : (l.any fun s => decide (s.length > 4000)) = false → (laidZ l).length ≤ 3000000) : Fn Tryz.prog 180 #[vptr x, va] [wlR x d ω, dkR d δ, p] fun v L => v = vint (renewZ δ ω l).2.2 ∧ L = [wlR x d (renewZ δ ω l).2.1, dkR d (renewZ δ ω l).1, p] := by
 refine Fn.introD (vs := [vptr x, va]) Tryz.func180 rfl rfl ?_
 intro F W
 refine .wlOpen (ω := ω) (by repeat' constructor) fun vr vb => (.slAny (v := vr) (by repeat' constructor) fun arr crr e _ => ?_)
 subst e
 refine .slAny (v := vb) (by repeat' constructor) fun abb cbb e _ => ?_
 subst e
 refine .slAddr (T := 9) (by repeat' constructor) fun hrc hra => ?_
 obtain ⟨hn, hA, har, hct, hsy, hfit⟩ := hI
 have hh := half_le hn
 have hll := laidZ_many ω.recs
 have hlk := layF_keeps ((laidZ l).length + 1) δ (1 - ω.area) (laidZ l) (0 / 64)
 have hlm := laidZ_many l
 refine .rdAny (p := p) hr (by repeat' constructor) fun aq cq e _ => ?_
 subst e
 refine .sr (.oq (.alloc ze_25) ?_)
 rintro v L' ⟨be, rfl, rfl⟩
 refine .nil (.ptCast (b := be) (l' := [vint 0]) (by repeat' constructor) rfl (.then_n (.sm rfl (.defer (vs := [_, _]) rfl (.nt (.seq (.block (.sm rfl (.nf rfl fo_142_8 (.u (.ld rfl ag_4) (.an rfl (.condB rfl (fun h8 => ?_) (fun h8 => ?_)))))))))))))
 ·refine .sr (.st rfl rfl rfl sz_25 ?_)
  refine .nil (.ptCast (b := be) (l' := [vint 34]) (by repeat' constructor) rfl (.then_n (.ret (.blk_r (.then_r (.doneD Tryz.func96 rfl rfl (doubts_spec x d (.slice arr ω.recs.length crr) ω.synced (.slice abb (laidZ ω.recs).length cbb) ω.area ω.count ω.a ω.b ω.doubt be 34) (by repeat' constructor) ?_))))))
  rintro u L' ⟨rfl, rfl⟩
  have e : renewZ δ ω l = (δ, ω, 34) := by unfold renewZ; rw [if_pos h8]
  rw [e, if_neg (show ¬ (34 : Int) = 2 by decide)]
  refine .wlFold (x := x) (d := d) (ω := ω) (by repeat' constructor) rfl rfl rfl rfl rfl ?_
  exact .d1 rfl (.cell rfl ag_25 (by repeat' constructor) rfl) ⟨rfl, rfl⟩
 have hdb : ¬ ω.doubt = true := by rw [h8]; decide
 refine .sm rfl (.cv Tryz.func207 [_, _] (containsLong_spec _ l p hr (by omega)) ?_)
 refine .an rfl (.condB rfl (fun h13 => ?_) (fun h13 => ?_))
 ·refine .sr (.st rfl rfl rfl sz_25 ?_)
  refine .nil (.ptCast (b := be) (l' := [vint 33]) (by repeat' constructor) rfl (.then_n (.ret (.blk_r (.then_r (.doneD Tryz.func96 rfl rfl (doubts_spec x d (.slice arr ω.recs.length crr) ω.synced (.slice abb (laidZ ω.recs).length cbb) ω.area ω.count ω.a ω.b ω.doubt be 33) (by repeat' constructor) ?_))))))
  rintro u L' ⟨rfl, rfl⟩
  have e : renewZ δ ω l = (δ, ω, 33) := by unfold renewZ; rw [if_neg hdb, if_pos h13]
  rw [e, if_neg (show ¬ (33 : Int) = 2 by decide)]
  refine .wlFold (x := x) (d := d) (ω := ω) (by repeat' constructor) rfl rfl rfl rfl rfl ?_
  exact .d1 rfl (.cell rfl ag_25 (by repeat' constructor) rfl) ⟨rfl, rfl⟩
 have hlb := hlb2 (by simpa using h13)
 have hlong : ¬ l.any (fun s : Bs => decide (s.length > 4000)) = true := by rw [h13]; decide
 refine .sm rfl (.m rfl (.q (.slen rfl Tryz.underlying46 rfl) rfl (.q (.mul rfl rfl (by omega)) rfl (.cv Tryz.func97 [_, _] (fits_spec x d (.slice arr ω.recs.length crr) ω.synced (.slice abb (laidZ ω.recs).length cbb) ω.area ω.count ω.a ω.b ω.doubt δ ((l.length : Int) * 6) hn) ?_))))
 refine .u (.not rfl) (.m rfl (.ndec (t := 23) rfl (fun h6_23 => ?_) (fun h6_23 => ?_)))
 ·refine .kNT (t := 22) rfl h6_23 (.gk (.gk (.gk (.gk (.gk (.u (.pickT rfl rfl) (.an rfl (.condT rfl (.sr (.st rfl rfl rfl sz_25 ?_))))))))))
  refine .nil (.ptCast (b := be) (l' := [vint 30]) (by repeat' constructor) rfl (.then_n (.ret (.blk_r (.then_r (.doneD Tryz.func96 rfl rfl (doubts_spec x d (.slice arr ω.recs.length crr) ω.synced (.slice abb (laidZ ω.recs).length cbb) ω.area ω.count ω.a ω.b ω.doubt be 30) (by repeat' constructor) ?_))))))
  rintro u L' ⟨rfl, rfl⟩
  have e : renewZ δ ω l = (δ, ω, 30) := by unfold renewZ; rw [if_neg hdb, if_neg hlong, if_pos (by first | exact .inl h6_23 | exact .inr h16)]
  rw [e, if_neg (show ¬ (30 : Int) = 2 by decide)]
  refine .wlFold (x := x) (d := d) (ω := ω) (by repeat' constructor) rfl rfl rfl rfl rfl ?_
  exact .d1 rfl (.cell rfl ag_25 (by repeat' constructor) rfl) ⟨rfl, rfl⟩
 refine .kNF (t := 22) rfl h6_23 (.grun (t := 23) rfl rfl rfl (.m rfl (.grun (t := 23) rfl rfl rfl (.u (.nilp rfl) (.grun (t := 23) rfl rfl rfl (.u (.fieldAddr rfl fo_142_5) (.grun (t := 23) rfl rfl rfl (.u (.ld rfl ag_3) (.grun (t := 23) rfl rfl rfl (.ui rfl rfl rfl (.u (.pickF rfl rfl) (.an rfl (.condD rfl (fun h16 => ?_) (fun h16 => ?_))))))))))))))
 ·refine .sr (.st rfl rfl rfl sz_25 ?_)
  refine .nil (.ptCast (b := be) (l' := [vint 30]) (by repeat' constructor) rfl (.then_n (.ret (.blk_r (.then_r (.doneD Tryz.func96 rfl rfl (doubts_spec x d (.slice arr ω.recs.length crr) ω.synced (.slice abb (laidZ ω.recs).length cbb) ω.area ω.count ω.a ω.b ω.doubt be 30) (by repeat' constructor) ?_))))))
  rintro u L' ⟨rfl, rfl⟩
  have e : renewZ δ ω l = (δ, ω, 30) := by unfold renewZ; rw [if_neg hdb, if_neg hlong, if_pos (by first | exact .inl h6_23 | exact .inr h16)]
  rw [e, if_neg (show ¬ (30 : Int) = 2 by decide)]
  refine .wlFold (x := x) (d := d) (ω := ω) (by repeat' constructor) rfl rfl rfl rfl rfl ?_
  exact .d1 rfl (.cell rfl ag_25 (by repeat' constructor) rfl) ⟨rfl, rfl⟩
 refine .skip (.blk_n (.then_n (.seq ?_)))
 have hfull : ¬ (¬ ((l.length : Int) * 6 ≤ 64 * halfZ δ) ∨ ω.count = 4294967295) := by rintro (h | h); exact h h6_23; exact h16 h
 refine .region (.m rfl (.oq (.c Tryz.func134 [_] (laid_spec _ l p hr (by omega))) ?_))
 rintro v L' ⟨⟨al, cl, rfl⟩, rfl⟩
 refine .an rfl (.seq (.sm rfl (.m rfl (.q (.slen rfl Tryz.underlying125 rfl) rfl (.cv Tryz.func97 [_, _] (fits_spec x d (.slice arr ω.recs.length crr) ω.synced (.slice abb (laidZ ω.recs).length cbb) ω.area ω.count ω.a ω.b ω.doubt δ (laidZ l).length hn) ?_)))))
 refine .u (.not rfl) (.nt (.condN rfl (fun h36 => ?_) (fun h36 => ?_)))
 ·refine .sr (.st rfl rfl rfl sz_25 ?_)
  refine .nil (.ptCast (b := be) (l' := [vint 30]) (by repeat' constructor) rfl (.then_n (.rt (.doneD Tryz.func96 rfl rfl (doubts_spec x d (.slice arr ω.recs.length crr) ω.synced (.slice abb (laidZ ω.recs).length cbb) ω.area ω.count ω.a ω.b ω.doubt be 30) (by repeat' constructor) ?_))))
  rintro u L' ⟨rfl, rfl⟩
  have e : renewZ δ ω l = (δ, ω, 30) := by unfold renewZ; rw [if_neg hdb, if_neg hlong, if_neg hfull, if_pos h36]
  rw [e, if_neg (show ¬ (30 : Int) = 2 by decide)]
  refine .wlFold (x := x) (d := d) (ω := ω) (by repeat' constructor) rfl rfl rfl rfl rfl ?_
  exact .d1 rfl (.cell rfl ag_25 (by repeat' constructor) rfl) ⟨rfl, rfl⟩
 refine .sk (.seq (.sm rfl (.m rfl (.nf rfl fo_142_4 (.u (.ld rfl ag_3) (.q (.sub rfl rfl (by omega)) rfl (.m rfl (.cv Tryz.func100 [_, _, _, _] (lay_spec4 x d (.slice arr ω.recs.length crr) ω.synced (.slice abb (laidZ ω.recs).length cbb) ω.area ω.count ω.a ω.b ω.doubt (.slice al (laidZ l).length cl) δ (1 - ω.area) (laidZ l) 0 (bytR (.slice al (laidZ l).length cl) (laidZ l)) hn (by omega) (by omega) (fun h hp => slR_rd hp) (by omega) (Nat.zero_le _)) ?_))))))))
 refine .an rfl (.sm rfl (.ui rfl rfl rfl (.nt (.condN rfl (fun h46 => ?_) (fun h46 => ?_)))))
 ·refine .sm rfl (.st rfl rfl rfl sz_25 ?_)
  refine .nil (.ptCast (b := be) (l' := [vint (layZ δ (1 - ω.area) (laidZ l) 0).2]) (by repeat' constructor) rfl (.then_n (.rt (.doneD Tryz.func96 rfl rfl (doubts_spec x d (.slice arr ω.recs.length crr) ω.synced (.slice abb (laidZ ω.recs).length cbb) ω.area ω.count ω.a ω.b ω.doubt be (layZ δ (1 - ω.area) (laidZ l) 0).2) (by repeat' constructor) ?_))))
  rintro u L' ⟨rfl, rfl⟩
  have h2 : (layZ δ (1 - ω.area) (laidZ l) 0).2 = 2 := by rcases layZ_err δ (1 - ω.area) (laidZ l) 0 with h | h; exact absurd h (by simpa using h46); exact h
  have e : renewZ δ ω l = ((layZ δ (1 - ω.area) (laidZ l) 0).1, { ω with doubt := true }, 2) := by unfold renewZ; rw [if_neg hdb, if_neg hlong, if_neg hfull, if_neg (fun h => h h36), if_pos (by simpa using h46), h2]; rfl
  rw [e, h2, if_pos rfl]
  refine .wlFold (x := x) (d := d) (ω := { ω with doubt := true }) (by repeat' constructor) rfl rfl rfl rfl rfl ?_
  exact .d1 rfl (.cell rfl ag_25 (by repeat' constructor) rfl) ⟨rfl, rfl⟩
 refine .sk (.sm rfl (.m rfl (.nf rfl fo_142_4 (.u (.ld rfl ag_3) (.q (.sub rfl rfl (by omega)) rfl (.m rfl (.m rfl (.oq (.c Tryz.func105 [_, _, _, _] (seal_spec x d (.slice arr ω.recs.length crr) (.slice abb (laidZ ω.recs).length cbb) ω (layZ δ (1 - ω.area) (laidZ l) 0).1 (1 - ω.area) _ (.slice al (laidZ l).length cl) l p (bytR (.slice al (laidZ l).length cl) (laidZ l)) hct ?hA66 ?hl67 hr (fun h hp => slR_rd hp))) ?_))))))))
 case hA66 => have := hlk.2; unfold layZ; omega
 case hl67 => omega
 rintro v L' (⟨δ', hs, rfl, rfl⟩ | ⟨δ', hs, rfl, vr', vb', rfl⟩)
 ·refine .st rfl rfl rfl sz_25 ?_
  refine .nil (.ptCast (b := be) (l' := [vint 2]) (by repeat' constructor) rfl (.then_n (.ret (.doneD Tryz.func96 rfl rfl (doubts_spec x d (.slice arr ω.recs.length crr) ω.synced (.slice abb (laidZ ω.recs).length cbb) ω.area ω.count ω.a ω.b ω.doubt be 2) (by repeat' constructor) ?_))))
  rintro u L' ⟨rfl, rfl⟩
  have e : renewZ δ ω l = (δ', { ω with doubt := true }, 2) := by unfold renewZ; rw [if_neg hdb, if_neg hlong, if_neg hfull, if_neg (fun h => h h36), if_neg (by simpa using h46), hs]; rfl
  rw [e, if_pos rfl]
  refine .wlFold (x := x) (d := d) (ω := { ω with doubt := true }) (by repeat' constructor) rfl rfl rfl rfl rfl ?_
  exact .d1 rfl (.cell rfl ag_25 (by repeat' constructor) rfl) ⟨rfl, rfl⟩
 refine .st rfl rfl rfl sz_25 ?_
 refine .nil (.ptCast (b := be) (l' := [vint 0]) (by repeat' constructor) rfl (.then_n (.ret (.doneD Tryz.func96 rfl rfl (doubts_spec x d vr' _ vb' _ _ _ _ _ be 0) (by repeat' constructor) ?_))))
 rintro u L' ⟨rfl, rfl⟩
 have e : renewZ δ ω l = (δ', { ω with recs := l, synced := l.length, area := 1 - ω.area, count := ω.count + 1 }, 0) := by unfold renewZ; rw [if_neg hdb, if_neg hlong, if_neg hfull, if_neg (fun h => h h36), if_neg (by simpa using h46), hs]; rfl
 rw [e, if_neg (show ¬ (0 : Int) = 2 by decide)]
 refine .wlFold (x := x) (d := d) (ω := { ω with recs := l, synced := l.length, area := 1 - ω.area, count := ω.count + 1 }) (by repeat' constructor) rfl rfl rfl rfl rfl ?_
 exact .d1 rfl (.cell rfl ag_25 (by repeat' constructor) rfl) ⟨rfl, rfl⟩
def mark1 : Mk := ⟨1, 0, 0, 0, 0, 0⟩
def fmtZ (δ : Dk) : Nat → Dk × Int
 | 0 => (δ, 0)
 | 1 => δ.write 0 zs
 | 2 => (δ.write 0 zs).1.write 1 mark1.sec
 | _ => ((δ.write 0 zs).1.write 1 mark1.sec).1.sync
def newW : Wl := ⟨[], 0, 0, 1, 0, 0, false⟩
def formatZ (δ : Dk) : Dk × Option Wl := if (fmtZ δ 1).2 ≠ 0 then ((fmtZ δ 1).1, none) else if (fmtZ δ 2).2 ≠ 0 then ((fmtZ δ 2).1, none) else if (fmtZ δ 3).2 ≠ 0 then ((fmtZ δ 3).1, none) else ((fmtZ δ 3).1, some newW)
theorem fmt1_spec (b1 d : Nat) (δ : Dk) (hA : δ.acts < 4611686018427387904) : Fn Tryz.prog 93 #[vptr b1] [ptc b1 [vptr d] 24, dkR d δ] fun v L => v = vint (δ.write 0 zs).2 ∧ L = [ptc b1 [vptr d] 24, dkR d (δ.write 0 zs).1] := by
 refine Fn.intro Tryz.func93 rfl rfl fun F W => ?_
 refine .sr (.an rfl (.seq (.draw [1, 3] [[0, 1, 2], [3], [4]] mixed (by kernel_rfl) (.go [ptc b1 [vptr d] 24] (by repeat' constructor) (.k rfl (.ld rfl ag_24) (.hh rfl (.make rfl rfl el_125 ze_5 rfl ⟨by simp, by simp; rfl⟩ ?hc3) ?_))))))
 case hc3 => omega
 rintro v L' ⟨bz, rfl, rfl⟩; rw [show (64 : Int).toNat = 64 from rfl]
 refine D.kv rfl (.bytesPt (cs := zs) rfl Tryz.underlying125 Tryz.underlying5 Tryz.underlying9 (by repeat' constructor) rfl (by decide) (by decide)) (.ph (.g0 (.hh rfl (.c Tryz.func23 [_, _, _] (write_spec d δ 0 zs hA)) ?_)))
 rintro v L' ⟨rfl, rfl⟩
 refine D.ph (.g0 (.kv rfl (.assign rfl) (.pf (.ret ?_))))
 exact .vv
theorem fmt2_spec (b1 d : Nat) (δ : Dk) (hA : δ.acts < 4611686018427387904) : Fn Tryz.prog 94 #[vptr b1] [ptc b1 [vptr d] 24, dkR d δ] fun v L => v = vint (δ.write 1 mark1.sec).2 ∧ L = [ptc b1 [vptr d] 24, dkR d (δ.write 1 mark1.sec).1] := by
 refine Fn.intro Tryz.func94 rfl rfl fun F W => ?_
 refine .sr (.an rfl (.seq (.draw [3] [[0, 1, 2, 3], [4]] mixed (by kernel_rfl) (.go [ptc b1 [vptr d] 24] (by repeat' constructor) (.kv rfl (.ld rfl ag_24) (.kv rfl (.to (v' := .agg (mkC mark1).toArray) (.build (us := [(0, _)]) fl_139 ze_139 rfl rfl (by simp [isCell])) rfl) (.m rfl (by kernel_rfl) (.c Tryz.func95 [_] (sector_spec mark1)) (by repeat' constructor) ?_)))))))
 refine D.hh rfl (.c Tryz.func23 [_, _, _] (write_spec d δ 1 mark1.sec hA)) ?_
 rintro v L' ⟨rfl, rfl⟩
 refine D.ph (.g0 (.kv rfl (.assign rfl) (.pf (.ret ?_))))
 exact .vv
theorem fmtZ_keeps (δ : Dk) (i : Nat) : (fmtZ δ i).1.now.length = δ.now.length ∧ (fmtZ δ i).1.acts ≤ δ.acts + 3 := by
 have h1 := write_keeps δ 0 zs
 have h2 := write_keeps (δ.write 0 zs).1 1 mark1.sec
 have h3 := sync_keeps ((δ.write 0 zs).1.write 1 mark1.sec).1
 match i with
 | 0 => exact ⟨rfl, by show δ.acts ≤ _; omega⟩
 | 1 => exact ⟨h1.1, by show (δ.write 0 zs).1.acts ≤ _; omega⟩
 | 2 => exact ⟨by show ((δ.write 0 zs).1.write 1 mark1.sec).1.now.length = _; omega, by show ((δ.write 0 zs).1.write 1 mark1.sec).1.acts ≤ _; omega⟩
 | (n + 3) => exact ⟨by show (((δ.write 0 zs).1.write 1 mark1.sec).1.sync).1.now.length = _; rw [h3.1]; omega, by show (((δ.write 0 zs).1.write 1 mark1.sec).1.sync).1.acts ≤ _; omega⟩
theorem ze_67 : zeroOf Tryz.prog 67 = some .nilFunc := by kernel_rfl
theorem ag_67 : aggOf Tryz.prog 67 = some none := by kernel_rfl
theorem format_spec (d : Nat) (δ : Dk) (hA : δ.acts + 10 < 4611686018427387904) : Fn Tryz.prog 44 #[vptr d] [dkR d δ] fun v L => ((formatZ δ).2 = none ∧ v = .tuple #[.pointer none, vint 2] ∧ L = [dkR d (formatZ δ).1]) ∨
    ((formatZ δ).2 = some newW ∧ ∃ x, v = .tuple #[vptr x, vint 0] ∧ L = [dkR d (formatZ δ).1, wlR x d newW]) := by
 refine Fn.intro Tryz.func44 rfl rfl fun F W => ?_
 have hk := fmtZ_keeps δ
 refine .sr (.oq (.box rfl) ?_)
 rintro v L' ⟨b1, rfl, rfl⟩
 refine .a rfl (.a rfl (.nil (.ptCast (b := b1) (l' := [vptr d]) (by repeat' constructor) rfl (.then_n (.seq (.sr (.u (.ld rfl ag_24) (.q (.ptreq rfl rfl Tryz.underlying24) rfl (.nt (.condF rfl (.sk (.seq (.sr (.q (.func (us := []) (vs := [_]) rfl rfl) rfl (.q (.func (us := []) (vs := [_]) rfl rfl) rfl (.u (.ld rfl ag_24) (.q (.func (us := [_]) (vs := []) rfl rfl) rfl (.oq (.buildSlice1 (vs := [_, _, _]) el_140 ze_67 rfl rfl rfl rfl rfl (by decide)) ?_))))))))))))))))))
 rintro v L' ⟨b3_4, rfl, rfl⟩
 refine .q (.slen rfl Tryz.underlying140 rfl) rfl (.m rfl (.nt (.block (.loopK (ι := Nat) (fun q E => (14, vint q) :: E) (fun q => [dkR d (fmtZ δ q).1]) (fun q => q ≤ 3 ∧ ∀ j, j < q → (fmtZ δ (j + 1)).2 = 0) (fun q => 3 - q) (0) (ts := [1, 12, 13]) (.cons rfl (.cons rfl (.cons rfl (.nil)))) (⟨Nat.zero_le _, fun j hj => by omega⟩) ⟨rfl, rfl, rfl, rfl, trivial⟩ (by repeat' constructor) ?_))))
 rintro i ⟨hi, hb⟩
 refine .sr (.ui rfl rfl rfl (.nt (.seq (.condD rfl (fun h15 => ?_) (fun h15 => ?_)))))
 ·refine .sk (.seq (.block (.sr ?_)))
  rcases (show i = 0 ∨ i = 1 ∨ i = 2 by omega) with rfl | rfl | rfl
  ·refine .q (.indexAddr rfl rfl el_140 (by omega)) rfl (.u (.ld rfl ag_67) (.an rfl (.sm rfl (.oq (.callV Tryz.func93 rfl rfl (us := []) (vs := []) (ws := [_]) rfl rfl (fmt1_spec b1 d δ (by omega))) ?_))))
   rintro v L' ⟨rfl, rfl⟩
   refine .ui rfl rfl rfl (.nt (.condN rfl (fun h20 => ?_) (fun h20 => ?_)))
   ·refine .sr (.a rfl (.an rfl (.ret (.blk_r (.then_r (.then_r (.blk_r (.then_r ?_))))))))
    have hF : formatZ δ = ((fmtZ δ 1).1, none) := by unfold formatZ; rw [if_pos (show (fmtZ δ 1).2 ≠ 0 from h20)]
    exact .dn rfl rfl (.inl ⟨by rw [hF], rfl, by rw [hF]⟩)
   refine .skip (.blk_n (.then_n (.region (.q (.add rfl rfl (by omega)) rfl (.m rfl (.nt ?_))))))
   exact .rk (1) (⟨by omega, fun j hj => by rcases Nat.lt_or_ge j 0 with h | h; exact hb j h; obtain rfl : j = 0 := (by omega); exact h20⟩) (by omega) ⟨rfl, rfl, rfl, rfl, trivial⟩
  ·refine .q (.indexAddr rfl rfl el_140 (by omega)) rfl (.u (.ld rfl ag_67) (.an rfl (.sm rfl (.oq (.callV Tryz.func94 rfl rfl (us := []) (vs := []) (ws := [_]) rfl rfl (fmt2_spec b1 d (fmtZ δ 1).1 (by have := (fmtZ_keeps δ 1).2; omega))) ?_))))
   rintro v L' ⟨rfl, rfl⟩
   refine .ui rfl rfl rfl (.nt (.condN rfl (fun h20 => ?_) (fun h20 => ?_)))
   ·refine .sr (.a rfl (.an rfl (.ret (.blk_r (.then_r (.then_r (.blk_r (.then_r ?_))))))))
    have hF : formatZ δ = ((fmtZ δ 2).1, none) := by unfold formatZ; rw [if_neg (by rw [hb 0 (by omega)]; decide), if_pos (show (fmtZ δ 2).2 ≠ 0 from h20)]
    exact .dn rfl rfl (.inl ⟨by rw [hF], rfl, by rw [hF]⟩)
   refine .skip (.blk_n (.then_n (.region (.q (.add rfl rfl (by omega)) rfl (.m rfl (.nt ?_))))))
   exact .rk (2) (⟨by omega, fun j hj => by rcases Nat.lt_or_ge j 1 with h | h; exact hb j h; obtain rfl : j = 1 := (by omega); exact h20⟩) (by omega) ⟨rfl, rfl, rfl, rfl, trivial⟩
  refine .q (.indexAddr rfl rfl el_140 (by omega)) rfl (.u (.ld rfl ag_67) (.an rfl (.sm rfl (.oq (.callV Tryz.func86 rfl rfl (us := [_]) (vs := []) (ws := []) rfl rfl (sync_spec d (fmtZ δ 2).1 ?hA34)) ?_))))
  case hA34 => have := (fmtZ_keeps δ 2).2; omega
  rintro v L' ⟨rfl, rfl⟩
  refine .ui rfl rfl rfl (.nt (.condN rfl (fun h20 => ?_) (fun h20 => ?_)))
  ·refine .sr (.a rfl (.an rfl (.ret (.blk_r (.then_r (.then_r (.blk_r (.then_r ?_))))))))
   have hF : formatZ δ = ((fmtZ δ 3).1, none) := by unfold formatZ; rw [if_neg (by rw [hb 0 (by omega)]; decide), if_neg (by rw [hb 1 (by omega)]; decide), if_pos (show (fmtZ δ 3).2 ≠ 0 from h20)]
   exact .dn rfl rfl (.inl ⟨by rw [hF], rfl, by rw [hF]⟩)
  refine .skip (.blk_n (.then_n (.region (.q (.add rfl rfl (by omega)) rfl (.m rfl (.nt ?_))))))
  exact .rk (3) (⟨by omega, fun j hj => by rcases Nat.lt_or_ge j 2 with h | h; exact hb j h; obtain rfl : j = 2 := (by omega); exact h20⟩) (by omega) ⟨rfl, rfl, rfl, rfl, trivial⟩
 refine .exit (.then_e (.then_e (.blk_e (.then_n (.seq ?_)))))
 obtain rfl : i = 3 := by omega
 refine .add (slR_nil 9 1) (.add (slR_nil 5 1) (.region (.u (.ld rfl ag_24) (.q (.build (us := [(0, _), (5, _)]) fl_142 ze_142 rfl rfl (by simp [isCell])) rfl (.oq (.box rfl) ?_)))))
 rintro v L' ⟨x, rfl, rfl⟩
 refine .a rfl (.a rfl (.nil (.ptCast (b := x) (l' := [vptr d, .slice none 0 0, vint 0, .slice none 0 0, vint 0, vint 1, vint 0, vint 0, .bool false]) (by repeat' constructor) rfl (.then_n (.ret ?_)))))
 have hF : formatZ δ = ((fmtZ δ 3).1, some newW) := by unfold formatZ; rw [if_neg (by rw [hb 0 (by omega)]; decide), if_neg (by rw [hb 1 (by omega)]; decide), if_neg (by rw [hb 2 (by omega)]; decide)]
 refine .wlFold (x := x) (d := d) (ω := newW) (by repeat' constructor) rfl rfl rfl rfl rfl ?_
 exact .dn rfl rfl (.inr ⟨by rw [hF], x, rfl, by rw [hF]⟩)
def ab : Bs := [97, 98]
section
variable {W : World} {n : Nat} {ds : List Deferred} {E : Env} {L R : List HP} {X : Act → World → Prop}
theorem G.dkOk {d : Nat} {δ : Dk} (hL : Pick (dkR d δ) L R) (h : δ.Ok → G W n ds E L X) : G W n ds E L X := by
 intro ac w he hk hs
 obtain ⟨g1, -, hp⟩ := sep_head (hs.pick hL)
 obtain ⟨x, hok, -⟩ := hp
 exact h hok ac w he hk hs
end
structure Al (δ : Dk) : Prop where
 dead : δ.dead = false
 left : δ.left = 0
theorem al_act {δ : Dk} (h : Al δ) : δ.act.2 = 0 ∧ Al δ.act.1 := by
 obtain ⟨h1, h2⟩ := h
 exact ⟨by simp [Dk.act, actE, h2], by simp [Dk.act, actD, h1, h2], by simp [Dk.act, actL, h2]⟩
theorem al_write {δ : Dk} (h : Al δ) {n : Int} {s : Bs} (hn : 0 ≤ n ∧ n < δ.now.length) (hs : s.length = 64) : (δ.write n s).2 = 0 ∧ Al (δ.write n s).1 ∧ (δ.write n s).1.now = δ.now.set n.toNat s := by
 have hh : δ.has n = true := by simp [Dk.has, hn.1, hn.2]
 have hp : Al (δ.put n s) := ⟨h.dead, h.left⟩
 have e : δ.write n s = (δ.put n s).act := by unfold Dk.write; rw [if_neg (by rw [h.dead]; decide), if_neg (by rw [hh]; simp [hs])]
 rw [e]
 exact ⟨(al_act hp).1, (al_act hp).2, rfl⟩
theorem al_sync {δ : Dk} (h : Al δ) : δ.sync.2 = 0 ∧ Al δ.sync.1 ∧ δ.sync.1.now = δ.now := by
 have e : δ.sync = ({ δ.act.1 with old := [] }, 0) := by unfold Dk.sync; rw [if_neg (by rw [h.dead]; decide), if_pos (al_act h).1]
 rw [e]
 exact ⟨rfl, ⟨(al_act h).2.dead, (al_act h).2.left⟩, rfl⟩
theorem lay_in {δ : Dk} {area : Int} {all : Bs} {i : Nat} (ha : 0 ≤ area ∧ area ≤ 1) (hn : 2 ≤ δ.now.length) (hl : (all.length : Int) ≤ 64 * halfZ δ) (hi : i * 64 < all.length) : 2 ≤ 2 + area * halfZ δ + i ∧ 2 + area * halfZ δ + i < δ.now.length := by
 have e : halfZ δ = ((δ.now.length : Int) - 2) / 2 := rfl
 generalize halfZ δ = k at *
 rcases (by omega : area = 0 ∨ area = 1) with rfl | rfl <;> omega
theorem al_lay : ∀ (f : Nat) (δ : Dk) (area : Int) (all : Bs) (i : Nat), Al δ → 0 ≤ area ∧ area ≤ 1 → 2 ≤ δ.now.length → (all.length : Int) ≤ 64 * halfZ δ → (layF f δ area all i).2 = 0 ∧ Al (layF f δ area all i).1 := by
 intro f
 induction f with
 | zero => intro δ area all i h _ _ _; exact ⟨rfl, h⟩
 | succ f ih =>
  intro δ area all i h ha hn hl
  simp only [layF]
  split
  ·rename_i hi
   have hr := lay_in ha hn hl hi
   obtain ⟨w1, w2, w3⟩ := al_write h (n := 2 + area * halfZ δ + i) (s := laySec all i) ⟨by omega, hr.2⟩ (laySec_len _ _)
   rw [if_neg (by rw [w1]; decide)]
   have hlen : (δ.write (2 + area * halfZ δ + i) (laySec all i)).1.now.length = δ.now.length := (write_keeps _ _ _).1
   exact ih _ _ _ _ w2 ha (by rw [hlen]; exact hn) (by rw [halfZ_of hlen]; exact hl)
  ·exact ⟨rfl, h⟩
theorem sec_len4 (m : Mk) : m.sec.length = 64 := by simp [Mk.sec, beB_len]
theorem al_next {δ : Dk} (h : Al δ) (hn : 2 ≤ δ.now.length) (m : Mk) : (nextZ δ m).2 = 0 ∧ Al (nextZ δ m).1 ∧ (nextZ δ m).1.now = δ.now.set (m.count % 2).toNat m.sec := by
 obtain ⟨w1, w2, w3⟩ := al_write h (n := m.count % 2) (s := m.sec) ⟨by omega, by omega⟩ (sec_len4 m)
 obtain ⟨s1, s2, s3⟩ := al_sync w2
 unfold nextZ
 rw [if_neg (by rw [w1]; decide), if_neg (by rw [s1]; decide)]
 exact ⟨rfl, s2, s3.trans w3⟩
theorem al_seal {δ : Dk} (h : Al δ) (hn : 2 ≤ δ.now.length) (ω : Wl) (area : Int) (l : List Bs) : ∃ δ', sealZ δ ω area l = (δ', { ω with recs := l, synced := l.length, area := area, count := ω.count + 1 }, 0) ∧ Al δ' ∧ δ'.now = δ.now.set ((ω.count + 1) % 2).toNat (ω.mark area l ω.a ω.b).sec ∧ δ'.acts ≤ δ.acts + 3 := by
 obtain ⟨s1, s2, s3⟩ := al_sync h
 have sk := sync_keeps δ
 obtain ⟨n1, n2, n3⟩ := al_next s2 (by rw [s3]; exact hn) (ω.mark area l ω.a ω.b)
 have nk := nextZ_keeps δ.sync.1 (ω.mark area l ω.a ω.b)
 refine ⟨(nextZ δ.sync.1 (ω.mark area l ω.a ω.b)).1, ?_, n2, by rw [n3, s3]; rfl, by omega⟩
 unfold sealZ
 rw [if_neg (by rw [s1]; decide), if_neg (by rw [n1]; decide)]
structure Well (δ : Dk) (ω : Wl) (N : Int) : Prop where
 al : Al δ
 doubt : ω.doubt = false
 size : 2 ≤ δ.now.length ∧ δ.now.length ≤ 32768
 acts : δ.acts ≤ N
 area : 0 ≤ ω.area ∧ ω.area ≤ 1
 count : 0 ≤ ω.count ∧ ω.count ≤ 4294967295
 synced : 0 ≤ ω.synced ∧ ω.synced ≤ ω.recs.length
 fits : ((laidZ ω.recs).length : Int) ≤ 64 * halfZ δ
theorem Well.i {δ : Dk} {ω : Wl} {N : Int} (h : Well δ ω N) (hN : N ≤ 1000000000000) : WlI δ ω := ⟨h.size, by have := h.acts; omega, h.area, h.count, h.synced, h.fits⟩
theorem Well.more {δ : Dk} {ω : Wl} {N M : Int} (h : Well δ ω N) (hN : N ≤ M) : Well δ ω M := ⟨h.al, h.doubt, h.size, by have := h.acts; omega, h.area, h.count, h.synced, h.fits⟩
theorem layZ_keeps (δ : Dk) (area : Int) (all : Bs) (frm : Nat) : (layZ δ area all frm).1.now.length = δ.now.length ∧ (layZ δ area all frm).1.acts ≤ δ.acts + (all.length + 1) := by
 have := layF_keeps (all.length + 1) δ area all (frm / 64)
 exact ⟨this.1, by have := this.2; show (layF _ _ _ _ _).1.acts ≤ _; omega⟩
theorem laid_take_le (l : List Bs) (k : Nat) : (laidZ (l.take k)).length ≤ (laidZ l).length := laidZ_take_len l k
theorem well_append {δ : Dk} {ω : Wl} {N : Int} (h : Well δ ω N) (s : Bs) :
    Well (appendZ δ ω s).1 (appendZ δ ω s).2.1 (N + 2000000) ∧ (appendZ δ ω s).1.now.length = δ.now.length ∧
    ((s.length ≤ 4000 ∧ ((laidZ ω.recs).length : Int) + s.length + 6 ≤ 64 * halfZ δ ∧ (appendZ δ ω s).2 = ({ ω with recs := ω.recs ++ [s] }, 0)) ∨
     (s.length > 4000 ∧ appendZ δ ω s = (δ, ω, 33)) ∨ (s.length ≤ 4000 ∧ ¬ ((laidZ ω.recs).length : Int) + s.length + 6 ≤ 64 * halfZ δ ∧ appendZ δ ω s = (δ, ω, 30))) := by
  have hm := h.more (M := N + 2000000) (by omega)
  by_cases h1 : s.length > 4000
  · have e : appendZ δ ω s = (δ, ω, 33) := by unfold appendZ; rw [if_neg (by rw [h.doubt]; decide), if_pos h1]
    rw [e]; exact ⟨hm, rfl, .inr (.inl ⟨h1, rfl⟩)⟩
  by_cases h2 : ((laidZ ω.recs).length : Int) + s.length + 6 ≤ 64 * halfZ δ
  · have hl : (laidZ ω.recs ++ recZ s).length = (laidZ ω.recs).length + s.length + 6 := by rw [List.length_append, recZ_len]; omega
    have hh := half_le h.size
    obtain ⟨a1, a2⟩ := al_lay ((laidZ ω.recs ++ recZ s).length + 1) δ ω.area (laidZ ω.recs ++ recZ s) ((laidZ ω.recs).length / 64) h.al h.area h.size.1 (by omega)
    have ak := layZ_keeps δ ω.area (laidZ ω.recs ++ recZ s) (laidZ ω.recs).length
    have e : appendZ δ ω s = ((layZ δ ω.area (laidZ ω.recs ++ recZ s) (laidZ ω.recs).length).1, { ω with recs := ω.recs ++ [s] }, 0) := by
      unfold appendZ; rw [if_neg (by rw [h.doubt]; decide), if_neg h1, if_neg (fun g => g h2), if_neg (by show ¬ (layF _ _ _ _ _).2 ≠ 0; rw [a1]; decide)]
    rw [e]
    refine ⟨⟨a2, h.doubt, by rw [ak.1]; exact h.size, ?_, h.area, h.count, ?_, ?_⟩, ak.1, .inl ⟨by omega, h2, rfl⟩⟩
    · have := h.acts; have := ak.2; dsimp only; omega
    · have := h.synced; simp; omega
    · rw [halfZ_of ak.1]; show ((laidZ (ω.recs ++ [s])).length : Int) ≤ _
      rw [laidZ_append, show laidZ [s] = recZ s by simp [laidZ], hl]; omega
  · have e : appendZ δ ω s = (δ, ω, 30) := by unfold appendZ; rw [if_neg (by rw [h.doubt]; decide), if_neg h1, if_pos h2]
    rw [e]; exact ⟨hm, rfl, .inr (.inr ⟨by omega, h2, rfl⟩)⟩
theorem well_seal {δ : Dk} {ω : Wl} {N : Int} (h : Well δ ω N) (hc : ω.count ≠ 4294967295) {area : Int} (ha : 0 ≤ area ∧ area ≤ 1) {l : List Bs} (hl : ((laidZ l).length : Int) ≤ 64 * halfZ δ) {δ1 : Dk} (h1 : Al δ1) (h2 : δ1.now.length = δ.now.length) (h3 : δ1.acts ≤ N + 1900000) :
  (dbt (sealZ δ1 ω area l)).2 = ({ ω with recs := l, synced := l.length, area := area, count := ω.count + 1 }, 0) ∧ Well (dbt (sealZ δ1 ω area l)).1 { ω with recs := l, synced := l.length, area := area, count := ω.count + 1 } (N + 2000000) ∧ (dbt (sealZ δ1 ω area l)).1.now = δ1.now.set ((ω.count + 1) % 2).toNat (ω.mark area l ω.a ω.b).sec := by
 obtain ⟨δ', e, a1, a2, a3⟩ := al_seal h1 (by rw [h2]; exact h.size.1) ω area l
 rw [e]
 have e2 : dbt (δ', { ω with recs := l, synced := l.length, area := area, count := ω.count + 1 }, 0) = (δ', { ω with recs := l, synced := l.length, area := area, count := ω.count + 1 }, 0) := rfl
 rw [e2]
 have hlen : δ'.now.length = δ.now.length := by rw [a2, List.length_set, h2]
 have := h.count
 refine ⟨rfl, ⟨a1, h.doubt, by rw [hlen]; exact h.size, ?_, ha, ?_, ?_, ?_⟩, a2⟩
 ·dsimp only; omega
 ·dsimp only; omega
 ·dsimp only; omega
 ·dsimp only; rw [halfZ_of hlen]; exact hl
structure Kept (δ : Dk) (ω : Wl) (N : Int) (r : Dk × Wl × Int) : Prop where
 well : Well r.1 r.2.1 (N + 2000000)
 len : r.1.now.length = δ.now.length
theorem Kept.same {δ : Dk} {ω : Wl} {N : Int} (h : Well δ ω N) {e : Int} : Kept δ ω N (δ, ω, e) := ⟨h.more (by omega), rfl⟩
theorem kept_seal {δ : Dk} {ω : Wl} {N : Int} (h : Well δ ω N) (hc : ω.count ≠ 4294967295) {area : Int} (ha : 0 ≤ area ∧ area ≤ 1) {l : List Bs} (hl : ((laidZ l).length : Int) ≤ 64 * halfZ δ) {δ1 : Dk} (h1 : Al δ1) (h2 : δ1.now.length = δ.now.length) (h3 : δ1.acts ≤ N + 1900000) : Kept δ ω N (dbt (sealZ δ1 ω area l)) := by
 obtain ⟨e, w, n⟩ := well_seal h hc ha hl h1 h2 h3
 exact ⟨by rw [e]; exact w, by rw [n, List.length_set, h2]⟩
theorem kept_sync {δ : Dk} {ω : Wl} {N : Int} (h : Well δ ω N) : Kept δ ω N (syncZ δ ω) := by
 unfold syncZ
 rw [if_neg (by rw [h.doubt]; decide)]
 split
 ·exact .same h
 ·split
  ·exact .same h
  ·rename_i hc
   exact kept_seal h hc h.area h.fits h.al rfl (by have := h.acts; omega)
theorem kept_setm {δ : Dk} {ω : Wl} {N : Int} (h : Well δ ω N) (a b : Int) : Kept δ ω N (setmZ δ ω a b) := by
 unfold setmZ
 rw [if_neg (by rw [h.doubt]; decide)]
 split
 ·exact .same h
 ·split
  ·exact .same h
  ·rename_i h1 hc
   obtain ⟨n1, n2, n3⟩ := al_next h.al h.size.1 (ω.mark ω.area (ω.recs.take ω.synced.toNat) a b)
   have nk := nextZ_keeps δ (ω.mark ω.area (ω.recs.take ω.synced.toNat) a b)
   rw [if_neg (by rw [n1]; decide)]
   have := h.count; have := h.acts
   refine ⟨⟨n2, h.doubt, by dsimp only; rw [nk.1]; exact h.size, ?_, h.area, ?_, h.synced, ?_⟩, nk.1⟩
   ·dsimp only; omega
   ·dsimp only; omega
   ·dsimp only; rw [halfZ_of nk.1]; exact h.fits
theorem new_al (n : Int) : Al (Dk.new n) := ⟨rfl, rfl⟩
theorem format_well {n : Int} (h : 16 ≤ n ∧ n ≤ 32768) : (formatZ (Dk.new n)).2 = some newW ∧ Well (formatZ (Dk.new n)).1 newW 3 ∧ (formatZ (Dk.new n)).1.now = ((Dk.new n).now.set 0 zs).set 1 mark1.sec := by
 have hl : (Dk.new n).now.length = n.toNat := by simp [Dk.new]
 obtain ⟨a1, a2, a3⟩ := al_write (new_al n) (n := 0) (s := zs) ⟨by omega, by omega⟩ rfl
 have e1 : (fmtZ (Dk.new n) 1) = (Dk.new n).write 0 zs := rfl
 have l1 : ((Dk.new n).write 0 zs).1.now.length = n.toNat := by rw [a3, List.length_set, hl]
 obtain ⟨b1, b2, b3⟩ := al_write a2 (n := 1) (s := mark1.sec) ⟨by omega, by omega⟩ (sec_len4 _)
 have l2 : (((Dk.new n).write 0 zs).1.write 1 mark1.sec).1.now.length = n.toNat := by rw [b3, List.length_set, l1]
 obtain ⟨c1, c2, c3⟩ := al_sync b2
 have e : formatZ (Dk.new n) = ((fmtZ (Dk.new n) 3).1, some newW) := by
  unfold formatZ
  rw [if_neg (by rw [e1, a1]; decide), if_neg (by show ¬ (((Dk.new n).write 0 zs).1.write 1 mark1.sec).2 ≠ 0; rw [b1]; decide), if_neg (by show ¬ ((((Dk.new n).write 0 zs).1.write 1 mark1.sec).1.sync).2 ≠ 0; rw [c1]; decide)]
 rw [e]
 have hk := fmtZ_keeps (Dk.new n) 3
 have h0 : (Dk.new n).acts = 0 := rfl
 have hn3 : (fmtZ (Dk.new n) 3).1.now = (((Dk.new n).write 0 zs).1.write 1 mark1.sec).1.now := c3
 have l3 : (fmtZ (Dk.new n) 3).1.now.length = n.toNat := by rw [hn3, l2]
 refine ⟨rfl, ⟨c2, rfl, by dsimp only; omega, by dsimp only; omega, ⟨by decide, by decide⟩, ⟨by decide, by decide⟩, ⟨by decide, by decide⟩, ?_⟩, ?_⟩
 ·show ((0 : Nat) : Int) ≤ 64 * halfZ (fmtZ (Dk.new n) 3).1
  unfold halfZ; omega
 ·show (fmtZ (Dk.new n) 3).1.now = _
  rw [hn3, b3, a3]; rfl
def i64 (x : Int) : Prop := -9223372036854775808 ≤ x ∧ x ≤ 9223372036854775807
theorem byteZ_nat (n : Int) : ((byteZ n).toNat : Int) = n % 256 := by
 unfold byteZ
 rw [UInt8.toNat_ofNat']
 omega
theorem beZ_beB : ∀ (k : Nat) (n : Int), 0 ≤ n → beZ (beB n k) 0 = n % 256 ^ k := by
 intro k
 induction k with
 | zero => intro n _; simp [beB, beZ]
 | succ k ih =>
  intro n hn
  have h1 := ih (n / 256) (by omega)
  rw [beB, beZ_append, h1]
  simp only [beZ]
  rw [byteZ_nat, Int.pow_succ, Int.mul_comm (256 ^ k) 256]
  have h2 : n / 256 % 256 ^ k * 256 + n % 256 = n % (256 * 256 ^ k) := by
   have hp : (0 : Int) < 256 ^ k := Int.pow_pos (by decide)
   generalize (256 : Int) ^ k = p at *
   have e1 := Int.emod_add_mul_ediv n (256 * p)
   have e2 := Int.emod_add_mul_ediv n 256
   have e3 := Int.emod_add_mul_ediv (n / 256) p
   have e4 : n / 256 / p = n / (256 * p) := Int.ediv_ediv_of_nonneg (by omega)
   rw [e4] at e3
   generalize n / (256 * p) = q at *
   have e5 : 256 * p * q = 256 * (p * q) := Int.mul_assoc _ _ _
   generalize p * q = r at *
   omega
  exact h2
theorem smallZ_beB {k : Nat} {n : Int} (h0 : 0 ≤ n) (h1 : n < 256 ^ k) (h2 : n ≤ 9223372036854775807) : smallZ (beB n k) = n := by
 unfold smallZ
 rw [beZ_beB k n h0, Int.emod_eq_of_lt h0 h1]
 exact i64w (by omega)
structure MkR (m : Mk) : Prop where
 count : 0 ≤ m.count ∧ m.count ≤ 4294967295
 area : 0 ≤ m.area ∧ m.area ≤ 1
 len : 0 ≤ m.len ∧ m.len ≤ 4294967295
 num : 0 ≤ m.num ∧ m.num ≤ 4294967295
 a : 0 ≤ m.a ∧ m.a ≤ 9223372036854775807
 b : 0 ≤ m.b ∧ m.b ≤ 9223372036854775807
theorem MkI.r {δ : Dk} {m : Mk} (h : MkI δ m) (hs : 2 ≤ δ.now.length ∧ δ.now.length ≤ 32768) : MkR m := by
 have := half_le hs
 obtain ⟨h1, h2, h3, h4, h5, h6⟩ := h
 exact ⟨by omega, h2, by omega, h4, h5, h6⟩
theorem sub_mid (p q r : Bs) {i j : Nat} (hi : i = p.length) (hj : j = p.length + q.length) : sub (p ++ q ++ r) i j = q := by
 subst hi; subst hj
 unfold sub
 rw [List.take_append_of_le_length (by simp), ← List.length_append, List.take_length, List.drop_left]
theorem parse_sec {m : Mk} (h : MkR m) : parseZ m.sec = m := by
 obtain ⟨h1, h2, h3, h4, h5, h6⟩ := h
 have e : (256 : Int) ^ 4 = 4294967296 ∧ (256 : Int) ^ 1 = 256 ∧ (256 : Int) ^ 8 = 18446744073709551616 := ⟨rfl, rfl, rfl⟩
 have a1 : sub m.sec 2 6 = beB m.count 4 := by
  rw [show m.sec = [87, 77] ++ beB m.count 4 ++ (beB m.area 1 ++ beB m.len 4 ++ beB m.num 4 ++ beB m.a 8 ++ beB m.b 8 ++ List.replicate 29 0 ++ beB m.count 4) by unfold Mk.sec; simp only [List.append_assoc]]
  exact sub_mid _ _ _ (by simp) (by simp [beB_len])
 have a2 : sub m.sec 6 7 = beB m.area 1 := by
  rw [show m.sec = ([87, 77] ++ beB m.count 4) ++ beB m.area 1 ++ (beB m.len 4 ++ beB m.num 4 ++ beB m.a 8 ++ beB m.b 8 ++ List.replicate 29 0 ++ beB m.count 4) by unfold Mk.sec; simp only [List.append_assoc]]
  exact sub_mid _ _ _ (by simp [beB_len]) (by simp [beB_len])
 have a3 : sub m.sec 7 11 = beB m.len 4 := by
  rw [show m.sec = ([87, 77] ++ beB m.count 4 ++ beB m.area 1) ++ beB m.len 4 ++ (beB m.num 4 ++ beB m.a 8 ++ beB m.b 8 ++ List.replicate 29 0 ++ beB m.count 4) by unfold Mk.sec; simp only [List.append_assoc]]
  exact sub_mid _ _ _ (by simp [beB_len]) (by simp [beB_len])
 have a4 : sub m.sec 11 15 = beB m.num 4 := by
  rw [show m.sec = ([87, 77] ++ beB m.count 4 ++ beB m.area 1 ++ beB m.len 4) ++ beB m.num 4 ++ (beB m.a 8 ++ beB m.b 8 ++ List.replicate 29 0 ++ beB m.count 4) by unfold Mk.sec; simp only [List.append_assoc]]
  exact sub_mid _ _ _ (by simp [beB_len]) (by simp [beB_len])
 have a5 : sub m.sec 15 23 = beB m.a 8 := by
  rw [show m.sec = ([87, 77] ++ beB m.count 4 ++ beB m.area 1 ++ beB m.len 4 ++ beB m.num 4) ++ beB m.a 8 ++ (beB m.b 8 ++ List.replicate 29 0 ++ beB m.count 4) by unfold Mk.sec; simp only [List.append_assoc]]
  exact sub_mid _ _ _ (by simp [beB_len]) (by simp [beB_len])
 have a6 : sub m.sec 23 31 = beB m.b 8 := by
  rw [show m.sec = ([87, 77] ++ beB m.count 4 ++ beB m.area 1 ++ beB m.len 4 ++ beB m.num 4 ++ beB m.a 8) ++ beB m.b 8 ++ (List.replicate 29 0 ++ beB m.count 4) by unfold Mk.sec; simp only [List.append_assoc]]
  exact sub_mid _ _ _ (by simp [beB_len]) (by simp [beB_len])
 unfold parseZ
 rw [a1, a2, a3, a4, a5, a6, smallZ_beB (by omega) (by omega) (by omega), smallZ_beB (by omega) (by omega) (by omega), smallZ_beB (by omega) (by omega) (by omega), smallZ_beB (by omega) (by omega) (by omega), smallZ_beB (by omega) (by omega) (by omega), smallZ_beB (by omega) (by omega) (by omega)]
theorem read_at {δ : Dk} (hd : δ.dead = false) {n : Int} (hn : 0 ≤ n ∧ n < δ.now.length) : δ.read n = (δ.now.getD n.toNat [], 0) := by
 have h2 : δ.has n = true := by simp [Dk.has, hn.1, hn.2]
 unfold Dk.read
 rw [hd, h2]; rfl
theorem found_sec {δ : Dk} (hd : δ.dead = false) (hs : 2 ≤ δ.now.length ∧ δ.now.length ≤ 32768) {m : Mk} (hm : MkI δ m) {n : Int} (hn : m.count % 2 = n) (hr : δ.now.getD n.toNat [] = m.sec) : foundZ δ n = some m := by
 have e := read_at hd (n := n) ⟨by omega, by omega⟩
 have hp := parse_sec (hm.r hs)
 obtain ⟨h1, h2, h3, h4, h5, h6⟩ := hm
 unfold foundZ
 rw [e, hr]
 dsimp only
 rw [if_neg (by decide), hp, if_neg]
 unfold badMk
 rintro (h | h | h | h | h | h | h)
 ·omega
 ·exact h hn
 ·omega
 ·omega
 ·omega
 ·omega
 ·exact h rfl
theorem part_laid : ∀ (l : List Bs) (f : Nat) (out : List Bs) (num : Int), (∀ s ∈ l, s.length ≤ 4000) → (laidZ l).length < f → num = out.length + l.length → partF f (laidZ l) out num = some (out ++ l) := by
 intro l
 induction l with
 | nil =>
  intro f out num _ hf hn
  obtain ⟨g, rfl⟩ : ∃ g, f = g + 1 := ⟨f - 1, by omega⟩
  simp only [partF]
  rw [if_pos (by simp [laidZ]), if_pos (by simpa using hn.symm)]; simp
 | cons s l ih =>
  intro f out num hl hf hn
  obtain ⟨g, rfl⟩ : ∃ g, f = g + 1 := ⟨f - 1, by omega⟩
  have hs := hl s List.mem_cons_self
  have e : laidZ (s :: l) = recZ s ++ laidZ l := by simp [laidZ]
  have hrl := recZ_len s
  have hlen : (laidZ (s :: l)).length = s.length + 6 + (laidZ l).length := by rw [e, List.length_append, hrl]
  have hcl : (s :: l).length = l.length + 1 := rfl
  have e2 : recZ s ++ laidZ l = beB s.length 2 ++ s ++ (beB (sumZ (headZ s)) 4 ++ laidZ l) := by simp only [recZ, headZ, List.append_assoc]
  have t2 : (laidZ (s :: l)).take 2 = beB s.length 2 := by
   rw [e, e2, List.append_assoc, List.take_append_of_le_length (by simp [beB_len])]
   exact List.take_of_length_le (by simp [beB_len])
  have hp2 : (256 : Int) ^ 2 = 65536 := rfl
  have hsm : smallZ ((laidZ (s :: l)).take 2) = s.length := by rw [t2]; exact smallZ_beB (by omega) (by omega) (by omega)
  simp only [partF]
  rw [hsm]
  have hne : laidZ (s :: l) ≠ [] := fun h => by rw [h] at hlen; simp at hlen; omega
  rw [if_neg hne, if_neg (by omega), if_neg (by omega)]
  have hsub : sub (laidZ (s :: l)) 2 ((s.length : Int).toNat + 2) = s := by
   rw [e, e2]; exact sub_mid _ _ _ (by simp [beB_len]) (by simp [beB_len]; omega)
  have htk : (laidZ (s :: l)).take ((s.length : Int).toNat + 6) = recZ s := by
   rw [e, show (s.length : Int).toNat + 6 = (recZ s).length by rw [hrl]; omega, List.take_left]
  have hdr : (laidZ (s :: l)).drop ((s.length : Int).toNat + 6) = laidZ l := by
   rw [e, show (s.length : Int).toNat + 6 = (recZ s).length by rw [hrl]; omega, List.drop_left]
  rw [hsub, htk, if_neg (fun h => h rfl), hdr, ih g (out ++ [s]) num (fun x hx => hl x (List.mem_cons_of_mem _ hx)) (by omega) (by simp; omega)]
  simp
theorem partZ_of {l : List Bs} (h : ∀ s ∈ l, s.length ≤ 4000) : partZ (laidZ l) l.length = some l := by
 have := part_laid l ((laidZ l).length + 1) [] l.length h (by omega) (by simp)
 simpa [partZ] using this
def chunk (L : Bs) (i : Nat) : Bs := (L.drop (i * 64)).take 64
def Area (δ : Dk) (area : Int) (L : Bs) : Prop := ∀ i : Nat, (i : Int) < halfZ δ → chunk L i <+: δ.now.getD (2 + area * halfZ δ + (i : Int)).toNat []
theorem chunk_pre {L M : Bs} (h : L <+: M) (i : Nat) : chunk L i <+: chunk M i := by
 obtain ⟨r, rfl⟩ := h
 unfold chunk
 rw [List.drop_append, List.take_append]
 exact List.prefix_append _ _
theorem Area.less {δ : Dk} {area : Int} {L M : Bs} (h : Area δ area M) (hp : L <+: M) : Area δ area L := fun i hi => (chunk_pre hp i).trans (h i hi)
theorem area_pre {δ : Dk} (hok : δ.Ok) (hn : 2 ≤ δ.now.length) {area : Int} (ha : 0 ≤ area ∧ area ≤ 1) {L : Bs} (hA : Area δ area L) : ∀ n : Nat, (n : Int) ≤ halfZ δ → L.take (64 * n) <+: areaZ δ area n := by
 intro n
 induction n with
 | zero => intro _; simp
 | succ n ih =>
  intro hn2
  have h1 := ih (by omega)
  have hl := areaZ_len hok hn ha n (by omega)
  rw [areaZ_succ]
  by_cases hc : 64 * n ≤ L.length
  ·have e1 : L.take (64 * n) = areaZ δ area n := List.IsPrefix.eq_of_length h1 (by rw [List.length_take, hl]; omega)
   have e2 : L.take (64 * (n + 1)) = L.take (64 * n) ++ chunk L n := by
    rw [show 64 * (n + 1) = 64 * n + 64 by omega, List.take_add, show 64 * n = n * 64 by omega]; rfl
   rw [e2, e1]
   obtain ⟨t, ht⟩ := hA n (by omega)
   exact ⟨t, by rw [List.append_assoc, ht]⟩
  ·rw [List.take_of_length_le (by omega)] at h1 ⊢
   exact h1.trans (List.prefix_append _ _)
theorem area_take {δ : Dk} (hok : δ.Ok) (hn : 2 ≤ δ.now.length) {area : Int} (ha : 0 ≤ area ∧ area ≤ 1) {L : Bs} (hl : (L.length : Int) ≤ 64 * halfZ δ) (hA : Area δ area L) : (areaZ δ area ((L.length + 63) / 64)).take L.length = L := by
 have h1 := area_pre hok hn ha hA ((L.length + 63) / 64) (by omega)
 rw [List.take_of_length_le (by omega)] at h1
 exact (List.prefix_iff_eq_take.1 h1).symm
def Wl.now (ω : Wl) : Mk := ⟨ω.count, ω.area, (laidZ (ω.recs.take ω.synced.toNat)).length, ω.synced, ω.a, ω.b⟩
def mkAt (δ : Dk) (c : Int) : Bs := δ.now.getD (c % 2).toNat []
def TailC (c : Int) (X : Bs) : Prop := X.length = 64 ∧ (X.drop 60 = beB (c - 1) 4 ∨ (sub X 2 6 = beB (c + 1) 4 ∧ X.drop 60 ≠ beB (c + 1) 4))
theorem sec_sub (m : Mk) : sub m.sec 2 6 = beB m.count 4 := by
 rw [show m.sec = [87, 77] ++ beB m.count 4 ++ (beB m.area 1 ++ beB m.len 4 ++ beB m.num 4 ++ beB m.a 8 ++ beB m.b 8 ++ List.replicate 29 0 ++ beB m.count 4) by unfold Mk.sec; simp only [List.append_assoc]]
 exact sub_mid _ _ _ (by simp) (by simp [beB_len])
theorem sec_drop (m : Mk) : m.sec.drop 60 = beB m.count 4 := by
 unfold Mk.sec
 rw [List.drop_left' (by simp [beB_len])]
theorem be4_inj {a b : Int} (ha : 0 ≤ a ∧ a ≤ 4294967295) (hb : 0 ≤ b ∧ b ≤ 4294967295) (h : beB a 4 = beB b 4) : a = b := by
 have e : (256 : Int) ^ 4 = 4294967296 := rfl
 have h1 := smallZ_beB (k := 4) ha.1 (by omega) (by omega)
 have h2 := smallZ_beB (k := 4) hb.1 (by omega) (by omega)
 rw [← h1, ← h2, h]
theorem tail_found {δ : Dk} {n c : Int} {X : Bs} (hok : δ.Ok) (hd : δ.dead = false) (hn : 0 ≤ n ∧ n < δ.now.length) (hX : δ.now.getD n.toNat [] = X) (hc : 1 ≤ c ∧ c ≤ 4294967295) (ht : TailC c X) : foundZ δ n = none ∨ ∃ k, foundZ δ n = some k ∧ k.count < c := by
 rcases h : foundZ δ n with _ | k
 ·exact .inl rfl
 ·obtain ⟨h1, -, h3, -⟩ := foundZ_some hok h
  have hk := h1.count
  rw [read_at hd hn] at h3
  have h4 : X = k.sec := hX.symm.trans h3
  subst h4
  rcases ht.2 with h5 | ⟨h5, h6⟩
  ·rw [sec_drop] at h5
   have := be4_inj ⟨by omega, by omega⟩ ⟨by omega, by omega⟩ h5
   exact .inr ⟨k, rfl, by omega⟩
  ·rw [sec_sub] at h5
   rw [sec_drop] at h6
   exact absurd h5 h6
structure Kp (δ : Dk) (ω : Wl) : Prop where
 cnt : 1 ≤ ω.count
 a : 0 ≤ ω.a ∧ ω.a ≤ 9223372036854775807
 b : 0 ≤ ω.b ∧ ω.b ≤ 9223372036854775807
 long : ∀ s ∈ ω.recs, s.length ≤ 4000
 this : mkAt δ ω.count = ω.now.sec
 other : TailC ω.count (mkAt δ (ω.count + 1))
 area : Area δ ω.area (laidZ ω.recs)
theorem laid_pre (l : List Bs) (k : Nat) : laidZ (l.take k) <+: laidZ l := ⟨laidZ (l.drop k), by rw [← laidZ_append, List.take_append_drop]⟩
theorem Kp.mkI {δ : Dk} {ω : Wl} {N : Int} (h : Kp δ ω) (hW : Well δ ω N) : MkI δ ω.now := by
 have h1 := laid_take_le ω.recs ω.synced.toNat
 have h2 := hW.fits
 have h3 := laidZ_many ω.recs
 have h4 := half_le hW.size
 have h5 := hW.synced
 exact ⟨⟨h.cnt, hW.count.2⟩, hW.area, ⟨by show (0 : Int) ≤ ((laidZ _).length : Nat); omega, by show ((laidZ _).length : Int) ≤ _; omega⟩, ⟨h5.1, by show ω.synced ≤ _; omega⟩, h.a, h.b⟩
theorem best_of {δ : Dk} (m : Mk) (h1 : foundZ δ (m.count % 2) = some m) (h2 : foundZ δ ((m.count + 1) % 2) = none ∨ ∃ k, foundZ δ ((m.count + 1) % 2) = some k ∧ k.count < m.count) : bestZ δ = some m := by
 unfold bestZ
 rcases (by omega : m.count % 2 = 0 ∧ (m.count + 1) % 2 = 1 ∨ m.count % 2 = 1 ∧ (m.count + 1) % 2 = 0) with ⟨e1, e2⟩ | ⟨e1, e2⟩ <;> rw [e1] at h1 <;> rw [e2] at h2 <;> rw [h1] <;> rcases h2 with h2 | ⟨k, h2, h3⟩ <;> rw [h2]
 ·dsimp only; rw [if_neg (by omega)]
 ·dsimp only; rw [if_pos (by omega)]
theorem opened {δ : Dk} {ω : Wl} {N : Int} (h : Kp δ ω) (hW : Well δ ω N) (hok : δ.Ok) : openZ δ = some ⟨ω.recs.take ω.synced.toNat, ω.synced, ω.area, ω.count, ω.a, ω.b, false⟩ := by
 have hm := h.mkI hW
 have hs := hW.synced
 have hsz := hW.size
 have f1 : foundZ δ (ω.now.count % 2) = some ω.now := found_sec hW.al.dead hW.size hm rfl h.this
 have f2 : foundZ δ ((ω.now.count + 1) % 2) = none ∨ ∃ k, foundZ δ ((ω.now.count + 1) % 2) = some k ∧ k.count < ω.now.count :=
  tail_found hok hW.al.dead ⟨by omega, by omega⟩ rfl ⟨h.cnt, hW.count.2⟩ h.other
 rw [openZ_some (best_of _ f1 f2)]
 unfold openB
 have hA : Area δ ω.area (laidZ (ω.recs.take ω.synced.toNat)) := h.area.less (laid_pre _ _)
 have hlen := laid_take_le ω.recs ω.synced.toNat
 have hfit := hW.fits
 have hb : bytesZ δ ω.now = laidZ (ω.recs.take ω.synced.toNat) := area_take hok hW.size.1 hW.area (by omega) hA
 have hn : (ω.recs.take ω.synced.toNat).length = ω.synced.toNat := by rw [List.length_take]; omega
 have hz : ω.now.num = ((ω.recs.take ω.synced.toNat).length : Int) := by rw [hn]; show ω.synced = _; omega
 rw [hb, hz, partZ_of (fun s hs => h.long s (List.mem_of_mem_take hs))]
 dsimp only
 rw [hn, show ((ω.synced.toNat : Nat) : Int) = ω.synced by omega]
 rfl
/-! ### Numbers -/
theorem beZ_ge : ∀ (s : Bs) (n : Int), 0 ≤ n → n * 256 ^ s.length ≤ beZ s n := by
 intro s
 induction s with
 | nil => intro n h; simp [beZ]
 | cons c s ih =>
  intro n h
  have h1 := ih (n * 256 + c.toNat) (by omega)
  simp only [beZ, List.length_cons]
  refine Int.le_trans ?_ h1
  rw [Int.pow_succ, Int.mul_comm (256 ^ s.length) 256, ← Int.mul_assoc]
  exact Int.mul_le_mul_of_nonneg_right (by omega) (Int.le_of_lt (Int.pow_pos (by decide)))
theorem beB_of : ∀ (k : Nat) (s : Bs), s.length = k → beB (beZ s 0) k = s := by
 intro k
 induction k with
 | zero => intro s h; rw [List.length_eq_zero_iff.1 h]; rfl
 | succ k ih =>
  intro s h
  rcases List.eq_nil_or_concat s with rfl | ⟨t, c, rfl⟩
  ·cases h
  ·rw [List.concat_eq_append] at h ⊢
   have ht : t.length = k := by simpa using h
   have h0 := beZ_nonneg t 0 (by omega)
   have hc : c.toNat < 256 := c.toNat_lt
   have e : beZ (t ++ [c]) 0 = beZ t 0 * 256 + c.toNat := by rw [beZ_append]; rfl
   rw [e, beB, show (beZ t 0 * 256 + c.toNat) / 256 = beZ t 0 by omega, ih t ht]
   congr 2
   unfold byteZ
   rw [show ((beZ t 0 * 256 + (c.toNat : Int)) % 256).toNat = c.toNat by omega]
   exact UInt8.ofNat_toNat
theorem top8 {s : Bs} (h : s.length = 8) : (127 < (s.getD 0 0).toNat → smallZ s < 0) ∧ (¬ 127 < (s.getD 0 0).toNat → 0 ≤ smallZ s ∧ smallZ s = beZ s 0) := by
 match s, h with
 | c :: r, h =>
  have hr : r.length = 7 := by simpa using h
  have e : (256 : Int) ^ r.length = 72057594037927936 := by rw [hr]; rfl
  have h1 := beZ_ge r c.toNat (by omega)
  have h2 := beZ_lt r c.toNat (by omega)
  have hc : c.toNat < 256 := c.toNat_lt
  have e2 : beZ (c :: r) 0 = beZ r c.toNat := by simp [beZ]
  rw [e] at h1 h2
  have e3 : ((c :: r).getD 0 0).toNat = c.toNat := rfl
  rw [e3]
  unfold smallZ
  rw [e2, wrap64]
  exact ⟨fun _ => by omega, fun _ => ⟨by omega, by omega⟩⟩
theorem take_sub (s : Bs) {i j : Nat} (h : i ≤ j) : s.take i ++ sub s i j = s.take j := by
 unfold sub
 rw [show s.take i = (s.take j).take i by rw [List.take_take, Nat.min_eq_left h], List.take_append_drop]
theorem sub_at {s : Bs} {i j : Nat} (hij : i < j) (h : j ≤ s.length) : (sub s i j).getD 0 0 = s.getD i 0 := by
 unfold sub
 simp only [List.getD_eq_getElem?_getD]
 rw [List.getElem?_drop, List.getElem?_take_of_lt (by omega)]; rfl
theorem sub_one {s : Bs} {i : Nat} (h : i < s.length) : sub s i (i + 1) = [s.getD i 0] := by
 unfold sub
 rw [List.take_succ_eq_append_getElem h, List.drop_append_of_le_length (by rw [List.length_take]; omega), List.drop_eq_nil_of_le (by rw [List.length_take]; omega)]
 simp [h]
theorem small_one (c : UInt8) : smallZ [c] = c.toNat := by
 have hc : c.toNat < 256 := c.toNat_lt
 show IntKind.i64.wrap ((0 : Int) * 256 + c.toNat) = _
 rw [i64w (by omega)]; omega
theorem small_area {s : Bs} (h : 7 ≤ s.length) : smallZ (sub s 6 7) = (s.getD 6 0).toNat := by rw [sub_one (i := 6) (by omega), small_one]
/-! ### A right mark -/
def bad1 (s : Bs) : Prop := s.take 2 ≠ [87, 77] ∨ sub s 31 60 ≠ List.replicate 29 0 ∨ sub s 2 6 ≠ s.drop 60 ∨ 127 < (s.getD 15 0).toNat ∨ 127 < (s.getD 23 0).toNat
def bad2 (δ : Dk) (n : Int) (s : Bs) : Prop := smallZ (sub s 2 6) < 1 ∨ smallZ (sub s 2 6) % 2 ≠ n ∨ 1 < (s.getD 6 0).toNat ∨ smallZ (sub s 7 11) > 64 * halfZ δ
theorem sec_take (m : Mk) : m.sec.take 2 = [87, 77] := by
 unfold Mk.sec
 simp only [List.append_assoc]
 exact List.take_left' rfl
theorem sec_zeros (m : Mk) : sub m.sec 31 60 = List.replicate 29 0 := by
 rw [show m.sec = ([87, 77] ++ beB m.count 4 ++ beB m.area 1 ++ beB m.len 4 ++ beB m.num 4 ++ beB m.a 8 ++ beB m.b 8) ++ List.replicate 29 0 ++ beB m.count 4 from rfl]
 exact sub_mid _ _ _ (by simp [beB_len]) (by simp [beB_len])
theorem right_law {δ : Dk} {n : Int} {s : Bs} (hl : s.length = 64) : badMk δ n s (parseZ s) ↔ bad1 s ∨ bad2 δ n s := by
 have ta := top8 (s := sub s 15 23) (by rw [sub_len (by omega)])
 have tb := top8 (s := sub s 23 31) (by rw [sub_len (by omega)])
 rw [sub_at (by decide) (by omega)] at ta tb
 have har := small_area (s := s) (by omega)
 constructor
 ·intro h
  rcases Classical.em (bad1 s ∨ bad2 δ n s) with hb | hb
  ·exact hb
  exfalso
  unfold bad1 bad2 at hb
  simp only [not_or, Classical.not_not] at hb
  obtain ⟨⟨b1, b2, b3, b4, b5⟩, c1, c2, c3, c4⟩ := hb
  have a1 := ta.2 b4
  have a2 := tb.2 b5
  have s4 : ∀ i j, j - i = 4 → j ≤ 64 → beB (smallZ (sub s i j)) 4 = sub s i j := by
   intro i j h1 h2
   have hln : (sub s i j).length = 4 := by rw [sub_len (by omega)]; exact h1
   rw [(smallZ_nonneg (by omega)).2.2, beB_of 4 _ hln]
  have s1 : beB (smallZ (sub s 6 7)) 1 = sub s 6 7 := by
   have hln : (sub s 6 7).length = 1 := by rw [sub_len (by omega)]
   rw [(smallZ_nonneg (by omega)).2.2, beB_of 1 _ hln]
  have sa : beB (smallZ (sub s 15 23)) 8 = sub s 15 23 := by rw [a1.2, beB_of 8 _ (by rw [sub_len (by omega)])]
  have sb : beB (smallZ (sub s 23 31)) 8 = sub s 23 31 := by rw [a2.2, beB_of 8 _ (by rw [sub_len (by omega)])]
  have hsec : s = (parseZ s).sec := by
   unfold Mk.sec parseZ
   dsimp only
   rw [s4 2 6 rfl (by decide), s4 7 11 rfl (by decide), s4 11 15 rfl (by decide), s1, sa, sb, ← b1, ← b2]
   rw [take_sub s (by decide), take_sub s (by decide), take_sub s (by decide), take_sub s (by decide), take_sub s (by decide), take_sub s (by decide), take_sub s (by decide), b3, List.take_append_drop]
  unfold badMk at h
  have har2 : (parseZ s).area = ((s.getD 6 0).toNat : Int) := har
  rcases h with h | h | h | h | h | h | h
  ·exact c1 h
  ·exact h c2
  ·omega
  ·exact c4 h
  ·exact absurd a1.1 (by show ¬ 0 ≤ (parseZ s).a; omega)
  ·exact absurd a2.1 (by show ¬ 0 ≤ (parseZ s).b; omega)
  ·exact h hsec
 ·intro hb
  rcases Classical.em (badMk δ n s (parseZ s)) with h | h
  ·exact h
  exfalso
  unfold badMk at h
  simp only [not_or, Classical.not_not] at h
  obtain ⟨d1, d2, d3, d4, d5, d6, d7⟩ := h
  have har2 : (parseZ s).area = ((s.getD 6 0).toNat : Int) := har
  have e1 := sec_take (parseZ s)
  have e2 := sec_zeros (parseZ s)
  have e3 := sec_sub (parseZ s)
  have e4 := sec_drop (parseZ s)
  rw [← d7] at e1 e2 e3 e4
  rcases hb with (b1 | b2 | b3 | b4 | b5) | (c1 | c2 | c3 | c4)
  ·exact b1 e1
  ·exact b2 e2
  ·exact b3 (e3.trans e4.symm)
  ·exact d5 (ta.1 b4)
  ·exact d6 (tb.1 b5)
  ·exact d1 c1
  ·exact c2 d2
  ·omega
  ·exact d4 c4
theorem found_right {δ : Dk} (hd : δ.dead = false) (hok : δ.Ok) (hs : 2 ≤ δ.now.length) {n : Int} (hn : 0 ≤ n ∧ n ≤ 1) : (bad1 (δ.now.getD n.toNat []) ∨ bad2 δ n (δ.now.getD n.toNat []) → foundZ δ n = none) ∧ (¬ (bad1 (δ.now.getD n.toNat []) ∨ bad2 δ n (δ.now.getD n.toNat [])) → foundZ δ n = some (parseZ (δ.now.getD n.toNat []))) := by
 have hl : (δ.now.getD n.toNat []).length = 64 := getD_mem64' hok.sec (by omega)
 have e := read_at hd (n := n) ⟨by omega, by omega⟩
 have hr := right_law (δ := δ) (n := n) hl
 unfold foundZ
 rw [e]
 dsimp only
 rw [if_neg (by decide)]
 exact ⟨fun h => if_pos (hr.2 h), fun h => if_neg (fun g => h (hr.1 g))⟩
theorem found_parse {δ : Dk} (hd : δ.dead = false) (hs : 2 ≤ δ.now.length) {n : Int} (hn : 0 ≤ n ∧ n ≤ 1) {m : Mk} (h : foundZ δ n = some m) : m = parseZ (δ.now.getD n.toNat []) := by
 have e := read_at hd (n := n) ⟨by omega, by omega⟩
 unfold foundZ at h
 rw [e] at h
 dsimp only at h
 rw [if_neg (by decide)] at h
 split at h
 ·cases h
 ·exact (Option.some.inj h).symm
/-! ### Steps -/
theorem rsmall_next {s : Bs} {i : Nat} (hi : i < s.length) : IntKind.i64.wrap (IntKind.i64.wrap (256 * IntKind.i64.wrap (beZ (s.take i) 0)) + IntKind.i64.wrap (s[i].toNat : Int)) = IntKind.i64.wrap (beZ (s.take (i + 1)) 0) := by
 rw [List.take_succ_eq_append_getElem hi, beZ_append]
 show _ = IntKind.i64.wrap (beZ (s.take i) 0 * 256 + s[i].toNat)
 rw [wrap64, wrap64, wrap64, wrap64, wrap64]; omega
/-! ### A log of the document's -/
def rlR (y x : Nat) (ω : Wl) : HP := fun h => ∃ v : Value, sep [ptc y [vptr x, v, vint ω.synced, vint ω.area, vint ω.count, vint ω.a, vint ω.b, .bool ω.doubt] 114, strR v ω.recs] h
section
variable {W : World} {n : Nat} {ds : List Deferred} {E : Env} {L R : List HP} {X : Act → World → Prop}
theorem G.rlOpen {y x : Nat} {ω : Wl} (hL : Pick (rlR y x ω) L R) (h : ∀ v, G W n ds E (ptc y [vptr x, v, vint ω.synced, vint ω.area, vint ω.count, vint ω.a, vint ω.b, .bool ω.doubt] 114 :: strR v ω.recs :: R) X) : G W n ds E L X :=
 G.focus hL (G.open (q := fun v : Value => [ptc y [vptr x, v, vint ω.synced, vint ω.area, vint ω.count, vint ω.a, vint ω.b, .bool ω.doubt] 114, strR v ω.recs]) (φ := fun _ => True) (fun _ ⟨v, hv⟩ => ⟨v, trivial, hv⟩) fun v _ => h v)
theorem G.rlFold {y x m : Nat} {ω : Wl} {v : Value} {l ys : List Value} (hL : Picks [ptc y l 114, slR 9 1 v m ys] L R) (h0 : l = [vptr x, v, vint ω.synced, vint ω.area, vint ω.count, vint ω.a, vint ω.b, .bool ω.doubt]) (h1 : m = ω.recs.length) (h2 : ys = strs ω.recs)
  (h : G W n ds E (rlR y x ω :: R) X) : G W n ds E L X := by
 subst h0; subst h1; subst h2
 exact G.fold hL (fun _ hp => ⟨v, hp⟩) h
theorem G.rl {y x m : Nat} {ω : Wl} {v : Value} {l ys : List Value} (h : G W n ds E (rlR y x ω :: R) X) (hL : Picks [ptc y l 114, slR 9 1 v m ys] L R := by repeat' constructor) (h0 : l = [vptr x, v, vint ω.synced, vint ω.area, vint ω.count, vint ω.a, vint ω.b, .bool ω.doubt] := by exact rfl) (h1 : m = ω.recs.length := by first | rfl | simp) (h2 : ys = strs ω.recs := by first | rfl | simp [strs]) : G W n ds E L X := G.rlFold hL h0 h1 h2 h
end
def halfL (l : List Bs) : Int := ((l.length : Int) - 2) / 2
/-! ### Two disks that are the same -/
theorem open_facts {δ : Dk} (hok : δ.Ok) (hs : 2 ≤ δ.now.length) {ω : Wl} (h : openZ δ = some ω) : ω.doubt = false ∧ ((laidZ ω.recs).length : Int) ≤ 64 * halfZ δ := by
 rcases hb : bestZ δ with _ | m
 ·rw [openZ_none hb] at h; cases h
 ·rw [openZ_some hb] at h
  have hm := bestZ_some hok hb
  unfold openB at h
  split at h
  ·cases h
  ·rename_i l hp
   have e := Option.some.inj h
   subst e
   obtain ⟨h1, h2, h3, h4⟩ := bytesZ_len hok hs hm
   have hl := (partZ_laid hp).1
   have hml := hm.len
   refine ⟨rfl, ?_⟩
   dsimp only
   rw [hl, h3]; omega
theorem rsmall_spec (s : Bs) (hs : s.length ≤ 9223372036854775807) : Fn Tryz.prog 168 #[vstr s] [] fun v L => v = vint (smallZ s) ∧ L = [] := by
 refine Fn.intro Tryz.func168 rfl rfl fun F W => ?_
 refine .sr (.an rfl (.sr (.an rfl (.seq (.sr (.an rfl (.block (.loopK (ι := Nat) (fun q E => (4, vint q) :: (3, vint (IntKind.i64.wrap (beZ (s.take q) 0))) :: E) (fun q => []) (fun q => q ≤ s.length) (fun q => s.length - q) (0) (ts := [0, 2]) (.cons rfl (.cons rfl (.nil))) (Nat.zero_le _) ⟨rfl, rfl, rfl, rfl, trivial⟩ (by repeat' constructor) ?_))))))))
 rintro i hi
 refine .seq (.sm rfl (.m rfl (.q (.strlen rfl Tryz.underlying9 rfl) rfl (.ui rfl rfl rfl (.nt (.condD rfl (fun h8 => ?_) (fun h8 => ?_)))))))
 ·have hi2 : i < s.length := by simpa [bs_size] using h8
  refine .sk (.seq (.block (.region (.m rfl (.ui rfl rfl rfl (.m rfl (.m rfl (.q (.strIndex (c := s[i]) rfl rfl Tryz.underlying9 (by omega) (by simp)) rfl (.q (.conv rfl Tryz.underlying5 Tryz.underlying3) rfl (.q (.to (v' := vint (IntKind.i64.wrap (beZ (s.take (i + 1)) 0))) (.int rfl rfl rfl) (congrArg (Value.int .i64) (rsmall_next hi2))) rfl (.a rfl (.nil (.blk_n (.then_n (.region (.m rfl (.q (.add rfl rfl (by omega)) rfl (.an rfl ?_))))))))))))))))))
  exact .rk (i + 1) (by omega) (by omega) ⟨rfl, rfl, rfl, rfl, trivial⟩
 refine .exit (.then_e (.then_e (.blk_e (.then_n (.sm rfl (.an rfl (.ret ?_)))))))
 exact .dn rfl rfl ⟨by have hi3 : i = s.length := (by have h9 : ¬ (i : Int) < s.length := (by simpa [bs_size] using h8); omega); rw [hi3, List.take_length]; rfl, rfl⟩
def nthZ (n : Int) : Nat → Int
 | 0 => n
 | j + 1 => nthZ n j / 256
theorem nthZ_pow (n : Int) (j : Nat) : nthZ n j = n / 256 ^ j := by
 induction j with
 | zero => rw [nthZ, Int.pow_zero, Int.ediv_one]
 | succ j ih => rw [nthZ, ih, Int.ediv_ediv_of_nonneg (Int.le_of_lt (Int.pow_pos (by decide))), Int.pow_succ]
theorem rbig_le {n : Int} (h : 0 ≤ n ∧ n ≤ 9223372036854775807) (j : Nat) : 0 ≤ nthZ n j ∧ nthZ n j ≤ 9223372036854775807 := by
 rw [nthZ_pow]
 have hp : (0 : Int) < 256 ^ j := Int.pow_pos (by decide)
 exact ⟨Int.ediv_nonneg h.1 (Int.le_of_lt hp), Int.le_trans (Int.ediv_le_self _ h.1) h.2⟩
def dnZ (k : Int) : Nat → Int
 | 0 => k - 1
 | j + 1 => dnZ k j - 1
theorem dnZ_eq (k : Int) (j : Nat) : dnZ k j = k - 1 - j := by
 induction j with
 | zero => rw [dnZ]; omega
 | succ j ih => rw [dnZ, ih]; omega
theorem u8_mod (x : Int) : Value.int .u8 (IntKind.u8.wrap (x % 256)) = vbyte (byteZ x) := by
 rw [vbyteZ]; congr 1; show x % 256 % 256 = x % 256; omega
theorem rbig_spec (n : Int) (k : Nat) (h0 : 0 ≤ n ∧ n ≤ 9223372036854775807) (hk : k ≤ 8) : Fn Tryz.prog 122 #[vint n, vint k] [] fun v L => v = vstr (beB n k) ∧ L = [] := by
 refine Fn.intro Tryz.func122 rfl rfl fun F W => ?_
 refine .sr (.an rfl (.sm rfl (.oq (.make rfl rfl el_125 ze_5 rfl ⟨by simp, by simp; rfl⟩ ?c3) ?_)))
 case c3 => omega
 rintro v L' ⟨bz, rfl, rfl⟩
 refine .a rfl (.nil ?_)
 simp only [Int.toNat_natCast, Nat.mul_one]
 refine .ptCast (b := bz) (l' := fillB (List.replicate k zB) 0 n k 0) (by repeat' constructor) (fillB_0 _ _ _ _).symm (.then_n (.seq (.sm rfl (.q (.sub rfl rfl (by omega)) rfl (.an rfl (.block (.loopK (ι := Nat) (fun q E => (6, vint (dnZ k q)) :: (0, vint (nthZ n q)) :: E) (fun q => [ptc bz (fillB (List.replicate k zB) 0 n k q) 5]) (fun q => q ≤ k) (fun q => k - q) (0) (ts := [4, 5]) (.cons rfl (.cons rfl (.nil))) (Nat.zero_le _) ⟨rfl, rfl, rfl, rfl, trivial⟩ (by repeat' constructor) ?_)))))))
 rintro j hj
 have hdn := dnZ_eq (k : Int) j
 refine .seq (.sm rfl (.ui rfl rfl rfl (.nt (.condD rfl (fun h12 => ?_) (fun h12 => ?_)))))
 ·have hj2 : j < k := by omega
  have hq := rbig_le h0 j
  have hfl := fillB_len (l := List.replicate k zB) (off := 0) (n := n) (k := k) (i := j) (by omega) (by simp)
  rw [List.length_replicate] at hfl
  refine .sk (.seq (.block (.sm rfl (.m rfl (.m rfl (.q (.remE rfl rfl hq.1 (by decide)) rfl (.q (.as (v' := vbyte (byteZ (n / 256 ^ j))) (by rw [← nthZ_pow]; exact u8_mod _) (.conv rfl Tryz.underlying3 Tryz.underlying5)) rfl (.q (.indexAddr rfl rfl el_125 (by omega)) rfl (.oq (.store rfl rfl rfl sz_5 ?c16 (nfz0 _ _)) ?_)))))))))
  case c16 => omega
  rintro v L' rfl
  refine .nt (.region (.m rfl (.q (.to (v' := vint (nthZ n (j + 1))) (.quoE rfl rfl hq (by decide)) rfl) rfl (.a rfl (.nil (.blk_n (.then_n (.region (.m rfl (.q (.sub rfl rfl (by omega)) rfl (.an rfl ?_)))))))))))
  rw [show 0 + (dnZ (k : Int) j).toNat * 1 = 0 + (k - 1 - j) by omega, fillB_step hj2 (by simp)]
  exact .rk (j + 1) (by omega) (by omega) ⟨rfl, rfl, rfl, rfl, trivial⟩
 obtain rfl : j = k := by omega
 refine .ptCast (b := bz) (l' := bysL (beB n j)) (by repeat' constructor) (by rw [fillB_k]; exact spl_all (by simp [bysL_len, beB_len])) (.exit (.then_e (.then_e (.blk_e (.then_n (.sm rfl (.q (.bytesPt (cs := beB n j) rfl Tryz.underlying125 Tryz.underlying5 Tryz.underlying9 (by repeat' constructor) (by rw [List.drop_zero]; exact List.take_of_length_le (by rw [bysL_len, beB_len]; omega)) (by rw [bysL_len, beB_len]; omega) (by omega)) rfl (.an rfl (.ret ?_)))))))))
 exact .vv
theorem rrecord_spec (s : Bs) (hs : s.length ≤ 2147483648) : Fn Tryz.prog 123 #[vstr s] [] fun v L => v = vstr (recZ s) ∧ L = [] := by
 refine Fn.intro Tryz.func123 rfl rfl fun F W => ?_
 have hsum := sumZ_range (headZ s)
 have hh : (headZ s).length = s.length + 2 := by simp [headZ, beB_len]; omega
 have hb2 := beB_len 2 (s.length : Int)
 have hb4 := beB_len 4 (sumZ (headZ s))
 have hap : (beB (s.length : Int) 2 ++ s).length = s.length + 2 := hh
 refine .sr (.an rfl (.sm rfl (.q (.strlen rfl Tryz.underlying9 rfl) rfl (.cv Tryz.func122 [_, _] (rbig_spec s.length 2 (by omega) (by decide)) ?_))))
 refine .m rfl (.q (.concat rfl rfl (by omega)) rfl (.an rfl (.sm rfl (.m rfl (.cv Tryz.func164 [_] (rsum_spec (headZ s) (by omega)) ?_)))))
 refine .q (.as (v' := vint (sumZ (headZ s))) (by rw [i64w (by omega)]) (.conv rfl Tryz.underlying183 Tryz.underlying3)) rfl (.cv Tryz.func122 [_, _] (rbig_spec (sumZ (headZ s)) 4 (by omega) (by decide)) ?_)
 refine .q (.concat rfl rfl (by omega)) rfl (.an rfl (.ret ?_))
 exact .vv
theorem rhalf_spec (x : Nat) (vL vO vP : Value) (N At : Int) (Gone : Bool) (l : List Bs) (hl : 2 ≤ l.length ∧ l.length ≤ 32768) : Fn Tryz.prog 64 #[vptr x] [rkC x vL vO vP N At Gone, strR vL l] fun v L => v = vint (halfL l) ∧ L = [rkC x vL vO vP N At Gone, strR vL l] := by
 refine Fn.intro Tryz.func64 rfl rfl fun F W => ?_
 refine .slAny (v := vL) (by repeat' constructor) fun aL cL e _ => ?_
 subst e
 refine .sr (.an rfl (.sm rfl (.nf rfl fo_58_0 (.u (.ld rfl ag_46) (.q (.slen rfl Tryz.underlying46 rfl) rfl (.q (.sub rfl rfl (by omega)) rfl (.q (.quoE rfl rfl (by omega) (by decide)) rfl (.an rfl (.ret ?_)))))))))
 exact .vv
theorem rright_spec (x : Nat) (vL vO vP : Value) (N At : Int) (Gone : Bool) (δ : Dk) (n : Int) (hn01 : 0 ≤ n ∧ n ≤ 1) (hd : δ.dead = false) (hok : δ.Ok) (hs : 2 ≤ δ.now.length ∧ δ.now.length ≤ 32768) : Fn Tryz.prog 167 #[vptr x, vint n] [rkC x vL vO vP N At Gone, strR vL δ.now] fun v L => v = .tuple #[vint ((foundZ δ n).elim 0 (·.count)), .bool (foundZ δ n).isSome] ∧ L = [rkC x vL vO vP N At Gone, strR vL δ.now] := by
 refine Fn.intro Tryz.func167 rfl rfl fun F W => ?_
 refine .slAny (v := vL) (by repeat' constructor) fun aL cL e lL => ?_
 subst e
 have hn2 : n.toNat < δ.now.length := by omega
 have hsl : (δ.now[n.toNat]).length = 64 := hok.sec _ (List.getElem_mem _)
 generalize hsE0 : δ.now[n.toNat] = s at hsl
 have hsE : δ.now.getD n.toNat [] = s := by rw [← hsE0]; simp [hn2]
 have hH : halfZ δ = halfL δ.now := rfl
 have hs26 : (sub s 2 6).length = 4 := by rw [sub_len (by omega)]
 have hs71 : (sub s 7 11).length = 4 := by rw [sub_len (by omega)]
 have hhl : 0 ≤ halfL δ.now ∧ halfL δ.now ≤ 16383 := by unfold halfL; omega
 refine .sr (.a rfl (.an rfl (.seq (.slShape (v := .slice aL _ cL) (by repeat' constructor) (by omega) fun bL cL' e mL _ => ?_))))
 simp only [Value.slice.injEq, true_and] at e
 obtain ⟨rfl, rfl⟩ := e
 refine .region (.m rfl (.nf rfl fo_58_0 (.u (.ld rfl ag_46) (.m rfl (.q (.indexAddr rfl rfl el_46 (by omega)) rfl (.q (.to (v' := vstr s) (.loadSl (v := vstr δ.now[n.toNat]) (i := n.toNat * 1) rfl ag_9 (by repeat' constructor) (by simp [hn2])) (by rw [hsE0])) rfl (.an rfl (.seq (.seq (.draw [6] [[0, 1, 2, 3, 4, 5, 6, 7], [8, 9, 10, 11, 12, 13, 14, 15, 16, 17, 18, 19, 20, 21, 22, 23, 24, 25, 26]] mixed (by kernel_rfl) (.g0 (.mv rfl rfl (.kv rfl (.to (v' := vstr (s.take 2)) (.strTo (j := 2) rfl rfl Tryz.underlying9 (by omega)) rfl) (.kv rfl (.strne rfl rfl) (.mv rfl rfl (.ndec (t := 18) rfl (fun h2_18 => ?_) (fun h2_18 => ?_)))))))))))))))))
 ·refine D.kNT (t := 17) rfl h2_18 (.gz rfl (.gz rfl (.gz rfl (.gz rfl (.ph (.g0 (.gz rfl (.kv rfl (.pickT rfl rfl) (.mv rfl rfl (.gz rfl (.gz rfl (.gz rfl (.gz rfl (.gz rfl (.kv rfl (.pickT rfl rfl) (.mv rfl rfl (.gz rfl (.gz rfl (.gz rfl (.kv rfl (.pickT rfl rfl) (.mv rfl rfl (.gz rfl (.gz rfl (.gz rfl (.kv rfl (.pickT rfl rfl) (.pf (.condT rfl (.sr (.a rfl (.an rfl (.rt ?_)))))))))))))))))))))))))))))))
  exact .dn rfl rfl ⟨by rw [(found_right hd hok hs.1 hn01).1 (.inl (by rw [hsE]; unfold bad1; first | exact .inl (by simpa using h2_18) | exact .inr (.inl (by simpa using h2_25)) | exact .inr (.inr (.inl (by simpa using h2_32))) | exact .inr (.inr (.inr (.inl (by omega)))) | exact .inr (.inr (.inr (.inr (by omega))))))]; rfl, rfl⟩
 refine D.kNF (t := 17) rfl h2_18 (.gq (t := 18) rfl rfl rfl (by kernel_rfl) (.move rfl) (.gq (t := 18) rfl rfl rfl (by kernel_rfl) (.to (v' := vstr (sub s 31 60)) (.strMid (i := 31) (j := 60) rfl rfl rfl Tryz.underlying9 (by omega)) rfl) (.gh (t := 18) rfl rfl rfl (by kernel_rfl) (.make rfl rfl el_125 ze_5 rfl ⟨by simp, by simp; rfl⟩ ?c19) (by repeat' constructor) ?_)))
 case c19 => omega
 rintro v L' ⟨bz, rfl, rfl⟩
 refine D.gv rfl (.bytesPt (cs := List.replicate 29 0) rfl Tryz.underlying125 Tryz.underlying5 Tryz.underlying9 (by repeat' constructor) (by first | (simp [List.map_replicate]; done) | (simp [List.map_replicate]; rfl)) (by simp) (by decide)) (.ph (.g0 (.gv rfl (.strne rfl rfl) (.kv rfl (.pickF rfl rfl) (.mv rfl rfl (.ndec (t := 25) rfl (fun h2_25 => ?_) (fun h2_25 => ?_)))))))
 ·refine D.kNT (t := 23) rfl h2_25 (.kNT (t := 24) rfl h2_25 (.gz rfl (.gz rfl (.gz rfl (.gz rfl (.gz rfl (.kv rfl (.pickT rfl rfl) (.mv rfl rfl (.gz rfl (.gz rfl (.gz rfl (.kv rfl (.pickT rfl rfl) (.mv rfl rfl (.gz rfl (.gz rfl (.gz rfl (.kv rfl (.pickT rfl rfl) (.pf (.condT rfl (.sr (.a rfl (.an rfl (.rt ?_)))))))))))))))))))))))
  exact .dn rfl rfl ⟨by rw [(found_right hd hok hs.1 hn01).1 (.inl (by rw [hsE]; unfold bad1; first | exact .inl (by simpa using h2_18) | exact .inr (.inl (by simpa using h2_25)) | exact .inr (.inr (.inl (by simpa using h2_32))) | exact .inr (.inr (.inr (.inl (by omega)))) | exact .inr (.inr (.inr (.inr (by omega))))))]; rfl, rfl⟩
 refine D.kNF (t := 23) rfl h2_25 (.kNF (t := 24) rfl h2_25 (.gv rfl (.move rfl) (.gv rfl (.to (v' := vstr (sub s 2 6)) (.strMid (i := 2) (j := 6) rfl rfl rfl Tryz.underlying9 (by omega)) rfl) (.gv rfl (.move rfl) (.gv rfl (.to (v' := vstr (s.drop 60)) (.strFrom (i := 60) rfl rfl Tryz.underlying9 (by omega)) rfl) (.gv rfl (.strne rfl rfl) (.kv rfl (.pickF rfl rfl) (.mv rfl rfl (.ndec (t := 32) rfl (fun h2_32 => ?_) (fun h2_32 => ?_))))))))))
 ·refine D.kNT (t := 30) rfl h2_32 (.kNT (t := 31) rfl h2_32 (.gz rfl (.gz rfl (.gz rfl (.kv rfl (.pickT rfl rfl) (.mv rfl rfl (.gz rfl (.gz rfl (.gz rfl (.kv rfl (.pickT rfl rfl) (.pf (.condT rfl (.sr (.a rfl (.an rfl (.rt ?_))))))))))))))))
  exact .dn rfl rfl ⟨by rw [(found_right hd hok hs.1 hn01).1 (.inl (by rw [hsE]; unfold bad1; first | exact .inl (by simpa using h2_18) | exact .inr (.inl (by simpa using h2_25)) | exact .inr (.inr (.inl (by simpa using h2_32))) | exact .inr (.inr (.inr (.inl (by omega)))) | exact .inr (.inr (.inr (.inr (by omega))))))]; rfl, rfl⟩
 refine D.kNF (t := 30) rfl h2_32 (.kNF (t := 31) rfl h2_32 (.gv rfl (.move rfl) (.gv rfl (.strIndex (c := s.getD 15 0) rfl rfl Tryz.underlying9 (by omega) (by simp [hsl])) (.gv rfl (.int rfl rfl rfl) (.kv rfl (.pickF rfl rfl) (.mv rfl rfl (.dec (t := 37) rfl (fun h2_37 => ?_) (fun h2_37 => ?_))))))))
 ·refine D.kDT (t := 35) rfl h2_37 (.kDT (t := 36) rfl h2_37 (.gz rfl (.gz rfl (.gz rfl (.kv rfl (.pickT rfl rfl) (.pf (.condT rfl (.sr (.a rfl (.an rfl (.rt ?_)))))))))))
  exact .dn rfl rfl ⟨by rw [(found_right hd hok hs.1 hn01).1 (.inl (by rw [hsE]; unfold bad1; first | exact .inl (by simpa using h2_18) | exact .inr (.inl (by simpa using h2_25)) | exact .inr (.inr (.inl (by simpa using h2_32))) | exact .inr (.inr (.inr (.inl (by omega)))) | exact .inr (.inr (.inr (.inr (by omega))))))]; rfl, rfl⟩
 refine D.kDF (t := 35) rfl h2_37 (.kDF (t := 36) rfl h2_37 (.gv rfl (.move rfl) (.gv rfl (.strIndex (c := s.getD 23 0) rfl rfl Tryz.underlying9 (by omega) (by simp [hsl])) (.gv rfl (.int rfl rfl rfl) (.kv rfl (.pickF rfl rfl) (.pf (.condD rfl (fun h41 => ?_) (fun h41 => ?_))))))))
 ·refine .sr (.a rfl (.an rfl (.rt ?_)))
  exact .dn rfl rfl ⟨by rw [(found_right hd hok hs.1 hn01).1 (.inl (by rw [hsE]; unfold bad1; first | exact .inl (by simpa using h2_18) | exact .inr (.inl (by simpa using h2_25)) | exact .inr (.inr (.inl (by simpa using h2_32))) | exact .inr (.inr (.inr (.inl (by omega)))) | exact .inr (.inr (.inr (.inr (by omega))))))]; rfl, rfl⟩
 refine .sk (.sm rfl (.q (.to (v' := vstr (sub s 2 6)) (.strMid (i := 2) (j := 6) rfl rfl rfl Tryz.underlying9 (by omega)) rfl) rfl (.oq (.c Tryz.func168 [_] (rsmall_spec _ ?hs46)) ?_)))
 case hs46 => first | (simp; omega) | omega
 rintro v L' ⟨rfl, rfl⟩
 refine .an rfl (.seq (.sm rfl (.ui rfl rfl rfl (.m rfl (.dec (t := 47) rfl (fun h5_47 => ?_) (fun h5_47 => ?_))))))
 ·refine .kDT (t := 46) rfl h5_47 (.gk (.gk (.gk (.gk (.u (.pickT rfl rfl) (.m rfl (.gk (.gk (.gk (.u (.pickT rfl rfl) (.m rfl (.gk (.gk (.gk (.gk (.gk (.gk (.gk (.u (.pickT rfl rfl) (.nt (.condT rfl (.sr (.a rfl (.an rfl (.rt ?_)))))))))))))))))))))))))
  exact .dn rfl rfl ⟨by rw [(found_right hd hok hs.1 hn01).1 (.inr (by rw [hsE]; unfold bad2; first | exact .inl (by omega) | exact .inr (.inl (by omega)) | exact .inr (.inr (.inl (by omega))) | exact .inr (.inr (.inr (by rw [hH]; omega)))))]; rfl, rfl⟩
 refine .kDF (t := 46) rfl h5_47 (.grun (t := 47) rfl rfl rfl (.m rfl (.grun (t := 47) rfl rfl rfl (.q (.remE rfl rfl (by omega) (by omega)) rfl (.grun (t := 47) rfl rfl rfl (.m rfl (.grun (t := 47) rfl rfl rfl (.ui rfl rfl rfl (.u (.pickF rfl rfl) (.m rfl (.ndec (t := 53) rfl (fun h5_53 => ?_) (fun h5_53 => ?_))))))))))))
 ·refine .kNT (t := 51) rfl h5_53 (.kNT (t := 52) rfl h5_53 (.gk (.gk (.gk (.u (.pickT rfl rfl) (.m rfl (.gk (.gk (.gk (.gk (.gk (.gk (.gk (.u (.pickT rfl rfl) (.nt (.condT rfl (.sr (.a rfl (.an rfl (.rt ?_))))))))))))))))))))
  exact .dn rfl rfl ⟨by rw [(found_right hd hok hs.1 hn01).1 (.inr (by rw [hsE]; unfold bad2; first | exact .inl (by omega) | exact .inr (.inl (by omega)) | exact .inr (.inr (.inl (by omega))) | exact .inr (.inr (.inr (by rw [hH]; omega)))))]; rfl, rfl⟩
 refine .kNF (t := 51) rfl h5_53 (.kNF (t := 52) rfl h5_53 (.grun (t := 53) rfl rfl rfl (.m rfl (.grun (t := 53) rfl rfl rfl (.q (.strIndex (c := s.getD 6 0) rfl rfl Tryz.underlying9 (by omega) (by simp [hsl])) rfl (.grun (t := 53) rfl rfl rfl (.ui rfl rfl rfl (.u (.pickF rfl rfl) (.m rfl (.dec (t := 58) rfl (fun h5_58 => ?_) (fun h5_58 => ?_)))))))))))
 ·refine .kDT (t := 56) rfl h5_58 (.kDT (t := 57) rfl h5_58 (.gk (.gk (.gk (.gk (.gk (.gk (.gk (.u (.pickT rfl rfl) (.nt (.condT rfl (.sr (.a rfl (.an rfl (.rt ?_)))))))))))))))
  exact .dn rfl rfl ⟨by rw [(found_right hd hok hs.1 hn01).1 (.inr (by rw [hsE]; unfold bad2; first | exact .inl (by omega) | exact .inr (.inl (by omega)) | exact .inr (.inr (.inl (by omega))) | exact .inr (.inr (.inr (by rw [hH]; omega)))))]; rfl, rfl⟩
 refine .kDF (t := 56) rfl h5_58 (.kDF (t := 57) rfl h5_58 (.grun (t := 58) rfl rfl rfl (.m rfl (.grun (t := 58) rfl rfl rfl (.q (.to (v' := vstr (sub s 7 11)) (.strMid (i := 7) (j := 11) rfl rfl rfl Tryz.underlying9 (by omega)) rfl) rfl (.grun (t := 58) rfl rfl rfl (.oq (.c Tryz.func168 [_] (rsmall_spec _ ?hs68)) ?_)))))))
 case hs68 => first | (simp; omega) | omega
 rintro v L' ⟨rfl, rfl⟩
 refine .grun (t := 58) rfl rfl rfl (.m rfl (.grun (t := 58) rfl rfl rfl (.oq (.c Tryz.func64 [_] (rhalf_spec _ _ _ _ _ _ _ _ ?hl72)) ?_)))
 case hl72 => exact hs
 rintro v L' ⟨rfl, rfl⟩
 refine .grun (t := 58) rfl rfl rfl (.q (.mul rfl rfl (by omega)) rfl (.grun (t := 58) rfl rfl rfl (.ui rfl rfl rfl (.u (.pickF rfl rfl) (.nt (.condD rfl (fun h66 => ?_) (fun h66 => ?_)))))))
 ·refine .sr (.a rfl (.an rfl (.rt ?_)))
  exact .dn rfl rfl ⟨by rw [(found_right hd hok hs.1 hn01).1 (.inr (by rw [hsE]; unfold bad2; first | exact .inl (by omega) | exact .inr (.inl (by omega)) | exact .inr (.inr (.inl (by omega))) | exact .inr (.inr (.inr (by rw [hH]; omega)))))]; rfl, rfl⟩
 refine .sk (.sm rfl (.a rfl (.an rfl (.ret ?_))))
 exact .dn rfl rfl ⟨by rw [(found_right hd hok hs.1 hn01).2 (by rw [hsE]; unfold bad1 bad2; simp only [not_or]; exact ⟨⟨by simpa using h2_18, by simpa using h2_25, by simpa using h2_32, by omega, by omega⟩, by omega, by omega, by omega, by rw [hH]; omega⟩), hsE]; rfl, rfl⟩
theorem rsize_spec (va : Value) (l : List Bs) (p : HP) (hp : ∀ h : Hp, p h → rdS 1 h va l.length (strs l)) (hll : (laidZ l).length ≤ 4000000000000) : Fn Tryz.prog 65 #[va] [p] fun v L => v = vint (laidZ l).length ∧ L = [p] := by
 refine Fn.intro Tryz.func65 rfl rfl fun F W => ?_
 have hlm := laidZ_many l
 refine .rdAny (p := p) hp (by repeat' constructor) fun aa ca e _ => ?_
 subst e
 refine .sr (.an rfl (.sr (.an rfl (.seq (.sr (.an rfl (.block (.loopK (ι := Nat) (fun q E => (4, vint q) :: (3, vint (laidZ (l.take q)).length) :: E) (fun q => []) (fun q => q ≤ l.length) (fun q => l.length - q) (0) (ts := [0, 2]) (.cons rfl (.cons rfl (.nil))) (Nat.zero_le _) ⟨rfl, rfl, rfl, rfl, trivial⟩ (by repeat' constructor) ?_))))))))
 rintro i hi
 refine .seq (.sm rfl (.m rfl (.q (.slen rfl Tryz.underlying46 rfl) rfl (.ui rfl rfl rfl (.nt (.condD rfl (fun h8 => ?_) (fun h8 => ?_)))))))
 ·have hi2 : i < l.length := by omega
  refine .rdShape (p := p) hp (by repeat' constructor) (by omega) fun ba oa e => ?_
  subst e
  have hts := laidZ_take_len l (i + 1)
  have hsu : (laidZ (l.take (i + 1))).length = (laidZ (l.take i)).length + l[i].length + 6 := by rw [laidZ_succ hi2, List.length_append, recZ_len]; omega
  refine .sk (.seq (.block (.region (.m rfl (.m rfl (.m rfl (.q (.indexAddr rfl rfl el_46 (by omega)) rfl (.q (.loadRd (sz := 1) (j := i) (p := p) (v := vstr l[i]) rfl ag_9 (by repeat' constructor) hp (by simp) (by simp [hi2])) rfl (.q (.strlen rfl Tryz.underlying9 rfl) rfl (.q (.add rfl rfl (by omega)) rfl (.q (.as (v' := vint (laidZ (l.take (i + 1))).length) (by rw [hsu]; exact congrArg (Value.int .i64) (by omega)) (.add rfl rfl (by omega))) rfl (.a rfl (.nil (.blk_n (.then_n (.region (.m rfl (.q (.add rfl rfl (by omega)) rfl (.an rfl ?_)))))))))))))))))))
  exact .rk (i + 1) (by omega) (by omega) ⟨rfl, rfl, rfl, rfl, trivial⟩
 refine .exit (.then_e (.then_e (.blk_e (.then_n (.sm rfl (.an rfl (.ret ?_)))))))
 exact .dn rfl rfl ⟨by have hi3 : i = l.length := (by omega); rw [hi3, List.take_length], rfl⟩
theorem rrecords_spec (s : Bs) (num : Int) (hs : s.length ≤ 2147483648) : Fn Tryz.prog 169 #[vstr s, vint num] [] fun v L => (∃ l, partZ s num = some l ∧ (∃ a c, v = .tuple #[.slice a l.length c, .bool true] ∧ L = [strR (.slice a l.length c) l])) ∨ (partZ s num = none ∧ (∃ w, v = .tuple #[w, .bool false]) ∧ L = []) := by
 refine Fn.intro Tryz.func169 rfl rfl fun F W => ?_
 refine .sr (.a rfl (.an rfl (.sr (.an rfl (.seq (.block (.add (slR_nil 9 1) (.loopK (ι := Bs × (List Bs) × Nat × Value) (fun q E => (0, vstr q.1) :: (6, q.2.2.2) :: E) (fun q => [strR q.2.2.2 q.2.1]) (fun q => q.1.length < q.2.2.1 ∧ partF q.2.2.1 q.1 q.2.1 num = partZ s num ∧ q.2.1.length + q.1.length ≤ s.length ∧ ∃ a c, q.2.2.2 = .slice a q.2.1.length c) (fun q => q.1.length) (s, [], s.length + 1, .slice none 0 0) (ts := [1]) (.cons rfl (.nil)) (⟨Nat.lt_succ_self _, rfl, by simp, _, _, rfl⟩) ⟨rfl, rfl, rfl, trivial⟩ (by repeat' constructor) ?_))))))))
 rintro ⟨s2, out, f, u⟩ ⟨hf, hp, hle, au, cu, hu⟩
 dsimp only
 dsimp only at hf hp hle hu
 subst hu
 refine .seq (.sm rfl (.q (.strlen rfl Tryz.underlying9 rfl) rfl (.ui rfl rfl rfl (.nt (.condD rfl (fun h10 => ?_) (fun h10 => ?_))))))
 ·have h10b : 0 < s2.length := by simpa [bs_size] using h10
  obtain ⟨f, rfl⟩ : ∃ k, f = k + 1 := ⟨f - 1, by omega⟩
  simp only [partF] at hp
  rw [if_neg (by intro h; rw [h] at h10b; exact Nat.lt_irrefl _ h10b)] at hp
  refine .sk (.block (.seq (.sm rfl (.q (.slen rfl Tryz.underlying46 rfl) rfl (.m rfl (.ui rfl rfl rfl (.m rfl (.dec (t := 15) rfl (fun h3_15 => ?_) (fun h3_15 => ?_)))))))))
  ·refine .kDT (t := 14) rfl h3_15 (.gk (.gk (.gk (.u (.pickT rfl rfl) (.nt (.condT rfl (.sr (.a rfl (.an rfl (.rt (.blk_r (.then_r (.blk_r (.then_r ?_))))))))))))))
   rw [if_pos (by first | exact .inl h3_15 | exact .inr (by omega))] at hp
   exact .dn rfl rfl (.inr ⟨hp.symm, ⟨_, rfl⟩, rfl⟩)
  refine .kDF (t := 14) rfl h3_15 (.grun (t := 15) rfl rfl rfl (.m rfl (.grun (t := 15) rfl rfl rfl (.q (.strlen rfl Tryz.underlying9 rfl) rfl (.grun (t := 15) rfl rfl rfl (.ui rfl rfl rfl (.u (.pickF rfl rfl) (.nt (.condD rfl (fun h19 => ?_) (fun h19 => ?_))))))))))
  ·refine .sr (.a rfl (.an rfl (.rt (.blk_r (.then_r (.blk_r (.then_r ?_)))))))
   rw [if_pos (by first | exact .inl h3_15 | exact .inr (by omega))] at hp
   exact .dn rfl rfl (.inr ⟨hp.symm, ⟨_, rfl⟩, rfl⟩)
  refine .sk (.seq ?_)
  have h6 : 6 ≤ s2.length := by omega
  rw [if_neg (by rintro (h | h) <;> omega)] at hp
  refine .region (.m rfl (.q (.to (v' := vstr (s2.take 2)) (.strTo (j := 2) rfl rfl Tryz.underlying9 (by omega)) rfl) rfl (.oq (.c Tryz.func168 [_] (rsmall_spec (s2.take 2) ?hs21)) ?_)))
  case hs21 => rw [List.length_take]; omega
  rintro v L' ⟨rfl, rfl⟩
  refine .a rfl (.nil ?_)
  obtain ⟨hn0, hn1, -⟩ := smallZ_nonneg (s := s2.take 2) (by rw [List.length_take]; omega)
  generalize smallZ (s2.take 2) = n at *
  obtain ⟨k, rfl⟩ := Int.eq_ofNat_of_zero_le hn0
  simp only [Int.toNat_natCast] at hp
  have hn1 : k < 65536 := by rw [List.length_take, Nat.min_eq_left (by omega)] at hn1; have e : (256 : Int) ^ 2 = 65536 := rfl; omega
  refine .then_n (.seq (.seq (.draw [] [[0, 1, 2, 3, 4, 5, 6, 7, 8, 9, 10, 11, 12, 13, 14, 15, 16, 17, 18, 19, 20]] mixed (by kernel_rfl) (.g0 (.mv rfl rfl (.kv rfl (.int rfl rfl rfl) (.mv rfl rfl (.dec (t := 25) rfl (fun h6_25 => ?_) (fun h6_25 => ?_)))))))))
  ·refine D.kDT (t := 24) rfl h6_25 (.gz rfl (.gz rfl (.gz rfl (.gz rfl (.gz rfl (.kv rfl (.pickT rfl rfl) (.mv rfl rfl (.gz rfl (.gz rfl (.gz rfl (.gz rfl (.gz rfl (.gz rfl (.gz rfl (.gz rfl (.gz rfl (.gz rfl (.kv rfl (.pickT rfl rfl) (.pf (.condT rfl (.sr (.a rfl (.an rfl (.rt (.blk_r (.then_r (.blk_r (.then_r ?_))))))))))))))))))))))))))))
   rw [if_pos (by first | exact .inl h6_25 | exact .inr (by omega))] at hp
   exact .dn rfl rfl (.inr ⟨hp.symm, ⟨_, rfl⟩, rfl⟩)
  refine D.kDF (t := 24) rfl h6_25 (.gv rfl (.move rfl) (.gv rfl (.strlen rfl Tryz.underlying9 rfl) (.gv rfl (.move rfl) (.gv rfl (.add rfl rfl (by omega)) (.gv rfl (.int rfl rfl rfl) (.kv rfl (.pickF rfl rfl) (.mv rfl rfl (.dec (t := 32) rfl (fun h6_32 => ?_) (fun h6_32 => ?_)))))))))
  ·refine D.kDT (t := 30) rfl h6_32 (.kDT (t := 31) rfl h6_32 (.gz rfl (.gz rfl (.gz rfl (.gz rfl (.gz rfl (.gz rfl (.gz rfl (.gz rfl (.gz rfl (.gz rfl (.kv rfl (.pickT rfl rfl) (.pf (.condT rfl (.sr (.a rfl (.an rfl (.rt (.blk_r (.then_r (.blk_r (.then_r ?_))))))))))))))))))))))
   rw [if_pos (by first | exact .inl h6_25 | exact .inr (by omega))] at hp
   exact .dn rfl rfl (.inr ⟨hp.symm, ⟨_, rfl⟩, rfl⟩)
  have hk4 : k ≤ 4000 := by omega
  have hk6 : k + 6 ≤ s2.length := by omega
  refine D.kDF (t := 30) rfl h6_32 (.kDF (t := 31) rfl h6_32 (.gv rfl (.move rfl) (.gv rfl (.move rfl) (.gv rfl (.add rfl rfl (by omega)) (.gv rfl (.to (v' := vstr (sub s2 2 (k + 2))) (.strMid (i := 2) (j := 2 + (k : Int)) rfl rfl rfl Tryz.underlying9 (by omega)) (by rw [show (2 + (k : Int)).toNat = k + 2 by omega]; rfl)) (.gm (t := 32) rfl rfl rfl (by kernel_rfl) (.c Tryz.func123 [_] (rrecord_spec (sub s2 2 (k + 2)) (by rw [sub_len (by omega)]; omega))) (by repeat' constructor) ?_))))))
  refine D.gv rfl (.move rfl) (.gv rfl (.move rfl) (.gv rfl (.add rfl rfl (by omega)) (.gv rfl (.to (v' := vstr (s2.take (k + 6))) (.strTo (j := (k : Int) + 6) rfl rfl Tryz.underlying9 (by omega)) (by rw [show ((k : Int) + 6).toNat = k + 6 by omega])) (.gv rfl (.strne rfl rfl) (.kv rfl (.pickF rfl rfl) (.pf (.condN rfl (fun h43 => ?_) (fun h43 => ?_))))))))
  ·refine .sr (.a rfl (.an rfl (.rt (.blk_r (.then_r (.blk_r (.then_r ?_)))))))
   rw [if_neg (by rintro (h | h) <;> omega), if_pos (fun h => h43 h.symm)] at hp
   exact .dn rfl rfl (.inr ⟨hp.symm, ⟨_, rfl⟩, rfl⟩)
  refine .sk (.seq ?_)
  rw [if_neg (by rintro (h | h) <;> omega), if_neg (fun hc => hc (Eq.symm (by simpa using h43)))] at hp
  refine .region (.m rfl (.m rfl (.m rfl (.q (.add rfl rfl (by omega)) rfl (.q (.to (v' := vstr (sub s2 2 (k + 2))) (.strMid (i := 2) (j := 2 + (k : Int)) rfl rfl rfl Tryz.underlying9 (by omega)) (by rw [show (2 + (k : Int)).toNat = k + 2 by omega]; rfl)) rfl (.oq (.buildSlice1 (vs := [_]) el_46 ze_9 rfl rfl rfl rfl rfl (by decide)) ?_))))))
  rintro v L' ⟨b8_5, rfl, rfl⟩
  refine .oq (.append1 rfl rfl rfl el_46 ze_9 rfl rfl ?c53 ?c54 (Nat.le_refl _) ?c55 (by decide)) ?_
  case c53 => (first | (simp [isCell]; done) | (simp [isCell, setAll, Value.cells]; done))
  case c54 => rfl
  case c55 => omega
  rintro v L' ⟨⟨a8_6, c8_6, rfl⟩, rfl⟩
  refine .a rfl (.nil (.slCast (m' := (out ++ [sub s2 2 (k + 2)]).length) (xs' := strs (out ++ [sub s2 2 (k + 2)])) (by repeat' constructor) (by simp) (by simp [strs]) (.then_n (.region (.m rfl (.m rfl (.q (.add rfl rfl (by omega)) rfl (.q (.to (v' := vstr (s2.drop (k + 6))) (.strFrom (i := (k : Int) + 6) rfl rfl Tryz.underlying9 (by omega)) (by rw [show ((k : Int) + 6).toNat = k + 6 by omega])) rfl (.a rfl (.nil (.blk_n (.then_n ?_))))))))))))
  exact .rk ((s2.drop (k + 6), out ++ [sub s2 2 (k + 2)], f, .slice a8_6 (out.length + 1) c8_6)) (⟨by dsimp only; rw [List.length_drop]; omega, hp, by dsimp only; rw [List.length_drop, List.length_append, List.length_singleton]; omega, _, _, by rw [List.length_append, List.length_singleton]⟩) (by dsimp only; rw [List.length_drop]; omega) ⟨rfl, rfl, rfl, trivial⟩
 have h10 : s2 = [] := List.length_eq_zero_iff.1 (by have : ¬ 0 < s2.length := (by simpa [bs_size] using h10); omega)
 subst h10
 obtain ⟨f, rfl⟩ : ∃ k, f = k + 1 := ⟨f - 1, by simp at hf; omega⟩
 simp only [partF, eq_self, if_true] at hp
 refine .exit (.then_e (.then_e (.blk_e (.then_n (.sm rfl (.m rfl (.q (.slen rfl Tryz.underlying46 rfl) rfl (.m rfl (.ui rfl rfl rfl (.a rfl (.an rfl (.ret ?_))))))))))))
 split at hp
 · rename_i hq
   exact .dn rfl rfl (.inl ⟨out, hp.symm, _, _, by rw [decide_eq_true hq], rfl⟩)
 rename_i hq
 exact .dn rfl rfl (.inr ⟨hp.symm, ⟨_, by rw [decide_eq_false hq]⟩, rfl⟩)
theorem ropen_spec (x : Nat) (ρ : Rk) (δ : Dk) (hL : ρ.L = δ.now) (hd : δ.dead = false) (hg : ρ.Gone = false) (hn : 2 ≤ δ.now.length ∧ δ.now.length ≤ 32768) (hok : δ.Ok) : Fn Tryz.prog 127 #[vptr x] [rkR x ρ] fun v L => (openZ δ = none ∧ v = .tuple #[.pointer none, vint 31] ∧ L = [rkR x ρ]) ∨ (∃ ω, openZ δ = some ω ∧ ∃ y, v = .tuple #[vptr y, vint 0] ∧ L = [rkR x ρ, rlR y x ω]) := by
 refine Fn.intro Tryz.func127 rfl rfl fun F W => ?_
 refine .rkOpen .here fun vL vO vP hrok => ?_
 rw [hL, hg]
 refine .slAny (v := vL) (by repeat' constructor) fun aL cL e lL => ?_
 subst e
 refine .slShape (v := .slice aL _ cL) (by repeat' constructor) (by omega) fun bL cL' e mL _ => ?_
 simp only [Value.slice.injEq, true_and] at e
 obtain ⟨rfl, rfl⟩ := e
 have hn2 := hn.1
 have hHL : halfZ δ = halfL δ.now := rfl
 refine .sr (.a rfl (.an rfl (.seq (.sm rfl (.q (.ptreq rfl rfl Tryz.underlying47) rfl (.nt (.condF rfl (.sk (.seq (.sm rfl (.nf rfl fo_58_5 (.u (.ld rfl ag_4) (.nt (.condF rfl (.sk (.sm rfl (.cv Tryz.func167 [_, _] (rright_spec x _ vO vP ρ.N ρ.At false δ 0 (by decide) hd hok hn) ?_)))))))))))))))))
 refine .m rfl (.u (.extract rfl rfl) (.u (.extract rfl rfl) (.a rfl (.an rfl (.sm rfl (.cv Tryz.func167 [_, _] (rright_spec x _ vO vP ρ.N ρ.At false δ 1 (by decide) hd hok hn) ?_))))))
 refine .m rfl (.u (.extract rfl rfl) (.u (.extract rfl rfl) (.a rfl (.an rfl (.seq (.joinK (ι := Unit) (fun q E => E) (fun q => []) (fun q => ¬ (foundZ δ 0 = none ∧ foundZ δ 1 = none)) (pre := []) (ts := [0, 4, 5, 6, 7]) (.cons rfl (.cons rfl (.cons rfl (.cons rfl (.cons rfl (.nil)))))) (by repeat' constructor) ?_ ?_))))))
 ·refine .sm rfl (.u (.not rfl) (.m rfl (.bool (t := 33) rfl (fun h7_33 => ?_) (fun h7_33 => ?_))))
  ·refine .kB (t := 32) rfl h7_33 (.grun (t := 33) rfl rfl rfl (.m rfl (.grun (t := 33) rfl rfl rfl (.u (.not rfl) (.u (.pickT rfl rfl) (.nt (.condB rfl (fun h36 => ?_) (fun h36 => ?_))))))))
   ·refine .sr (.a rfl (.an rfl (.rt (.rkFold (ρ := ρ) (by repeat' constructor) (by rw [hg]) ⟨by rw [hL], by rw [hL]⟩ ⟨rfl, rfl⟩ ⟨rfl, rfl⟩ hrok ?_))))
    exact .dn rfl rfl (.inl ⟨openZ_none (by have g1 : foundZ δ 0 = none := (by rcases g : foundZ δ 0 with _ | q; rfl; rw [g] at h7_33; simp at h7_33); have g2 : foundZ δ 1 = none := (by rcases g : foundZ δ 1 with _ | q; rfl; rw [g] at h36; simp at h36); unfold bestZ; rw [g1, g2]), rfl, rfl⟩)
   refine .sk ?_
   exact .mk (()) (by rintro ⟨g1, g2⟩; rw [g2] at h36; simp at h36) ⟨rfl, rfl, rfl, rfl, rfl, trivial⟩
  refine .kB (t := 32) rfl h7_33 (.gk (.gk (.u (.pickF rfl rfl) (.nt (.condF rfl (.sk ?_))))))
  exact .mk (()) (by rintro ⟨g1, g2⟩; rw [g1] at h7_33; simp at h7_33) ⟨rfl, rfl, rfl, rfl, rfl, trivial⟩
 rintro u0 hone
 refine .sr (.an rfl (.seq (.joinK (ι := Mk × Int) (fun q E => (8, vint q.2) :: (4, vint q.1.count) :: E) (fun q => []) (fun q => bestZ δ = some q.1 ∧ foundZ δ q.2 = some q.1 ∧ 0 ≤ q.2 ∧ q.2 ≤ 1) (pre := []) (ts := [0]) (.cons rfl (.nil)) (by repeat' constructor) ?_ ?_)))
 ·refine .sr ?_
  rcases hf0 : foundZ δ 0 with _ | m0
  ·refine .m rfl ?_
   rcases hf1 : foundZ δ 1 with _ | m1
   ·exact absurd ⟨hf0, hf1⟩ hone
   refine .u (.not rfl) (.m rfl (.gk (.gk (.gskipU (t := 41) rfl rfl rfl (.gskipU (t := 41) rfl rfl rfl (.gskipU (t := 41) rfl rfl rfl (.gk (.u (.pickT rfl rfl) (.nt (.condT rfl (.sr (.an rfl (.region (.m rfl (.an rfl ?_)))))))))))))))
   exact .mk ((m1, 1)) (⟨by dsimp only; unfold bestZ; rw [hf0, hf1], hf1, by dsimp only; omega, by dsimp only; omega⟩) ⟨rfl, rfl, rfl, trivial⟩
  refine .m rfl ?_
  rcases hf1 : foundZ δ 1 with _ | m1
  ·refine .u (.not rfl) (.m rfl (.grun (t := 39) rfl rfl rfl (.m rfl (.grun (t := 39) rfl rfl rfl (.m rfl (.gk (.gk (.gk (.grun (t := 39) rfl rfl rfl (.u (.pickF rfl rfl) (.u (.pickF rfl rfl) (.nt (.condF rfl (.sk ?_))))))))))))))
   exact .mk ((m0, 0)) (⟨by dsimp only; unfold bestZ; rw [hf0, hf1], hf0, by dsimp only; omega, by dsimp only; omega⟩) ⟨rfl, rfl, rfl, trivial⟩
  refine .u (.not rfl) (.m rfl (.grun (t := 39) rfl rfl rfl (.m rfl (.grun (t := 39) rfl rfl rfl (.m rfl (.grun (t := 41) rfl rfl rfl (.m rfl (.grun (t := 41) rfl rfl rfl (.m rfl (.grun (t := 41) rfl rfl rfl (.ui rfl rfl rfl (.grun (t := 39) rfl rfl rfl (.u (.pickT rfl rfl) (.u (.pickF rfl rfl) (.nt (.condD rfl (fun h46 => ?_) (fun h46 => ?_)))))))))))))))))
  ·refine .sr (.an rfl (.region (.m rfl (.an rfl ?_))))
   exact .mk ((m1, 1)) (⟨by dsimp only; unfold bestZ; rw [hf0, hf1]; exact congrArg some (if_pos h46), hf1, by dsimp only; omega, by dsimp only; omega⟩) ⟨rfl, rfl, rfl, trivial⟩
  refine .sk ?_
  exact .mk ((m0, 0)) (⟨by dsimp only; unfold bestZ; rw [hf0, hf1]; exact congrArg some (if_neg h46), hf0, by dsimp only; omega, by dsimp only; omega⟩) ⟨rfl, rfl, rfl, trivial⟩
 rintro ⟨m, n⟩ ⟨hbest, hfm, hn01⟩
 dsimp only
 dsimp only at hbest hfm hn01
 refine .seq ?_
 have hm := bestZ_some hok hbest
 obtain ⟨e1, e2, e3, e4⟩ := bytesZ_len hok hn2 hm
 have hml := hm.len
 have hma := hm.area
 have hmn := hm.num
 have hhalf : halfZ δ ≤ 16383 := by unfold halfZ; omega
 have hpm := found_parse hd hn2 hn01 hfm
 have hnn : n.toNat < δ.now.length := by omega
 have hsl : (δ.now[n.toNat]).length = 64 := hok.sec _ (List.getElem_mem _)
 generalize hsE0 : δ.now[n.toNat] = s at hsl
 have hsE : δ.now.getD n.toNat [] = s := by rw [← hsE0]; simp [hnn]
 rw [hsE] at hpm
 have hz1 : smallZ (sub s 7 11) = m.len := by rw [hpm]; rfl
 have hz2 : smallZ (sub s 11 15) = m.num := by rw [hpm]; rfl
 have hz3 : smallZ (sub s 15 23) = m.a := by rw [hpm]; rfl
 have hz4 : smallZ (sub s 23 31) = m.b := by rw [hpm]; rfl
 have hz5 : m.area = ((s.getD 6 0).toNat : Int) := by rw [hpm]; exact small_area (by omega)
 have hq1 : (sub s 7 11).length = 4 := by rw [sub_len (by omega)]
 have hq2 : (sub s 11 15).length = 4 := by rw [sub_len (by omega)]
 have hq3 : (sub s 15 23).length = 8 := by rw [sub_len (by omega)]
 have hq4 : (sub s 23 31).length = 8 := by rw [sub_len (by omega)]
 refine .region (.m rfl (.nf rfl fo_58_0 (.u (.ld rfl ag_46) (.m rfl (.q (.indexAddr rfl rfl el_46 (by omega)) rfl (.q (.to (v' := vstr s) (.loadSl (v := vstr δ.now[n.toNat]) (i := n.toNat * 1) rfl ag_9 (by repeat' constructor) (by simp [hnn])) (by rw [hsE0])) rfl (.an rfl (.sm rfl (.q (.strIndex (c := s.getD 6 0) rfl rfl Tryz.underlying9 (by omega) (by simp [hsl])) rfl (.q (.as (v' := vint m.area) (by rw [hz5]; exact congrArg (Value.int .i64) (i64w (by omega))) (.conv rfl Tryz.underlying5 Tryz.underlying3)) rfl (.an rfl (.sr (.an rfl (.seq (.sr (.an rfl (.block (.add (slR_nil 5 1) (.loopK (ι := Nat × Value) (fun q E => (11, q.2) :: (12, vint q.1) :: E) (fun q => [bytR q.2 (areaZ δ m.area q.1)]) (fun q => q.1 ≤ secs m ∧ ∃ a c, q.2 = .slice a (areaZ δ m.area q.1).length c) (fun q => secs m - q.1) (0, .slice none 0 0) (ts := [0, 4, 9, 10]) (.cons rfl (.cons rfl (.cons rfl (.cons rfl (.nil))))) (⟨Nat.zero_le _, _, _, rfl⟩) ⟨rfl, rfl, rfl, rfl, rfl, rfl, trivial⟩ (by repeat' constructor) ?_)))))))))))))))))))
 rintro ⟨i, u⟩ ⟨hi, au, cu, hu⟩
 dsimp only
 dsimp only at hi hu
 subst hu
 have hal := areaZ_len hok hn2 hma i (by omega)
 refine .seq (.sm rfl (.q (.slen rfl Tryz.underlying125 rfl) rfl (.m rfl (.q (.to (v' := vstr (sub s 7 11)) (.strMid (i := 7) (j := 11) rfl rfl rfl Tryz.underlying9 (by omega)) rfl) rfl (.oq (.c Tryz.func168 [_] (rsmall_spec (sub s 7 11) (by omega))) ?_)))))
 rintro v L' ⟨rfl, rfl⟩; rw [hz1]
 refine .ui rfl rfl rfl (.nt (.condD rfl (fun h63 => ?_) (fun h63 => ?_)))
 ·have hi2 : i < secs m := by unfold secs; omega
  have hix := area_idx hn2 hma (i := i) (by omega)
  have hixn : (2 + m.area * halfZ δ + i).toNat < δ.now.length := by omega
  have hslx := getD_mem64' hok.sec (i := (2 + m.area * halfZ δ + i).toNat) (by omega)
  have hmul : 0 ≤ m.area * halfZ δ ∧ m.area * halfZ δ ≤ 16383 := by rcases (by omega : m.area = 0 ∨ m.area = 1) with h | h <;> rw [h] <;> unfold halfZ <;> omega
  refine .sk (.seq (.block (.draw [14] [[0, 1, 2, 3, 4, 5, 6, 7, 8, 9, 10, 11, 12, 13, 14], [15]] mixed (by kernel_rfl) (.go [rkC x _ vO vP ρ.N ρ.At false, strR _ δ.now] (by repeat' constructor) (.mv rfl rfl (.mv rfl rfl (.nf rfl rfl rfl fo_58_0 (.kv rfl (.ld rfl ag_46) (.mv rfl rfl (.mv rfl rfl (.m rfl (by kernel_rfl) (.c Tryz.func64 [_] (rhalf_spec x _ vO vP ρ.N ρ.At false δ.now hn)) (by repeat' constructor) ?_)))))))))))
  rw [← hHL]
  refine D.kv rfl (.mul rfl rfl (by omega)) (.kv rfl (.add rfl rfl (by omega)) (.mv rfl rfl (.kv rfl (.add rfl rfl (by omega)) (.kv rfl (.indexAddr rfl rfl el_46 (by omega)) (.kv rfl (.to (v' := vstr (δ.now.getD (2 + m.area * halfZ δ + i).toNat [])) (.loadSl (v := vstr δ.now[(2 + m.area * halfZ δ + i).toNat]) (i := (2 + m.area * halfZ δ + i).toNat * 1) rfl ag_9 (by repeat' constructor) (by simp [hixn])) (by simp [hixn])) (.hh rfl (.appendS rfl rfl rfl el_125 Tryz.underlying9 ze_5 rfl rfl ?hb74 (by decide)) ?_))))))
  case hb74 => omega
  rintro v L' ⟨⟨a16, c16, rfl⟩, rfl⟩
  refine D.ph (.g0 (.kv rfl (.assign rfl) (.ph (.fin (.blk_n (.then_n (.region (.m rfl (.q (.add rfl rfl (by omega)) rfl (.an rfl ?_))))))))))
  rw [show bysL (areaZ δ m.area i) ++ (δ.now.getD (2 + m.area * halfZ δ + i).toNat []).map vbyte = bysL (areaZ δ m.area (i + 1)) by rw [areaZ_succ, bysL_append]; rfl, show (areaZ δ m.area i).length + (δ.now.getD (2 + m.area * halfZ δ + i).toNat []).length = (areaZ δ m.area (i + 1)).length by rw [areaZ_succ, List.length_append]]
  exact .rk ((i + 1, .slice a16 (areaZ δ m.area (i + 1)).length c16)) (⟨by dsimp only; omega, _, _, rfl⟩) (by dsimp only; omega) ⟨rfl, rfl, rfl, rfl, rfl, rfl, trivial⟩
 have hi3 : i = secs m := by unfold secs; unfold secs at hi; omega
 subst hi3
 refine .slAddr (a := au) (c := cu) (by repeat' constructor) fun hcap hadr => (.slTo (m := (areaZ δ m.area (secs m)).length) (k := m.len.toNat) (by omega) (by repeat' constructor) (.slCast (m' := (bytesZ δ m).length) (xs' := bysL (bytesZ δ m)) (by repeat' constructor) e3.symm (by rw [show bytesZ δ m = (areaZ δ m.area (secs m)).take m.len.toNat from rfl]; simp [bysL, List.map_take]) ?_))
 rw [← e3]
 refine .exit (.then_e (.then_e (.blk_e (.then_n (.seq (.draw [9] [[0, 1, 2, 3, 4, 5, 6, 7, 8, 9], [10, 11, 12, 13, 14]] mixed (by kernel_rfl) (.g0 (.mv rfl rfl (.mv rfl rfl (.kv rfl (.to (v' := vstr (sub s 7 11)) (.strMid (i := 7) (j := 11) rfl rfl rfl Tryz.underlying9 (by omega)) rfl) (.m rfl (by kernel_rfl) (.c Tryz.func168 [_] (rsmall_spec (sub s 7 11) (by omega))) (by repeat' constructor) ?_)))))))))))
 rw [hz1]
 refine D.kv rfl (.to (v' := .slice au (bytesZ δ m).length cu) (.slTo (j := m.len) rfl el_125 rfl (by omega) hadr) (by rw [e3])) (.kv rfl (.bytesBy (cs := bytesZ δ m) (n := (bytesZ δ m).length) (p := bytR (.slice au (bytesZ δ m).length cu) (bytesZ δ m)) rfl Tryz.underlying125 Tryz.underlying5 Tryz.underlying9 (fun h hp => slR_rd hp) (by repeat' constructor)) (.mv rfl rfl (.kv rfl (.to (v' := vstr (sub s 11 15)) (.strMid (i := 11) (j := 15) rfl rfl rfl Tryz.underlying9 (by omega)) rfl) (.m rfl (by kernel_rfl) (.c Tryz.func168 [_] (rsmall_spec (sub s 11 15) (by omega))) (by repeat' constructor) ?_))))
 rw [hz2]
 refine D.hh rfl (.c Tryz.func169 [_, _] (rrecords_spec (bytesZ δ m) m.num ?hs90)) ?_
 case hs90 => omega
 rintro v L' (⟨l, hpart, ap, cp, rfl, rfl⟩ | ⟨hpart, ⟨w, rfl⟩, rfl⟩)
 ·obtain ⟨hl1, hl2⟩ := partZ_laid hpart
  have hlm := laidZ_many l
  rw [hl1] at hlm
  refine D.ph (.g0 (.mv rfl rfl (.kv rfl (.extract rfl rfl) (.kv rfl (.extract rfl rfl) (.kv rfl (.assign rfl) (.kv rfl (.assign rfl) (.pf (.seq (.sm rfl (.u (.not rfl) (.nt (.condF rfl (.sk (.seq (.draw [13] [[0, 1, 2, 3, 4, 5, 6, 7, 8, 9, 10, 11, 12, 13], [14, 15]] mixed (by kernel_rfl) (.g0 (.mv rfl rfl (.mv rfl rfl (.mv rfl rfl (.kv rfl (.slen rfl Tryz.underlying46 rfl) (.mv rfl rfl (.mv rfl rfl (.mv rfl rfl (.kv rfl (.to (v' := vstr (sub s 15 23)) (.strMid (i := 15) (j := 23) rfl rfl rfl Tryz.underlying9 (by omega)) rfl) (.m rfl (by kernel_rfl) (.c Tryz.func168 [_] (rsmall_spec (sub s 15 23) (by omega))) (by repeat' constructor) ?_)))))))))))))))))))))))))
  rw [hz3]
  refine D.mv rfl rfl (.kv rfl (.to (v' := vstr (sub s 23 31)) (.strMid (i := 23) (j := 31) rfl rfl rfl Tryz.underlying9 (by omega)) rfl) (.m rfl (by kernel_rfl) (.c Tryz.func168 [_] (rsmall_spec (sub s 23 31) (by omega))) (by repeat' constructor) ?_))
  rw [hz4]
  refine D.kv rfl (.build (us := [(0, _), (1, _), (2, _), (3, _), (4, _), (5, _), (6, _)]) fl_114 ze_114 rfl rfl (by simp [isCell])) (.hh rfl (.box rfl) ?_)
  rintro v L' ⟨y, rfl, rfl⟩
  refine D.ph (.g0 (.kv rfl (.assign rfl) (.kv rfl (.assign rfl) (.pf (.ret (.rlFold (y := y) (x := x) (ω := ⟨l, l.length, m.area, m.count, m.a, m.b, false⟩) (by repeat' constructor) rfl rfl rfl (.rkFold (ρ := ρ) (by repeat' constructor) (by rw [hg]) ⟨by rw [hL], by rw [hL]⟩ ⟨rfl, rfl⟩ ⟨rfl, rfl⟩ hrok ?_)))))))
  exact .dn rfl rfl (.inr ⟨_, by rw [openZ_some hbest]; unfold openB; rw [hpart], _, rfl, rfl⟩)
 refine D.ph (.g0 (.mv rfl rfl (.kv rfl (.extract rfl rfl) (.kv rfl (.extract rfl rfl) (.kv rfl (.assign rfl) (.kv rfl (.assign rfl) (.pf (.seq (.sm rfl (.u (.not rfl) (.nt (.condT rfl (.sr (.a rfl (.an rfl (.rt (.rkFold (ρ := ρ) (by repeat' constructor) (by rw [hg]) ⟨by rw [hL], by rw [hL]⟩ ⟨rfl, rfl⟩ ⟨rfl, rfl⟩ hrok ?_)))))))))))))))))
 exact .dn rfl rfl (.inl ⟨by rw [openZ_some hbest]; unfold openB; rw [hpart], rfl, rfl⟩)
def dsR (x : Nat) (δ : Dk) : HP := fun h => ∃ ρ : Rk, (Rel δ ρ ∧ 0 ≤ ρ.N) ∧ sep [rkR x ρ] h
section
variable {P : Program} {W : World} {n : Nat} {ds : List Deferred} {E : Env} {L R : List HP} {X : Act → World → Prop}
theorem G.dsOpen {x : Nat} {δ : Dk} (hL : Pick (dsR x δ) L R) (h : ∀ ρ, Rel δ ρ → 0 ≤ ρ.N → G W n ds E (rkR x ρ :: R) X) : G W n ds E L X :=
 G.focus hL (G.open (q := fun ρ : Rk => [rkR x ρ]) (φ := fun ρ => Rel δ ρ ∧ 0 ≤ ρ.N) (fun _ hp => hp) fun ρ hr => h ρ hr.1 hr.2)
theorem G.dsFold {x : Nat} {δ : Dk} {ρ : Rk} (hL : Picks [rkR x ρ] L R) (hr : Rel δ ρ) (hn : 0 ≤ ρ.N) (h : G W n ds E (dsR x δ :: R) X) : G W n ds E L X :=
 G.fold hL (fun _ hp => ⟨ρ, ⟨hr, hn⟩, hp⟩) h
theorem Fn.dsUp {f : FuncId} {args : Array Value} {x : Nat} {δ δ' : Dk} {u : Value} (h : ∀ ρ, Rel δ ρ → 0 ≤ ρ.N → Fn P f args [rkR x ρ] fun v L => ∃ ρ', (Rel δ' ρ' ∧ 0 ≤ ρ'.N) ∧ v = u ∧ L = [rkR x ρ']) :
  Fn P f args [dsR x δ] fun v L => v = u ∧ L = [dsR x δ'] := by
 intro F w hs
 obtain ⟨h1, h2, hd, a1, a2, ⟨ρ, ⟨hr, hn⟩, hp⟩, hF⟩ := hs
 have hs' : St ([rkR x ρ] ++ F) w := sep_flat ⟨h1, h2, hd, a1, a2, hp, hF⟩
 refine (h ρ hr hn F w hs').mono ?_
 rintro e w' ⟨v, L, ⟨ρ', h3, rfl, rfl⟩, he, hs2, hk⟩
 refine ⟨_, _, ⟨rfl, rfl⟩, he, sep_imp (fun hh hq => ⟨ρ', h3, hh, fun _ => none, fun _ => .inr rfl, fun _ _ e => e, fun _ _ e => (by cases e), hq, trivial⟩) hs2, hk⟩
end
theorem rk_write_N (ρ : Rk) (n : Int) (s : Bs) (h : 0 ≤ ρ.N) : 0 ≤ (ρ.write n s).1.N := by
 unfold Rk.write
 split
 ·exact h
 ·split
  ·exact h
  ·show 0 ≤ ρ.N + 1; omega
theorem rk_sync_N (ρ : Rk) (h : 0 ≤ ρ.N) : 0 ≤ ρ.sync.1.N := by
 unfold Rk.sync
 split
 ·exact h
 ·split
  ·show 0 ≤ ρ.N + 1; omega
  ·show 0 ≤ ρ.N + 1; omega
theorem dswrite_spec (x : Nat) (δ : Dk) (n : Int) (s : Bs) (hA : δ.acts < 4611686018427387904) : Fn Tryz.prog 59 #[vptr x, vint n, vstr s] [dsR x δ] fun v L => v = vint (δ.write n s).2 ∧ L = [dsR x (δ.write n s).1] :=
 Fn.dsUp fun ρ hr hn => (rwrite_spec x ρ n s ⟨hn, by rw [← hr.acts]; exact hA⟩).mono fun v L ⟨h1, h2⟩ => by
  obtain ⟨q1, q2⟩ := hr.write (by rw [← hr.acts]; exact hA) n s
  exact ⟨_, ⟨q2, rk_write_N ρ n s hn⟩, by rw [h1, q1], h2⟩
theorem dssync_spec (x : Nat) (δ : Dk) (hA : δ.acts < 4611686018427387904) : Fn Tryz.prog 61 #[vptr x] [dsR x δ] fun v L => v = vint δ.sync.2 ∧ L = [dsR x δ.sync.1] :=
 Fn.dsUp fun ρ hr hn => (rsync_spec x ρ ⟨hn, by rw [← hr.acts]; exact hA⟩).mono fun v L ⟨h1, h2⟩ => by
  obtain ⟨q1, q2⟩ := hr.sync (by rw [← hr.acts]; exact hA)
  exact ⟨_, ⟨q2, rk_sync_N ρ hn⟩, by rw [h1, q1], h2⟩
abbrev lc (y x : Nat) (vr : Value) (sy ar ct a b : Int) (db : Bool) : HP := ptc y [vptr x, vr, vint sy, vint ar, vint ct, vint a, vint b, .bool db] 114
theorem laySec_eq (all : Bs) (i : Nat) (h : i * 64 < all.length) : ((all.take (min ((i + 1) * 64) all.length)).drop (i * 64)) ++ List.replicate (64 - ((all.take (min ((i + 1) * 64) all.length)).drop (i * 64)).length) 0 = laySec all i := by
 unfold laySec
 have e : (all.take (min ((i + 1) * 64) all.length)).drop (i * 64) = (all.drop (i * 64)).take 64 := by
  rw [List.drop_take]
  rcases Nat.le_total ((i + 1) * 64) all.length with g | g
  ·rw [Nat.min_eq_left g, show (i + 1) * 64 - i * 64 = 64 by omega]
  ·rw [Nat.min_eq_right g, List.take_of_length_le (by rw [List.length_drop]; exact Nat.le_refl _), List.take_of_length_le (by rw [List.length_drop]; omega)]
 rw [e]
 try rfl
theorem rall_spec (va : Value) (l : List Bs) (p : HP) (hp : ∀ h : Hp, p h → rdS 1 h va l.length (strs l)) (hll : (laidZ l).length ≤ 2100000000) : Fn Tryz.prog 67 #[va] [p] fun v L => v = vstr (laidZ l) ∧ L = [p] := by
 refine Fn.intro Tryz.func67 rfl rfl fun F W => ?_
 have hlm := laidZ_many l
 refine .rdAny (p := p) hp (by repeat' constructor) fun aa ca e _ => ?_
 subst e
 refine .sr (.an rfl (.sr (.an rfl (.seq (.sr (.an rfl (.block (.loopK (ι := Nat) (fun q E => (4, vint q) :: (3, vstr (laidZ (l.take q))) :: E) (fun q => []) (fun q => q ≤ l.length) (fun q => l.length - q) (0) (ts := [0, 2]) (.cons rfl (.cons rfl (.nil))) (Nat.zero_le _) ⟨rfl, rfl, rfl, rfl, trivial⟩ (by repeat' constructor) ?_))))))))
 rintro i hi
 refine .seq (.sm rfl (.m rfl (.q (.slen rfl Tryz.underlying46 rfl) rfl (.ui rfl rfl rfl (.nt (.condD rfl (fun h8 => ?_) (fun h8 => ?_)))))))
 ·have hi2 : i < l.length := by omega
  refine .rdShape (p := p) hp (by repeat' constructor) (by omega) fun ba oa e => ?_
  subst e
  have hts := laidZ_take_len l (i + 1)
  have hsu := laidZ_succ hi2
  have hsl : (laidZ (l.take (i + 1))).length = (laidZ (l.take i)).length + l[i].length + 6 := by rw [hsu, List.length_append, recZ_len]; omega
  refine .sk (.seq (.block (.region (.m rfl (.m rfl (.m rfl (.q (.indexAddr rfl rfl el_46 (by omega)) rfl (.q (.loadRd (sz := 1) (j := i) (p := p) (v := vstr l[i]) rfl ag_9 (by repeat' constructor) hp (by simp) (by simp [hi2])) rfl (.cv Tryz.func123 [_] (rrecord_spec l[i] (by omega)) ?_)))))))))
  refine .q (.as (v' := vstr (laidZ (l.take (i + 1)))) (by rw [hsu]) (.concat rfl rfl (by rw [recZ_len]; omega))) rfl (.a rfl (.nil (.blk_n (.then_n (.region (.m rfl (.q (.add rfl rfl (by omega)) rfl (.an rfl ?_))))))))
  exact .rk (i + 1) (by omega) (by omega) ⟨rfl, rfl, rfl, rfl, trivial⟩
 refine .exit (.then_e (.then_e (.blk_e (.then_n (.sm rfl (.an rfl (.ret ?_)))))))
 exact .dn rfl rfl ⟨by have hi3 : i = l.length := (by omega); rw [hi3, List.take_length], rfl⟩
theorem rmark4_spec (c ar a b : Int) (va : Value) (l : List Bs) (p : HP) (hp : ∀ h : Hp, p h → rdS 1 h va l.length (strs l)) (hll : (laidZ l).length ≤ 2100000000) (hc : 0 ≤ c ∧ c ≤ 4294967296) (har : 0 ≤ ar ∧ ar ≤ 1) (ha : 0 ≤ a ∧ a ≤ 9223372036854775807) (hb : 0 ≤ b ∧ b ≤ 9223372036854775807) : Fn Tryz.prog 60 #[vint c, vint ar, va, vint a, vint b] [p] fun v L => v = vstr (⟨c, ar, (laidZ l).length, l.length, a, b⟩ : Mk).sec ∧ L = [p] := by
 refine Fn.intro Tryz.func60 rfl rfl fun F W => ?_
 have hlm := laidZ_many l
 have e4 := beB_len 4
 have e1 := beB_len 1
 have e8 := beB_len 8
 refine .rdAny (p := p) hp (by repeat' constructor) fun aa ca e _ => ?_
 subst e
 refine .sr (.an rfl (.sm rfl (.cv Tryz.func122 [_, _] (rbig_spec c 4 (by omega) (by decide)) ?_)))
 refine .q (.concat rfl rfl (by simp only [List.length_append, beB_len, List.length_cons, List.length_nil]; omega)) rfl (.m rfl (.cv Tryz.func122 [_, _] (rbig_spec ar 1 (by omega) (by decide)) ?_))
 refine .q (.concat rfl rfl (by simp only [List.length_append, beB_len, List.length_cons, List.length_nil]; omega)) rfl (.m rfl (.cv Tryz.func65 [_] (rsize_spec _ l p hp (by omega)) ?_))
 refine .cv Tryz.func122 [_, _] (rbig_spec ((laidZ l).length : Nat) 4 (by omega) (by decide)) ?_
 refine .q (.concat rfl rfl (by simp only [List.length_append, beB_len, List.length_cons, List.length_nil]; omega)) rfl (.m rfl (.q (.slen rfl Tryz.underlying46 rfl) rfl (.cv Tryz.func122 [_, _] (rbig_spec (l.length : Nat) 4 (by omega) (by decide)) ?_)))
 refine .q (.concat rfl rfl (by simp only [List.length_append, beB_len, List.length_cons, List.length_nil]; omega)) rfl (.m rfl (.cv Tryz.func122 [_, _] (rbig_spec a 8 (by omega) (by decide)) ?_))
 refine .q (.concat rfl rfl (by simp only [List.length_append, beB_len, List.length_cons, List.length_nil]; omega)) rfl (.m rfl (.cv Tryz.func122 [_, _] (rbig_spec b 8 (by omega) (by decide)) ?_))
 refine .q (.concat rfl rfl (by simp only [List.length_append, beB_len, List.length_cons, List.length_nil]; omega)) rfl (.an rfl (.seq (.draw [1] [[0, 4, 5, 1, 2, 3], [6, 7]] mixed (by kernel_rfl) (.g0 (.k rfl (.move rfl) (.k rfl (.move rfl) (.m rfl (by kernel_rfl) (.c Tryz.func122 [_, _] (rbig_spec c 4 (by omega) (by decide))) (by repeat' constructor) ?_)))))))
 refine D.hh rfl (.make rfl rfl el_125 ze_5 rfl ⟨by simp, by simp; rfl⟩ ?c32) ?_
 case c32 => omega
 rintro v L' ⟨bz, rfl, rfl⟩
 refine D.kv rfl (.bytesPt (cs := List.replicate 29 0) rfl Tryz.underlying125 Tryz.underlying5 Tryz.underlying9 (by repeat' constructor) (by first | (simp [List.map_replicate]; done) | (simp [List.map_replicate]; rfl)) (by simp) (by decide)) (.kv rfl (.concat rfl rfl (by simp only [List.length_append, beB_len, List.length_cons, List.length_nil, List.length_replicate]; omega)) (.ph (.g0 (.kv rfl (.concat rfl rfl (by simp only [List.length_append, beB_len, List.length_cons, List.length_nil, List.length_replicate]; omega)) (.kv rfl (.assign rfl) (.pf (.ret ?_)))))))
 exact .vv
theorem rdead_spec (y x : Nat) (vr : Value) (sy ar ct a b : Int) (db : Bool) : Fn Tryz.prog 63 #[vptr y] [lc y x vr sy ar ct a b db] fun v L => v = vint 2 ∧ L = [lc y x vr sy ar ct a b true] := by
 refine Fn.intro Tryz.func63 rfl rfl fun F W => ?_
 refine .sr (.an rfl (.sm rfl (.nf rfl fo_114_7 (.st rfl rfl rfl sz_4 ?_))))
 refine .nt (.sr (.an rfl (.ret ?_)))
 exact .vv
theorem dshalf_spec (x : Nat) (δ : Dk) (hn : 2 ≤ δ.now.length ∧ δ.now.length ≤ 32768) : Fn Tryz.prog 64 #[vptr x] [dsR x δ] fun v L => v = vint (halfZ δ) ∧ L = [dsR x δ] := by
 refine Fn.intro Tryz.func64 rfl rfl fun F W => ?_
 refine .dsOpen (by repeat' constructor) fun ρ hr hN => (.rkOpen (by repeat' constructor) fun vL vO vP hok => (.slAny (v := vL) (by repeat' constructor) fun aL cL e _ => ?_))
 subst e
 have hL := hr.L
 have hLl : ρ.L.length = δ.now.length := by rw [hL]
 refine .sr (.an rfl (.sm rfl (.nf rfl fo_58_0 (.u (.ld rfl ag_46) (.q (.slen rfl Tryz.underlying46 rfl) rfl (.q (.sub rfl rfl (by omega)) rfl (.q (.quoE rfl rfl (by omega) (by decide)) rfl (.an rfl (.ret (.rkFold (ρ := ρ) (by repeat' constructor) rfl ⟨rfl, rfl⟩ ⟨rfl, rfl⟩ ⟨rfl, rfl⟩ hok (.dsFold (δ := δ) (by repeat' constructor) hr hN ?_)))))))))))
 exact .dn rfl rfl ⟨by unfold halfZ; rw [← hLl], rfl⟩
theorem lay_go {f : Nat} {δ : Dk} {area : Int} {all : Bs} {i : Nat} (h : i * 64 < all.length) : layF (f + 1) δ area all i = if (δ.write (2 + area * halfZ δ + i) (laySec all i)).2 ≠ 0 then ((δ.write (2 + area * halfZ δ + i) (laySec all i)).1, 2) else layF f (δ.write (2 + area * halfZ δ + i) (laySec all i)).1 area all (i + 1) := by
 show (if i * 64 < all.length then _ else _) = _
 rw [if_pos h]
theorem area_mul {area h : Int} (ha : 0 ≤ area ∧ area ≤ 1) (hh : 0 ≤ h ∧ h ≤ 16383) : 0 ≤ area * h ∧ area * h ≤ 16383 := by
 rcases (show area = 0 ∨ area = 1 by omega) with rfl | rfl
 ·omega
 ·omega
theorem rlays_spec (x : Nat) (area : Int) (s : Bs) (frm : Nat) (δ : Dk) (hn0 : 2 ≤ δ.now.length ∧ δ.now.length ≤ 32768) (har : 0 ≤ area ∧ area ≤ 1) (hs : s.length ≤ 4000000) (hf : frm ≤ 4000000) (hA : δ.acts + 9000000 < 4611686018427387904) : Fn Tryz.prog 66 #[vptr x, vint area, vstr s, vint frm] [dsR x δ] fun v L => ∃ e, (e = 0 ↔ (layZ δ area s frm).2 = 0) ∧ v = vint e ∧ L = [dsR x (layZ δ area s frm).1] := by
 refine Fn.intro Tryz.func66 rfl rfl fun F W => ?_
 refine .sr (.an rfl (.seq (.sm rfl (.q (.to (v' := vint ((frm / 64 : Nat) : Int)) (.quoE rfl rfl (by omega) (by decide)) (by rfl)) rfl (.an rfl (.block (.loopK (ι := Nat × Nat × Dk) (fun q E => (9, vint q.1) :: E) (fun q => [dsR x q.2.2]) (fun q => layF q.2.1 q.2.2 area s q.1 = layZ δ area s frm ∧ s.length + 1 ≤ q.2.1 + q.1 ∧ q.1 ≤ 4000001 + frm ∧ q.2.2.now.length = δ.now.length ∧ q.2.2.acts ≤ δ.acts + q.1) (fun q => s.length - q.1) (frm / 64, s.length + 1, δ) (ts := [0, 1, 2]) (.cons rfl (.cons rfl (.cons rfl (.nil)))) (⟨rfl, by dsimp only; omega, by dsimp only; omega, rfl, by dsimp only; omega⟩) ⟨rfl, rfl, rfl, rfl, trivial⟩ (by repeat' constructor) ?_)))))))
 rintro ⟨i, f, σ⟩ ⟨hl, hfu, hib, hnl, hac⟩
 dsimp only
 dsimp only at hl hfu hib hnl hac
 refine .seq (.sm rfl (.q (.as (v' := vint ((i * 64 : Nat) : Int)) (by first | rfl | (congr 1; omega)) (.mul rfl rfl (by omega))) rfl (.m rfl (.q (.strlen rfl Tryz.underlying9 rfl) rfl (.ui rfl rfl rfl (.nt (.condD rfl (fun h18 => ?_) (fun h18 => ?_))))))))
 ·obtain ⟨f', rfl⟩ : ∃ f', f = f' + 1 := ⟨f - 1, by omega⟩
  have hn : 2 ≤ σ.now.length ∧ σ.now.length ≤ 32768 := by omega
  have hhl := half_le hn
  have ham := area_mul har hhl
  refine .sk (.seq (.block (.sm rfl (.m rfl (.q (.as (v' := vint ((i * 64 : Nat) : Int)) (by first | rfl | (congr 1; omega)) (.mul rfl rfl (by omega))) rfl (.m rfl (.q (.add rfl rfl (by omega)) rfl (.q (.mul rfl rfl (by omega)) rfl (.m rfl (.q (.strlen rfl Tryz.underlying9 rfl) rfl (.q (.as (v' := vint ((min ((i + 1) * 64) s.length : Nat) : Int)) (by first | rfl | (congr 1; omega)) (.min2 rfl rfl)) rfl (.q (.to (v' := vstr ((s.take (min ((i + 1) * 64) s.length)).drop (i * 64))) (.strMid rfl rfl rfl Tryz.underlying9 (by omega)) (by rfl)) rfl (.an rfl (.seq ?_))))))))))))))
  have hlay := laySec_eq s i (by omega)
  obtain ⟨t, ht⟩ : ∃ t, (s.take (min ((i + 1) * 64) s.length)).drop (i * 64) = t := ⟨_, rfl⟩
  rw [ht] at hlay ⊢
  have htl : t.length ≤ 64 := by rw [← ht, List.length_drop, List.length_take]; omega
  refine .region (.m rfl (.m rfl (.q (.strlen rfl Tryz.underlying9 rfl) rfl (.q (.as (v' := vint ((64 - t.length : Nat) : Int)) (by first | rfl | (congr 1; omega)) (.sub rfl rfl (by omega))) rfl (.oq (.make rfl rfl el_125 ze_5 rfl ⟨by simp, by simp; rfl⟩ ?c21) ?_)))))
  case c21 => omega
  rintro v L' ⟨bz, rfl, rfl⟩
  refine .q (.bytesPt (cs := List.replicate (64 - t.length) 0) rfl Tryz.underlying125 Tryz.underlying5 Tryz.underlying9 (by repeat' constructor) (by first | (simp [List.map_replicate]; done) | (simp [List.map_replicate]; rfl)) (by simp) (by omega)) rfl (.q (.as (v' := vstr (laySec s i)) (by exact congrArg vstr hlay) (.concat rfl rfl (by rw [List.length_replicate]; omega))) rfl (.an rfl (.sm rfl (.m rfl (.m rfl (.cv Tryz.func64 [_] (dshalf_spec x σ hn) ?_))))))
  refine .q (.mul rfl rfl (by omega)) rfl (.q (.add rfl rfl (by omega)) rfl (.m rfl (.q (.add rfl rfl (by omega)) rfl (.m rfl (.cv Tryz.func59 [_, _, _] (dswrite_spec x σ (2 + area * halfZ σ + i) (laySec s i) (by omega)) ?_)))))
  refine .an rfl (.sm rfl (.ui rfl rfl rfl (.nt (.condN rfl (fun h49 => ?_) (fun h49 => ?_)))))
  ·refine .sm rfl (.an rfl (.ret (.blk_r (.then_r (.then_r (.blk_r (.then_r ?_)))))))
   exact .dn rfl rfl ⟨_, by rw [← hl, lay_go (by omega), if_pos h49]; exact ⟨fun g => absurd g h49, fun g => absurd g (by show ¬ (2 : Int) = 0; decide)⟩, rfl, by rw [← hl, lay_go (by omega), if_pos h49]⟩
  refine .skip (.blk_n (.then_n (.region (.m rfl (.q (.add rfl rfl (by omega)) rfl (.an rfl ?_))))))
  have hwk := write_keeps σ (2 + area * halfZ σ + i) (laySec s i)
  exact .rk ((i + 1, f', (σ.write (2 + area * halfZ σ + i) (laySec s i)).1)) (⟨by dsimp only; rw [← hl, lay_go (by omega), if_neg (by simpa using h49)], by dsimp only; omega, by dsimp only; omega, by dsimp only; omega, by dsimp only; omega⟩) (by dsimp only; omega) ⟨rfl, rfl, rfl, rfl, trivial⟩
 refine .exit (.then_e (.then_e (.blk_e (.then_n (.sr (.an rfl (.ret ?_)))))))
 have hend := layF_end (f := f) (δ := σ) (area := area) (all := s) (i := i) (by omega)
 rw [hl] at hend
 exact .dn rfl rfl ⟨0, by rw [hend], rfl, by rw [hend]⟩
theorem rputs_spec (y x : Nat) (vr : Value) (sy ar ct a b : Int) (db : Bool) (area a2 b2 : Int) (va : Value) (l : List Bs) (δ : Dk) (p : HP) (hp : ∀ h : Hp, p h → rdS 1 h va l.length (strs l)) (hll : (laidZ l).length ≤ 2100000000) (hc : 0 ≤ ct ∧ ct < 4294967295) (har : 0 ≤ area ∧ area ≤ 1) (ha : 0 ≤ a2 ∧ a2 ≤ 9223372036854775807) (hb : 0 ≤ b2 ∧ b2 ≤ 9223372036854775807) (hA : δ.acts < 4611686018427387904) : Fn Tryz.prog 62 #[vptr y, vint area, va, vint a2, vint b2] [lc y x vr sy ar ct a b db, dsR x δ, p] fun v L => v = vint (δ.write ((⟨ct + 1, area, (laidZ l).length, l.length, a2, b2⟩ : Mk).count % 2) (⟨ct + 1, area, (laidZ l).length, l.length, a2, b2⟩ : Mk).sec).2 ∧ L = [lc y x vr sy ar ct a b db, dsR x (δ.write ((⟨ct + 1, area, (laidZ l).length, l.length, a2, b2⟩ : Mk).count % 2) (⟨ct + 1, area, (laidZ l).length, l.length, a2, b2⟩ : Mk).sec).1, p] := by
 refine Fn.intro Tryz.func62 rfl rfl fun F W => ?_
 refine .sr (.an rfl (.sm rfl (.nf rfl fo_114_4 (.u (.ld rfl ag_3) (.q (.add rfl rfl (by omega)) rfl (.an rfl (.seq (.draw [12] [[0, 1, 2, 3, 4, 5, 6, 7, 8, 9, 10, 11, 12], [13]] mixed (by kernel_rfl) (.go [lc y x vr sy ar ct a b db, p] (by repeat' constructor) (.mv rfl rfl (.nf rfl rfl rfl fo_114_0 (.kv rfl (.ld rfl ag_47) (.mv rfl rfl (.kv rfl (.remE rfl rfl (by omega) (by decide)) (.mv rfl rfl (.mv rfl rfl (.mv rfl rfl (.mv rfl rfl (.mv rfl rfl (.m rfl (by kernel_rfl) (.c Tryz.func60 [_, _, _, _, _] (rmark4_spec (ct + 1) area a2 b2 va l p hp hll (by omega) har ha hb)) (by repeat' constructor) ?_))))))))))))))))))))
 refine D.hh rfl (.c Tryz.func59 [_, _, _] (dswrite_spec x δ ((ct + 1) % 2) (⟨ct + 1, area, (laidZ l).length, l.length, a2, b2⟩ : Mk).sec hA)) ?_
 rintro v L' ⟨rfl, rfl⟩
 refine D.ph (.g0 (.kv rfl (.assign rfl) (.pf (.ret ?_))))
 exact .vv
theorem seal_s1 {δ : Dk} {ω : Wl} {area : Int} {l : List Bs} (h : ¬ δ.sync.2 = 0) : sealZ δ ω area l = (δ.sync.1, ω, 2) := by unfold sealZ; rw [if_pos h]
theorem seal_s2 {δ : Dk} {ω : Wl} {area : Int} {l : List Bs} (h : δ.sync.2 = 0) (h2 : ¬ (δ.sync.1.write ((ω.mark area l ω.a ω.b).count % 2) (ω.mark area l ω.a ω.b).sec).2 = 0) : sealZ δ ω area l = ((δ.sync.1.write ((ω.mark area l ω.a ω.b).count % 2) (ω.mark area l ω.a ω.b).sec).1, ω, 2) := by
 have e : nextZ δ.sync.1 (ω.mark area l ω.a ω.b) = ((δ.sync.1.write ((ω.mark area l ω.a ω.b).count % 2) (ω.mark area l ω.a ω.b).sec).1, 2) := by unfold nextZ; rw [if_pos h2]
 unfold sealZ; rw [if_neg (fun g => g h), e, if_pos (by show ¬ (2 : Int) = 0; decide)]
theorem seal_s3 {δ : Dk} {ω : Wl} {area : Int} {l : List Bs} (h : δ.sync.2 = 0) (h2 : (δ.sync.1.write ((ω.mark area l ω.a ω.b).count % 2) (ω.mark area l ω.a ω.b).sec).2 = 0) (h3 : ¬ (δ.sync.1.write ((ω.mark area l ω.a ω.b).count % 2) (ω.mark area l ω.a ω.b).sec).1.sync.2 = 0) : sealZ δ ω area l = ((δ.sync.1.write ((ω.mark area l ω.a ω.b).count % 2) (ω.mark area l ω.a ω.b).sec).1.sync.1, ω, 2) := by
 have e : nextZ δ.sync.1 (ω.mark area l ω.a ω.b) = ((δ.sync.1.write ((ω.mark area l ω.a ω.b).count % 2) (ω.mark area l ω.a ω.b).sec).1.sync.1, 2) := by unfold nextZ; rw [if_neg (fun g => g h2), if_pos h3]
 unfold sealZ; rw [if_neg (fun g => g h), e, if_pos (by show ¬ (2 : Int) = 0; decide)]
theorem seal_s4 {δ : Dk} {ω : Wl} {area : Int} {l : List Bs} (h : δ.sync.2 = 0) (h2 : (δ.sync.1.write ((ω.mark area l ω.a ω.b).count % 2) (ω.mark area l ω.a ω.b).sec).2 = 0) (h3 : (δ.sync.1.write ((ω.mark area l ω.a ω.b).count % 2) (ω.mark area l ω.a ω.b).sec).1.sync.2 = 0) : sealZ δ ω area l = ((δ.sync.1.write ((ω.mark area l ω.a ω.b).count % 2) (ω.mark area l ω.a ω.b).sec).1.sync.1, { ω with recs := l, synced := l.length, area := area, count := ω.count + 1 }, 0) := by
 have e : nextZ δ.sync.1 (ω.mark area l ω.a ω.b) = ((δ.sync.1.write ((ω.mark area l ω.a ω.b).count % 2) (ω.mark area l ω.a ω.b).sec).1.sync.1, 0) := by unfold nextZ; rw [if_neg (fun g => g h2), if_neg (fun g => g h3)]
 unfold sealZ; rw [if_neg (fun g => g h), e, if_neg (fun g => g rfl)]
theorem rseals_spec (y x : Nat) (vr : Value) (ω : Wl) (area : Int) (va : Value) (l : List Bs) (δ : Dk) (p : HP) (hp : ∀ h : Hp, p h → rdS 1 h va l.length (strs l)) (hll : (laidZ l).length ≤ 2100000000) (hc : 0 ≤ ω.count ∧ ω.count < 4294967295) (har : 0 ≤ area ∧ area ≤ 1) (ha : 0 ≤ ω.a ∧ ω.a ≤ 9223372036854775807) (hb : 0 ≤ ω.b ∧ ω.b ≤ 9223372036854775807) (hA : δ.acts + 10 < 4611686018427387904) : Fn Tryz.prog 68 #[vptr y, vint area, va] [lc y x (vr) (ω.synced) (ω.area) (ω.count) (ω.a) (ω.b) (ω.doubt), dsR x δ, p] fun v L => ((sealZ δ ω area l).2.2 = 2 ∧ v = vint 2 ∧ L = [lc y x (vr) (ω.synced) (ω.area) (ω.count) (ω.a) (ω.b) (true), dsR x (sealZ δ ω area l).1, p]) ∨ ((sealZ δ ω area l).2.2 = 0 ∧ v = vint 0 ∧ ∃ a9 c9, L = [lc y x (.slice a9 l.length c9) ((l.length : Nat)) (area) (ω.count + 1) (ω.a) (ω.b) (ω.doubt), dsR x (sealZ δ ω area l).1, p, strR (.slice a9 l.length c9) l]) := by
 refine Fn.intro Tryz.func68 rfl rfl fun F W => ?_
 have hlm := laidZ_many l
 have hk1 := sync_keeps δ
 have hk2 := write_keeps δ.sync.1 ((ω.mark area l ω.a ω.b).count % 2) (ω.mark area l ω.a ω.b).sec
 refine .rdAny (p := p) hp (by repeat' constructor) fun aa ca e _ => ?_
 subst e
 refine .sr (.an rfl (.seq (.seq (.draw [4, 18, 26] [[0, 1, 2, 3, 4], [5, 6, 7, 8, 9, 10, 11, 12, 13, 14, 15, 16, 17, 18], [19, 20, 21, 22, 23, 24, 25, 26], [27, 28]] mixed (by kernel_rfl) (.g0 (.mv rfl rfl (.nf rfl rfl rfl fo_114_0 (.kv rfl (.ld rfl ag_47) (.hh rfl (.c Tryz.func61 [_] (dssync_spec x δ (by omega))) ?_)))))))))
 rintro v L' ⟨rfl, rfl⟩
 refine D.ph (.g0 (.kv rfl (.int rfl rfl rfl) (.mv rfl rfl (.ndec (t := 13) rfl (fun h1_13 => ?_) (fun h1_13 => ?_)))))
 ·refine D.kNT (t := 12) rfl h1_13 (.gz rfl (.gz rfl (.gz rfl (.gz rfl (.gz rfl (.gz rfl (.gz rfl (.gz rfl (.gz rfl (.gz rfl (.gz rfl (.gz rfl (.ph (.g0 (.gz rfl (.kv rfl (.pickT rfl rfl) (.mv rfl rfl (.gz rfl (.gz rfl (.gz rfl (.gz rfl (.gz rfl (.ph (.g0 (.gz rfl (.kv rfl (.pickT rfl rfl) (.pf (.condT rfl (.sm rfl (.cv Tryz.func63 [_] (rdead_spec y x vr ω.synced ω.area ω.count ω.a ω.b ω.doubt) ?_))))))))))))))))))))))))))))))
  refine .an rfl (.rt ?_)
  have hr := seal_s1 (ω := ω) (area := area) (l := l) h1_13
  rw [hr]
  exact .dn rfl rfl (.inl ⟨rfl, rfl, rfl⟩)
 refine D.kNF (t := 12) rfl h1_13 (.gv rfl (.move rfl) (.gv rfl (.move rfl) (.gv rfl (.move rfl) (.gv rfl (.move rfl) (.gv rfl (.nilp rfl) (.gv rfl (.fieldAddr rfl fo_114_5) (.gv rfl (.ld rfl ag_3) (.gv rfl (.move rfl) (.gv rfl (.nilp rfl) (.gv rfl (.fieldAddr rfl fo_114_6) (.gv rfl (.ld rfl ag_3) (.gh (t := 13) rfl rfl rfl (by kernel_rfl) (.c Tryz.func62 [_, _, _, _, _] (rputs_spec y x vr ω.synced ω.area ω.count ω.a ω.b ω.doubt area ω.a ω.b _ l δ.sync.1 p hp hll hc har ha hb (by omega))) (by repeat' constructor) ?_))))))))))))
 rintro v L' ⟨rfl, rfl⟩
 refine D.ph (.g0 (.gv rfl (.int rfl rfl rfl) (.kv rfl (.pickF rfl rfl) (.mv rfl rfl (.ndec (t := 28) rfl (fun h1_28 => ?_) (fun h1_28 => ?_))))))
 ·refine D.kNT (t := 26) rfl h1_28 (.kNT (t := 27) rfl h1_28 (.gz rfl (.gz rfl (.gz rfl (.gz rfl (.gz rfl (.ph (.g0 (.gz rfl (.kv rfl (.pickT rfl rfl) (.pf (.condT rfl (.sm rfl (.cv Tryz.func63 [_] (rdead_spec y x vr ω.synced ω.area ω.count ω.a ω.b ω.doubt) ?_))))))))))))))
  refine .an rfl (.rt ?_)
  have hr := seal_s2 (area := area) (l := l) (ω := ω) h1_13 h1_28
  rw [hr]
  exact .dn rfl rfl (.inl ⟨rfl, rfl, rfl⟩)
 refine D.kNF (t := 26) rfl h1_28 (.kNF (t := 27) rfl h1_28 (.gv rfl (.move rfl) (.gv rfl (.nilp rfl) (.gv rfl (.fieldAddr rfl fo_114_0) (.gv rfl (.ld rfl ag_47) (.gh (t := 28) rfl rfl rfl (by kernel_rfl) (.c Tryz.func61 [_] (dssync_spec x (δ.sync.1.write ((ω.mark area l ω.a ω.b).count % 2) (ω.mark area l ω.a ω.b).sec).1 (by omega))) (by repeat' constructor) ?_))))))
 rintro v L' ⟨rfl, rfl⟩
 refine D.ph (.g0 (.gv rfl (.int rfl rfl rfl) (.kv rfl (.pickF rfl rfl) (.pf (.condN rfl (fun h35 => ?_) (fun h35 => ?_))))))
 ·refine .sm rfl (.cv Tryz.func63 [_] (rdead_spec y x vr ω.synced ω.area ω.count ω.a ω.b ω.doubt) ?_)
  refine .an rfl (.rt ?_)
  have hr := seal_s3 (area := area) (l := l) (ω := ω) h1_13 h1_28 h35
  rw [hr]
  exact .dn rfl rfl (.inl ⟨rfl, rfl, rfl⟩)
 refine .sk (.sm rfl (.nf rfl fo_114_4 (.u (.ld rfl ag_3) (.q (.add rfl rfl (by omega)) rfl (.nf rfl fo_114_4 (.st rfl rfl rfl sz_3 ?_))))))
 refine .nt (.sm rfl (.m rfl (.nf rfl fo_114_3 (.st rfl rfl rfl sz_3 ?_))))
 refine .nt (.seq (.add (slR_nil 9 1) (.region (.m rfl (.m rfl (.oq (.append (n := 0) (m := l.length) (ys := strs l) (p := p) rfl rfl rfl el_46 (.inl ⟨_, Tryz.underlying46⟩) ze_9 rfl rfl ?hc61 ?hr62 ?hb63 (by decide)) ?_))))))
 case hc61 => exact strs_cell _
 case hr62 => exact hp
 case hb63 => omega
 rintro v L' ⟨⟨a8, c8, rfl⟩, rfl⟩; rw [Nat.zero_add, List.nil_append]
 refine .nf rfl fo_114_1 (.st rfl rfl rfl sz_46 ?_)
 refine .nt (.sm rfl (.m rfl (.q (.slen rfl Tryz.underlying46 rfl) rfl (.nf rfl fo_114_2 (.st rfl rfl rfl sz_3 ?_)))))
 refine .nt (.sr (.an rfl (.ret ?_)))
 have hr := seal_s4 (area := area) (l := l) (ω := ω) h1_13 h1_28 h35
 rw [hr]
 exact .dn rfl rfl (.inr ⟨rfl, rfl, a8, c8, rfl⟩)
theorem sealX_two {δ : Dk} {ω : Wl} {ar : Int} {l : List Bs} (h : (sealZ δ ω ar l).2.2 = 2) : dbt (sealZ δ ω ar l) = ((sealZ δ ω ar l).1, { ω with doubt := true }, 2) := by
 have e : (sealZ δ ω ar l).2.1 = ω := by
  unfold sealZ at h ⊢
  split
  ·rfl
  ·rename_i h1
   rw [if_neg h1] at h
   split
   ·rfl
   ·rename_i h2; rw [if_neg h2] at h; exact absurd h (by show ¬ (0 : Int) = 2; decide)
 unfold dbt
 rw [if_pos h, e, h]
theorem sealX_nil {δ : Dk} {ω : Wl} {ar : Int} {l : List Bs} (h : (sealZ δ ω ar l).2.2 = 0) : dbt (sealZ δ ω ar l) = ((sealZ δ ω ar l).1, { ω with recs := l, synced := l.length, area := ar, count := ω.count + 1 }, 0) := by
 have e : (sealZ δ ω ar l).2.1 = { ω with recs := l, synced := l.length, area := ar, count := ω.count + 1 } := by
  unfold sealZ at h ⊢
  split
  ·rename_i h1; rw [if_pos h1] at h; exact absurd h (by show ¬ (2 : Int) = 0; decide)
  ·rename_i h1
   rw [if_neg h1] at h
   split
   ·rename_i h2; rw [if_pos h2] at h; exact absurd h (by show ¬ (2 : Int) = 0; decide)
   ·rfl
 unfold dbt
 rw [if_neg (by rw [h]; decide)]
 exact Prod.ext rfl (Prod.ext e h)
theorem laidZ_six (l : List Bs) : 6 * l.length ≤ (laidZ l).length := by
 induction l with
 | nil => simp
 | cons x l ih =>
  have e : laidZ (x :: l) = recZ x ++ laidZ l := by simp [laidZ]
  rw [e, List.length_append, recZ_len, List.length_cons]; omega
theorem next_s1 {δ : Dk} {m : Mk} (h : ¬ (δ.write (m.count % 2) m.sec).2 = 0) : nextZ δ m = ((δ.write (m.count % 2) m.sec).1, 2) := by unfold nextZ; rw [if_pos h]
theorem next_s2 {δ : Dk} {m : Mk} (h : (δ.write (m.count % 2) m.sec).2 = 0) (h2 : ¬ (δ.write (m.count % 2) m.sec).1.sync.2 = 0) : nextZ δ m = ((δ.write (m.count % 2) m.sec).1.sync.1, 2) := by unfold nextZ; rw [if_neg (fun g => g h), if_pos h2]
theorem next_s3 {δ : Dk} {m : Mk} (h : (δ.write (m.count % 2) m.sec).2 = 0) (h2 : (δ.write (m.count % 2) m.sec).1.sync.2 = 0) : nextZ δ m = ((δ.write (m.count % 2) m.sec).1.sync.1, 0) := by unfold nextZ; rw [if_neg (fun g => g h), if_neg (fun g => g h2)]
theorem layX_two {δ : Dk} {ω : Wl} {ar : Int} {s : Bs} {k : Nat} (h : ¬ (layZ δ ar s k).2 = 0) : dbt ((layZ δ ar s k).1, ω, (layZ δ ar s k).2) = ((layZ δ ar s k).1, { ω with doubt := true }, 2) := by
 have e := (layZ_err δ ar s k).resolve_left h
 unfold dbt; rw [e]; rfl
theorem rappend_spec (y x : Nat) (ω : Wl) (δ : Dk) (s : Bs) (hI : WlI δ ω) (hsl : s.length ≤ 2147483648) : Fn Tryz.prog 124 #[vptr y, vstr s] [rlR y x ω, dsR x δ] fun v L => v = vint (appendZ δ ω s).2.2 ∧ L = [rlR y x (appendZ δ ω s).2.1, dsR x (appendZ δ ω s).1] := by
 refine Fn.intro Tryz.func124 rfl rfl fun F W => ?_
 refine .rlOpen (ω := ω) (by repeat' constructor) fun vr => (.slAny (v := vr) (by repeat' constructor) fun arr crr e hsl => ?_)
 subst e
 refine .slAddr (by repeat' constructor) fun hcap hra => ?_
 have hfi := hI.fits
 have hn := hI.size
 have hhl := half_le hI.size
 have hlm := laidZ_many ω.recs
 have hac := hI.acts
 have hct := hI.count
 have har := hI.area
 have hsy := hI.synced
 refine .sr (.an rfl (.seq (.sm rfl (.nf rfl fo_114_7 (.u (.ld rfl ag_4) (.nt (.condB rfl (fun h9 => ?_) (fun h9 => ?_))))))))
 ·refine .sr (.an rfl (.rt ?_))
  have hr : appendZ δ ω s = (δ, ω, 34) := by unfold appendZ; rw [if_pos h9]
  rw [hr]
  refine .rl (y := y) (x := x) (ω := ω) (v := (.slice arr ω.recs.length crr)) ?_
  exact .vv
 refine .sk (.seq (.sm rfl (.q (.strlen rfl Tryz.underlying9 rfl) rfl (.ui rfl rfl rfl (.nt (.condD rfl (fun h12 => ?_) (fun h12 => ?_)))))))
 ·refine .sr (.an rfl (.rt ?_))
  have hr : appendZ δ ω s = (δ, ω, 33) := by unfold appendZ; rw [if_neg (by rw [h9]; decide), if_pos (by omega)]
  rw [hr]
  refine .rl (y := y) (x := x) (ω := ω) (v := (.slice arr ω.recs.length crr)) ?_
  exact .vv
 refine .sk (.sm rfl (.nf rfl fo_114_1 (.u (.ld rfl ag_46) (.cv Tryz.func65 [_] (rsize_spec _ ω.recs (strR (.slice arr ω.recs.length crr) ω.recs) (fun h hp => slR_rd hp) (by omega)) ?_))))
 refine .an rfl (.seq (.sm rfl (.m rfl (.q (.strlen rfl Tryz.underlying9 rfl) rfl (.q (.add rfl rfl (by omega)) rfl (.q (.add rfl rfl (by omega)) rfl (.m rfl (.nf rfl fo_114_0 (.u (.ld rfl ag_47) (.cv Tryz.func64 [_] (dshalf_spec x δ hn) ?_))))))))))
 refine .q (.mul rfl rfl (by omega)) rfl (.ui rfl rfl rfl (.nt (.condD rfl (fun h29 => ?_) (fun h29 => ?_))))
 ·refine .sr (.an rfl (.rt ?_))
  have hr : appendZ δ ω s = (δ, ω, 30) := by unfold appendZ; rw [if_neg (by rw [h9]; decide), if_neg (by omega), if_pos (by omega)]
  rw [hr]
  refine .rl (y := y) (x := x) (ω := ω) (v := (.slice arr ω.recs.length crr)) ?_
  exact .vv
 have hrl : (laidZ ω.recs ++ recZ s).length = (laidZ ω.recs).length + s.length + 6 := by rw [List.length_append, recZ_len]; omega
 refine .sk (.seq (.seq (.draw [17] [[0, 1, 2, 3, 4, 5, 6, 7, 8, 9, 10, 11, 12, 13, 14, 15, 16, 17], [18]] mixed (by kernel_rfl) (.go [lc y x ((.slice arr ω.recs.length crr)) (ω.synced) (ω.area) (ω.count) (ω.a) (ω.b) (ω.doubt), strR (.slice arr ω.recs.length crr) ω.recs] (by repeat' constructor) (.mv rfl rfl (.nf rfl rfl rfl fo_114_0 (.kv rfl (.ld rfl ag_47) (.mv rfl rfl (.nf rfl rfl rfl fo_114_3 (.kv rfl (.ld rfl ag_3) (.mv rfl rfl (.nf rfl rfl rfl fo_114_1 (.kv rfl (.ld rfl ag_46) (.m rfl (by kernel_rfl) (.c Tryz.func67 [_] (rall_spec _ ω.recs (strR (.slice arr ω.recs.length crr) ω.recs) (fun h hp => slR_rd hp) (by omega))) (by repeat' constructor) ?_))))))))))))))
 refine D.mv rfl rfl (.m rfl (by kernel_rfl) (.c Tryz.func123 [_] (rrecord_spec s (by omega))) (by repeat' constructor) ?_)
 refine D.kv rfl (.concat rfl rfl (by rw [recZ_len]; omega)) (.mv rfl rfl (.hh rfl (.c Tryz.func66 [_, _, _, _] (rlays_spec x ω.area (laidZ ω.recs ++ recZ s) (laidZ ω.recs).length δ hn har (by omega) (by omega) (by omega))) ?_))
 rintro v L' ⟨e1, he1, rfl, rfl⟩
 refine D.ph (.g0 (.kv rfl (.int rfl rfl rfl) (.pf (.condN rfl (fun h48 => ?_) (fun h48 => ?_)))))
 ·refine .sm rfl (.cv Tryz.func63 [_] (rdead_spec y x _ _ _ _ _ _ _) ?_)
  refine .an rfl (.rt ?_)
  have hl2 : ¬ (layZ δ ω.area (laidZ ω.recs ++ recZ s) (laidZ ω.recs).length).2 = 0 := fun g => h48 (he1.2 g)
  have hr : appendZ δ ω s = ((layZ δ ω.area (laidZ ω.recs ++ recZ s) (laidZ ω.recs).length).1, { ω with doubt := true }, 2) := by unfold appendZ; rw [if_neg (by rw [h9]; decide), if_neg (by omega), if_neg (by omega), if_pos hl2, layX_two hl2]
  rw [hr]
  refine .rl (y := y) (x := x) (ω := { ω with doubt := true }) (v := (.slice arr ω.recs.length crr)) ?_
  exact .vv
 refine .sk (.sm rfl (.m rfl (.nf rfl fo_114_1 (.u (.ld rfl ag_46) (.m rfl (.oq (.buildSlice1 (vs := [_]) el_46 ze_9 rfl rfl rfl rfl rfl (by decide)) ?_))))))
 rintro v L' ⟨b10, rfl, rfl⟩
 refine .oq (.append1 rfl rfl rfl el_46 ze_9 rfl rfl ?c62 ?c63 (Nat.le_refl _) ?c64 (by decide)) ?_
 case c62 => (first | (simp [isCell]; done) | (simp [isCell, setAll, Value.cells]; done))
 case c63 => rfl
 case c64 => omega
 rintro v L' ⟨⟨a10, c10, rfl⟩, rfl⟩
 refine .nf rfl fo_114_1 (.st rfl rfl rfl sz_46 ?_)
 refine .nt (.sr (.an rfl (.ret ?_)))
 have hl2 : (layZ δ ω.area (laidZ ω.recs ++ recZ s) (laidZ ω.recs).length).2 = 0 := he1.1 h48
 have hr : appendZ δ ω s = ((layZ δ ω.area (laidZ ω.recs ++ recZ s) (laidZ ω.recs).length).1, { ω with recs := ω.recs ++ [s] }, 0) := by unfold appendZ; rw [if_neg (by rw [h9]; decide), if_neg (by omega), if_neg (by omega), if_neg (fun g => g hl2)]
 rw [hr]
 refine .rl (y := y) (x := x) (ω := { ω with recs := ω.recs ++ [s] }) (v := .slice a10 (ω.recs.length + 1) c10) ?_
 exact .vv
theorem rlsync_spec (y x : Nat) (ω : Wl) (δ : Dk) (hI : WlI δ ω) (hab : (0 ≤ ω.a ∧ ω.a ≤ 9223372036854775807) ∧ (0 ≤ ω.b ∧ ω.b ≤ 9223372036854775807)) : Fn Tryz.prog 126 #[vptr y] [rlR y x ω, dsR x δ] fun v L => v = vint (syncZ δ ω).2.2 ∧ L = [rlR y x (syncZ δ ω).2.1, dsR x (syncZ δ ω).1] := by
 refine Fn.intro Tryz.func126 rfl rfl fun F W => ?_
 refine .rlOpen (ω := ω) (by repeat' constructor) fun vr => (.slAny (v := vr) (by repeat' constructor) fun arr crr e hsl => ?_)
 subst e
 refine .slAddr (by repeat' constructor) fun hcap hra => ?_
 have hfi := hI.fits
 have hn := hI.size
 have hhl := half_le hI.size
 have hlm := laidZ_many ω.recs
 have hac := hI.acts
 have hct := hI.count
 have har := hI.area
 have hsy := hI.synced
 refine .sr (.an rfl (.seq (.sm rfl (.nf rfl fo_114_7 (.u (.ld rfl ag_4) (.nt (.condB rfl (fun h6 => ?_) (fun h6 => ?_))))))))
 ·refine .sr (.an rfl (.rt ?_))
  have hr : syncZ δ ω = (δ, ω, 34) := by unfold syncZ; rw [if_pos h6]
  rw [hr]
  refine .rl (y := y) (x := x) (ω := ω) (v := (.slice arr ω.recs.length crr)) ?_
  exact .vv
 refine .sk (.seq (.seq (.draw [] [[0, 1, 2, 3, 4, 5, 6, 7, 8, 9]] mixed (by kernel_rfl) (.g0 (.mv rfl rfl (.nf rfl rfl rfl fo_114_2 (.kv rfl (.ld rfl ag_3) (.mv rfl rfl (.nf rfl rfl rfl fo_114_1 (.kv rfl (.ld rfl ag_46) (.kv rfl (.slen rfl Tryz.underlying46 rfl) (.kv rfl (.int rfl rfl rfl) (.pf (.condD rfl (fun h16 => ?_) (fun h16 => ?_)))))))))))))))
 ·refine .sr (.an rfl (.rt ?_))
  have hr : syncZ δ ω = (δ, ω, 0) := by unfold syncZ; rw [if_neg (by rw [h6]; decide), if_pos (by omega)]
  rw [hr]
  refine .rl (y := y) (x := x) (ω := ω) (v := (.slice arr ω.recs.length crr)) ?_
  exact .vv
 refine .sk (.seq (.sm rfl (.nf rfl fo_114_4 (.u (.ld rfl ag_3) (.ui rfl rfl rfl (.nt (.condD rfl (fun h21 => ?_) (fun h21 => ?_))))))))
 ·refine .sr (.an rfl (.rt ?_))
  have hr : syncZ δ ω = (δ, ω, 30) := by unfold syncZ; rw [if_neg (by rw [h6]; decide), if_neg (by omega), if_pos (by omega)]
  rw [hr]
  refine .rl (y := y) (x := x) (ω := ω) (v := (.slice arr ω.recs.length crr)) ?_
  exact .vv
 refine .sk (.seq (.draw [9] [[0, 1, 2, 3, 4, 5, 6, 7, 8, 9], [10]] mixed (by kernel_rfl) (.g0 (.mv rfl rfl (.mv rfl rfl (.nf rfl rfl rfl fo_114_3 (.kv rfl (.ld rfl ag_3) (.mv rfl rfl (.nf rfl rfl rfl fo_114_1 (.kv rfl (.ld rfl ag_46) (.hh rfl (.c Tryz.func68 [_, _, _] (rseals_spec y x (.slice arr ω.recs.length crr) ω ω.area (.slice arr ω.recs.length crr) ω.recs δ (strR (.slice arr ω.recs.length crr) ω.recs) (fun h hp => slR_rd hp) (by omega) ⟨hct.1, by omega⟩ (by omega) hab.1 hab.2 (by omega))) ?_)))))))))))
 rintro v L' (⟨hs, rfl, rfl⟩ | ⟨hs, rfl, a9, c9, rfl⟩)
 ·refine D.ph (.g0 (.kv rfl (.assign rfl) (.pf (.ret ?_))))
  have hr : syncZ δ ω = ((sealZ δ ω ω.area ω.recs).1, { ω with doubt := true }, 2) := by unfold syncZ; rw [if_neg (by rw [h6]; decide), if_neg (by omega), if_neg (by omega), sealX_two hs]
  rw [hr]
  refine .rl (y := y) (x := x) (ω := { ω with doubt := true }) (v := (.slice arr ω.recs.length crr)) ?_
  exact .vv
 refine D.ph (.g0 (.kv rfl (.assign rfl) (.pf (.ret ?_))))
 have hr : syncZ δ ω = ((sealZ δ ω ω.area ω.recs).1, { ω with recs := ω.recs, synced := ω.recs.length, area := ω.area, count := ω.count + 1 }, 0) := by unfold syncZ; rw [if_neg (by rw [h6]; decide), if_neg (by omega), if_neg (by omega), sealX_nil hs]
 rw [hr]
 refine .rl (y := y) (x := x) (ω := { ω with recs := ω.recs, synced := ω.recs.length, area := ω.area, count := ω.count + 1 }) (v := .slice a9 ω.recs.length c9) ?_
 exact .vv
theorem rcut_spec (y x : Nat) (ω : Wl) (δ : Dk) (n : Int) (hI : WlI δ ω) (hab : (0 ≤ ω.a ∧ ω.a ≤ 9223372036854775807) ∧ (0 ≤ ω.b ∧ ω.b ≤ 9223372036854775807)) : Fn Tryz.prog 186 #[vptr y, vint n] [rlR y x ω, dsR x δ] fun v L => v = vint (cutZ δ ω n).2.2 ∧ L = [rlR y x (cutZ δ ω n).2.1, dsR x (cutZ δ ω n).1] := by
 refine Fn.intro Tryz.func186 rfl rfl fun F W => ?_
 refine .rlOpen (ω := ω) (by repeat' constructor) fun vr => (.slAny (v := vr) (by repeat' constructor) fun arr crr e hsl => ?_)
 subst e
 refine .slAddr (by repeat' constructor) fun hcap hra => ?_
 have hfi := hI.fits
 have hn := hI.size
 have hhl := half_le hI.size
 have hlm := laidZ_many ω.recs
 have hac := hI.acts
 have hct := hI.count
 have har := hI.area
 have hsy := hI.synced
 refine .sr (.an rfl (.seq (.sm rfl (.nf rfl fo_114_7 (.u (.ld rfl ag_4) (.nt (.condB rfl (fun h8 => ?_) (fun h8 => ?_))))))))
 ·refine .sr (.an rfl (.rt ?_))
  have hr : cutZ δ ω n = (δ, ω, 34) := by unfold cutZ; rw [if_pos h8]
  rw [hr]
  refine .rl (y := y) (x := x) (ω := ω) (v := (.slice arr ω.recs.length crr)) ?_
  exact .vv
 refine .sk (.seq (.sm rfl (.ui rfl rfl rfl (.m rfl (.dec (t := 11) rfl (fun h3_11 => ?_) (fun h3_11 => ?_))))))
 ·refine .kDT (t := 10) rfl h3_11 (.gk (.gk (.gk (.gk (.gk (.gk (.gk (.u (.pickT rfl rfl) (.nt (.condT rfl (.sr (.an rfl (.rt ?_)))))))))))))
  have hr : cutZ δ ω n = (δ, ω, 32) := by unfold cutZ; rw [if_neg (by rw [h8]; decide), if_pos (by omega)]
  rw [hr]
  refine .rl (y := y) (x := x) (ω := ω) (v := (.slice arr ω.recs.length crr)) ?_
  exact .vv
 refine .kDF (t := 10) rfl h3_11 (.grun (t := 11) rfl rfl rfl (.m rfl (.grun (t := 11) rfl rfl rfl (.m rfl (.grun (t := 11) rfl rfl rfl (.u (.nilp rfl) (.grun (t := 11) rfl rfl rfl (.u (.fieldAddr rfl fo_114_1) (.grun (t := 11) rfl rfl rfl (.u (.ld rfl ag_46) (.grun (t := 11) rfl rfl rfl (.q (.slen rfl Tryz.underlying46 rfl) rfl (.grun (t := 11) rfl rfl rfl (.ui rfl rfl rfl (.u (.pickF rfl rfl) (.nt (.condD rfl (fun h19 => ?_) (fun h19 => ?_))))))))))))))))))
 ·refine .sr (.an rfl (.rt ?_))
  have hr : cutZ δ ω n = (δ, ω, 32) := by unfold cutZ; rw [if_neg (by rw [h8]; decide), if_pos (by omega)]
  rw [hr]
  refine .rl (y := y) (x := x) (ω := ω) (v := (.slice arr ω.recs.length crr)) ?_
  exact .vv
 refine .sk (.seq (.sm rfl (.nf rfl fo_114_4 (.u (.ld rfl ag_3) (.ui rfl rfl rfl (.nt (.condD rfl (fun h24 => ?_) (fun h24 => ?_))))))))
 ·refine .sr (.an rfl (.rt ?_))
  have hr : cutZ δ ω n = (δ, ω, 30) := by unfold cutZ; rw [if_neg (by rw [h8]; decide), if_neg (by omega), if_pos (by omega)]
  rw [hr]
  refine .rl (y := y) (x := x) (ω := ω) (v := (.slice arr ω.recs.length crr)) ?_
  exact .vv
 refine .sk (.seq ?_)
 have htl := laidZ_take_len ω.recs n.toNat
 have hkl : (ω.recs.take n.toNat).length = n.toNat := by rw [List.length_take]; omega
 refine .draw [11] [[0, 1, 2, 3, 4, 5, 6, 7, 8, 9, 10, 11], [12]] mixed (by kernel_rfl) (.g0 (.mv rfl rfl (.mv rfl rfl (.nf rfl rfl rfl fo_114_3 (.kv rfl (.ld rfl ag_3) (.mv rfl rfl (.nf rfl rfl rfl fo_114_1 (.kv rfl (.ld rfl ag_46) (.mv rfl rfl (.kv rfl (.slTo (j := n) rfl el_46 rfl (by omega) hra) (.hh rfl (.c Tryz.func68 [_, _, _] (rseals_spec y x (.slice arr ω.recs.length crr) ω ω.area (.slice arr n.toNat crr) (ω.recs.take n.toNat) δ (strR (.slice arr ω.recs.length crr) ω.recs) (rd_take (by omega) rfl) (by omega) ⟨hct.1, by omega⟩ (by omega) hab.1 hab.2 (by omega))) ?_)))))))))))
 rintro v L' (⟨hs, rfl, rfl⟩ | ⟨hs, rfl, a9, c9, rfl⟩)
 ·refine D.ph (.g0 (.kv rfl (.assign rfl) (.pf (.ret ?_))))
  have hr : cutZ δ ω n = ((sealZ δ ω ω.area (ω.recs.take n.toNat)).1, { ω with doubt := true }, 2) := by unfold cutZ; rw [if_neg (by rw [h8]; decide), if_neg (by omega), if_neg (by omega), sealX_two hs]
  rw [hr]
  refine .rl (y := y) (x := x) (ω := { ω with doubt := true }) (v := (.slice arr ω.recs.length crr)) ?_
  exact .vv
 refine D.ph (.g0 (.kv rfl (.assign rfl) (.pf (.ret ?_))))
 have hr : cutZ δ ω n = ((sealZ δ ω ω.area (ω.recs.take n.toNat)).1, { ω with recs := (ω.recs.take n.toNat), synced := (ω.recs.take n.toNat).length, area := ω.area, count := ω.count + 1 }, 0) := by unfold cutZ; rw [if_neg (by rw [h8]; decide), if_neg (by omega), if_neg (by omega), sealX_nil hs]
 rw [hr]
 refine .rl (y := y) (x := x) (ω := { ω with recs := (ω.recs.take n.toNat), synced := (ω.recs.take n.toNat).length, area := ω.area, count := ω.count + 1 }) (v := .slice a9 (ω.recs.take n.toNat).length c9) ?_
 exact .vv
theorem rmark_spec (y x : Nat) (ω : Wl) (δ : Dk) (a b : Int) (hI : WlI δ ω) (ha : a ≤ 9223372036854775807) (hb : b ≤ 9223372036854775807) : Fn Tryz.prog 21 #[vptr y, vint a, vint b] [rlR y x ω, dsR x δ] fun v L => v = vint (setmZ δ ω a b).2.2 ∧ L = [rlR y x (setmZ δ ω a b).2.1, dsR x (setmZ δ ω a b).1] := by
 refine Fn.intro Tryz.func21 rfl rfl fun F W => ?_
 refine .rlOpen (ω := ω) (by repeat' constructor) fun vr => (.slAny (v := vr) (by repeat' constructor) fun arr crr e hsl => ?_)
 subst e
 refine .slAddr (by repeat' constructor) fun hcap hra => ?_
 have hfi := hI.fits
 have hn := hI.size
 have hhl := half_le hI.size
 have hlm := laidZ_many ω.recs
 have hac := hI.acts
 have hct := hI.count
 have har := hI.area
 have hsy := hI.synced
 refine .sr (.an rfl (.seq (.sm rfl (.nf rfl fo_114_7 (.u (.ld rfl ag_4) (.nt (.condB rfl (fun h10 => ?_) (fun h10 => ?_))))))))
 ·refine .sr (.an rfl (.rt ?_))
  have hr : setmZ δ ω a b = (δ, ω, 34) := by unfold setmZ; rw [if_pos h10]
  rw [hr]
  refine .rl (y := y) (x := x) (ω := ω) (v := (.slice arr ω.recs.length crr)) ?_
  exact .vv
 refine .sk (.seq (.sm rfl (.ui rfl rfl rfl (.m rfl (.dec (t := 13) rfl (fun h3_13 => ?_) (fun h3_13 => ?_))))))
 ·refine .kDT (t := 12) rfl h3_13 (.gk (.gk (.u (.pickT rfl rfl) (.nt (.condT rfl (.sr (.an rfl (.rt ?_))))))))
  have hr : setmZ δ ω a b = (δ, ω, 1) := by unfold setmZ; rw [if_neg (by rw [h10]; decide), if_pos (by omega)]
  rw [hr]
  refine .rl (y := y) (x := x) (ω := ω) (v := (.slice arr ω.recs.length crr)) ?_
  exact .vv
 refine .kDF (t := 12) rfl h3_13 (.grun (t := 13) rfl rfl rfl (.m rfl (.grun (t := 13) rfl rfl rfl (.ui rfl rfl rfl (.u (.pickF rfl rfl) (.nt (.condD rfl (fun h16 => ?_) (fun h16 => ?_))))))))
 ·refine .sr (.an rfl (.rt ?_))
  have hr : setmZ δ ω a b = (δ, ω, 1) := by unfold setmZ; rw [if_neg (by rw [h10]; decide), if_pos (by omega)]
  rw [hr]
  refine .rl (y := y) (x := x) (ω := ω) (v := (.slice arr ω.recs.length crr)) ?_
  exact .vv
 refine .sk (.seq (.sm rfl (.nf rfl fo_114_4 (.u (.ld rfl ag_3) (.ui rfl rfl rfl (.nt (.condD rfl (fun h21 => ?_) (fun h21 => ?_))))))))
 ·refine .sr (.an rfl (.rt ?_))
  have hr : setmZ δ ω a b = (δ, ω, 30) := by unfold setmZ; rw [if_neg (by rw [h10]; decide), if_neg (by omega), if_pos (by omega)]
  rw [hr]
  refine .rl (y := y) (x := x) (ω := ω) (v := (.slice arr ω.recs.length crr)) ?_
  exact .vv
 refine .sk (.seq (.seq ?_))
 have htl := laidZ_take_len ω.recs ω.synced.toNat
 have hkl : (ω.recs.take ω.synced.toNat).length = ω.synced.toNat := by rw [List.length_take]; omega
 have hwk := write_keeps δ ((ω.mark ω.area (ω.recs.take ω.synced.toNat) a b).count % 2) (ω.mark ω.area (ω.recs.take ω.synced.toNat) a b).sec
 refine .draw [16, 23] [[0, 1, 2, 3, 4, 5, 6, 7, 8, 9, 10, 11, 12, 13, 14, 15, 16], [17, 18, 19, 20, 21, 22, 23], [24, 25]] mixed (by kernel_rfl) (.g0 (.mv rfl rfl (.mv rfl rfl (.nf rfl rfl rfl fo_114_3 (.kv rfl (.ld rfl ag_3) (.mv rfl rfl (.nf rfl rfl rfl fo_114_1 (.kv rfl (.ld rfl ag_46) (.mv rfl rfl (.nf rfl rfl rfl fo_114_2 (.kv rfl (.ld rfl ag_3) (.kv rfl (.slTo (j := ω.synced) rfl el_46 rfl (by omega) hra) (.mv rfl rfl (.mv rfl rfl (.hh rfl (.c Tryz.func62 [_, _, _, _, _] (rputs_spec y x (.slice arr ω.recs.length crr) ω.synced ω.area ω.count ω.a ω.b ω.doubt ω.area a b (.slice arr ω.synced.toNat crr) (ω.recs.take ω.synced.toNat) δ (strR (.slice arr ω.recs.length crr) ω.recs) (rd_take (by omega) rfl) (by omega) ⟨hct.1, by omega⟩ har (by omega) (by omega) (by omega))) ?_)))))))))))))))
 rintro v L' ⟨rfl, rfl⟩
 refine D.ph (.g0 (.kv rfl (.int rfl rfl rfl) (.mv rfl rfl (.ndec (t := 40) rfl (fun h7_40 => ?_) (fun h7_40 => ?_)))))
 ·refine D.kNT (t := 39) rfl h7_40 (.gz rfl (.gz rfl (.gz rfl (.gz rfl (.gz rfl (.ph (.g0 (.gz rfl (.kv rfl (.pickT rfl rfl) (.pf (.condT rfl (.sm rfl (.cv Tryz.func63 [_] (rdead_spec y x _ _ _ _ _ _ _) ?_)))))))))))))
  refine .an rfl (.rt ?_)
  have hnx : nextZ δ (ω.mark ω.area (ω.recs.take ω.synced.toNat) a b) = ((δ.write ((ω.mark ω.area (ω.recs.take ω.synced.toNat) a b).count % 2) (ω.mark ω.area (ω.recs.take ω.synced.toNat) a b).sec).1, 2) := next_s1 (m := (ω.mark ω.area (ω.recs.take ω.synced.toNat) a b)) h7_40
  have hr : setmZ δ ω a b = ((δ.write ((ω.mark ω.area (ω.recs.take ω.synced.toNat) a b).count % 2) (ω.mark ω.area (ω.recs.take ω.synced.toNat) a b).sec).1, { ω with doubt := true }, 2) := by unfold setmZ; rw [if_neg (by rw [h10]; decide), if_neg (by omega), if_neg (by omega), hnx, if_pos (by show ¬ (2 : Int) = 0; decide)]; rfl
  rw [hr]
  refine .rl (y := y) (x := x) (ω := { ω with doubt := true }) (v := (.slice arr ω.recs.length crr)) ?_
  exact .vv
 refine D.kNF (t := 39) rfl h7_40 (.gv rfl (.move rfl) (.gv rfl (.nilp rfl) (.gv rfl (.fieldAddr rfl fo_114_0) (.gv rfl (.ld rfl ag_47) (.gh (t := 40) rfl rfl rfl (by kernel_rfl) (.c Tryz.func61 [_] (dssync_spec x (δ.write ((ω.mark ω.area (ω.recs.take ω.synced.toNat) a b).count % 2) (ω.mark ω.area (ω.recs.take ω.synced.toNat) a b).sec).1 (by omega))) (by repeat' constructor) ?_)))))
 rintro v L' ⟨rfl, rfl⟩
 refine D.ph (.g0 (.gv rfl (.int rfl rfl rfl) (.kv rfl (.pickF rfl rfl) (.pf (.condN rfl (fun h47 => ?_) (fun h47 => ?_))))))
 ·refine .sm rfl (.cv Tryz.func63 [_] (rdead_spec y x _ _ _ _ _ _ _) ?_)
  refine .an rfl (.rt ?_)
  have hnx : nextZ δ (ω.mark ω.area (ω.recs.take ω.synced.toNat) a b) = ((δ.write ((ω.mark ω.area (ω.recs.take ω.synced.toNat) a b).count % 2) (ω.mark ω.area (ω.recs.take ω.synced.toNat) a b).sec).1.sync.1, 2) := next_s2 (m := (ω.mark ω.area (ω.recs.take ω.synced.toNat) a b)) h7_40 h47
  have hr : setmZ δ ω a b = ((δ.write ((ω.mark ω.area (ω.recs.take ω.synced.toNat) a b).count % 2) (ω.mark ω.area (ω.recs.take ω.synced.toNat) a b).sec).1.sync.1, { ω with doubt := true }, 2) := by unfold setmZ; rw [if_neg (by rw [h10]; decide), if_neg (by omega), if_neg (by omega), hnx, if_pos (by show ¬ (2 : Int) = 0; decide)]; rfl
  rw [hr]
  refine .rl (y := y) (x := x) (ω := { ω with doubt := true }) (v := (.slice arr ω.recs.length crr)) ?_
  exact .vv
 refine .sk (.sm rfl (.nf rfl fo_114_4 (.u (.ld rfl ag_3) (.q (.add rfl rfl (by omega)) rfl (.nf rfl fo_114_4 (.st rfl rfl rfl sz_3 ?_))))))
 refine .nt (.sm rfl (.m rfl (.nf rfl fo_114_5 (.st rfl rfl rfl sz_3 ?_))))
 refine .nt (.sm rfl (.m rfl (.nf rfl fo_114_6 (.st rfl rfl rfl sz_3 ?_))))
 refine .nt (.sr (.an rfl (.ret ?_)))
 have hnx : nextZ δ (ω.mark ω.area (ω.recs.take ω.synced.toNat) a b) = ((δ.write ((ω.mark ω.area (ω.recs.take ω.synced.toNat) a b).count % 2) (ω.mark ω.area (ω.recs.take ω.synced.toNat) a b).sec).1.sync.1, 0) := next_s3 (m := (ω.mark ω.area (ω.recs.take ω.synced.toNat) a b)) h7_40 h47
 have hr : setmZ δ ω a b = ((δ.write ((ω.mark ω.area (ω.recs.take ω.synced.toNat) a b).count % 2) (ω.mark ω.area (ω.recs.take ω.synced.toNat) a b).sec).1.sync.1, { ω with a := a, b := b, count := ω.count + 1 }, 0) := by unfold setmZ; rw [if_neg (by rw [h10]; decide), if_neg (by omega), if_neg (by omega), hnx, if_neg (fun g => g rfl)]
 rw [hr]
 refine .rl (y := y) (x := x) (ω := { ω with a := a, b := b, count := ω.count + 1 }) (v := (.slice arr ω.recs.length crr)) ?_
 exact .vv
theorem rlroom_spec (y x : Nat) (ω : Wl) (δ : Dk) (hn : 2 ≤ δ.now.length ∧ δ.now.length ≤ 32768) (hfit : (laidZ ω.recs).length ≤ 4000000) : Fn Tryz.prog 183 #[vptr y] [rlR y x ω, dsR x δ] fun v L => v = vint (roomZ δ ω) ∧ L = [rlR y x ω, dsR x δ] := by
 refine Fn.intro Tryz.func183 rfl rfl fun F W => ?_
 refine .rlOpen (ω := ω) (by repeat' constructor) fun vr => ?_
 have hh := half_le hn
 refine .sr (.an rfl (.seq (.draw [] [[0, 1, 2, 3, 4, 5, 6, 7, 8, 9, 10, 11, 12, 13, 14, 15]] mixed (by kernel_rfl) (.go [lc y x (vr) (ω.synced) (ω.area) (ω.count) (ω.a) (ω.b) (ω.doubt), strR vr ω.recs, dsR x δ] (by repeat' constructor) (.mv rfl rfl (.nf rfl rfl rfl fo_114_0 (.kv rfl (.ld rfl ag_47) (.m rfl (by kernel_rfl) (.c Tryz.func64 [_] (dshalf_spec x δ hn)) (by repeat' constructor) ?_))))))))
 refine D.kv rfl (.mul rfl rfl (by omega)) (.mv rfl rfl (.nf rfl rfl rfl fo_114_1 (.kv rfl (.ld rfl ag_46) (.m rfl (by kernel_rfl) (.c Tryz.func65 [_] (rsize_spec vr ω.recs (strR vr ω.recs) (fun h hp => slR_rd hp) (by omega))) (by repeat' constructor) ?_))))
 refine D.kv rfl (.sub rfl rfl (by omega)) (.kv rfl (.sub rfl rfl (by omega)) (.kv rfl (.min2 rfl rfl) (.kv rfl (.max2 rfl rfl) (.kv rfl (.assign rfl) (.pf (.ret (.rl (y := y) (x := x) (ω := ω) (v := vr) ?_)))))))
 exact .vv
def sevZ (u : Nat) : Bs := if u < 128 then [UInt8.ofNat u] else UInt8.ofNat (u % 128 + 128) :: sevZ (u / 128)
 termination_by u
 decreasing_by omega
def zigZ (n : Int) : Nat := if 0 ≤ n then (2 * n).toNat else (2 * (-(n + 1)) + 1).toNat
def zagZ (u : Nat) : Int := if u % 2 = 0 then (u / 2 : Nat) else -((u / 2 : Nat) : Int) - 1
def numB (n : Int) : Bs := sevZ (zigZ n)
def cntB (n : Nat) : Bs := sevZ n
def txtB (s : Bs) : Bs := cntB s.length ++ s
abbrev U64 : Nat := 18446744073709551616
theorem zig_zag {n : Int} : zagZ (zigZ n) = n := by
 unfold zagZ zigZ
 by_cases h : 0 ≤ n
 ·rw [if_pos h, if_pos (by omega)]; omega
 ·rw [if_neg h, if_neg (by omega)]; omega
theorem zag_zig (u : Nat) : zigZ (zagZ u) = u := by
 unfold zagZ zigZ
 by_cases h : u % 2 = 0
 ·rw [if_pos h, if_pos (by omega)]; omega
 ·rw [if_neg h, if_neg (by omega)]; omega
theorem zig_lt {n : Int} (h : -9223372036854775808 ≤ n ∧ n ≤ 9223372036854775807) : zigZ n < U64 := by
 unfold zigZ U64; split <;> omega
theorem zag_range {u : Nat} (h : u < U64) : -9223372036854775808 ≤ zagZ u ∧ zagZ u ≤ 9223372036854775807 := by
 unfold zagZ; unfold U64 at h; split <;> omega
theorem sev_len (u : Nat) : 0 < (sevZ u).length := by unfold sevZ; split <;> simp
theorem sev_len_le : ∀ (k u : Nat), u < 128 ^ k → 0 < k → (sevZ u).length ≤ k := by
 intro k
 induction k with
 | zero => intro u _ h; omega
 | succ k ih =>
  intro u h _
  unfold sevZ
  split
  ·simp
  ·rename_i h1
   have h2 : u / 128 < 128 ^ k := by rw [Nat.pow_succ] at h; omega
   have h3 : 0 < k := by
    rcases Nat.eq_zero_or_pos k with rfl | h3
    ·simp at h; omega
    ·exact h3
   have := ih _ h2 h3
   rw [List.length_cons]; omega
theorem sev_len10 {u : Nat} (h : u < U64) : (sevZ u).length ≤ 10 := sev_len_le 10 u (Nat.lt_of_lt_of_le h (by decide)) (by decide)
def sevP : Nat → Nat → Bs → Option (Nat × Bs)
 | _, _, [] => none
 | k, u, c :: s => if (k = 9 ∧ 1 < c.toNat) ∨ (c.toNat = 0 ∧ 0 < k) then none else if c.toNat < 128 then some (u + c.toNat % 128 * 128 ^ k, s) else sevP (k + 1) (u + c.toNat % 128 * 128 ^ k) s
abbrev Pa (α : Type) := Bs → Option (α × Bs)
def numP : Pa Int := fun s => (sevP 0 0 s).map fun x => (zagZ x.1, x.2)
def cntP (most : Nat) : Pa Nat := fun s => match sevP 0 0 s with
 | some x => if most < x.1 then none else some x
 | none => none
def txtP (most : Nat) : Pa Bs := fun s => match cntP most s with
 | some x => if x.2.length < x.1 then none else some (x.2.take x.1, x.2.drop x.1)
 | none => none
def bindP {α β : Type} (p : Pa α) (f : α → Pa β) : Pa β := fun s => match p s with
 | some x => f x.1 x.2
 | none => none
theorem pow128 (k : Nat) : 0 < 128 ^ k := Nat.pow_pos (by decide)
theorem u8_ofNat {u : Nat} (h : u < 256) : (UInt8.ofNat u).toNat = u := by
 rw [UInt8.toNat_ofNat']; exact Nat.mod_eq_of_lt h
theorem sev_back : ∀ (k u v : Nat) (r : Bs), v + u * 128 ^ k < U64 → k ≤ 9 → (0 < k → 0 < u) → sevP k v (sevZ u ++ r) = some (v + u * 128 ^ k, r)
 | k, u, v, r, h, hk, h0 => by
  unfold sevZ
  have hp := pow128 k
  split
  ·rename_i hu
   rw [List.singleton_append]
   unfold sevP
   rw [u8_ofNat (by omega), if_neg, if_pos hu, Nat.mod_eq_of_lt hu]
   rintro (⟨rfl, h1⟩ | ⟨h1, h2⟩)
   ·have : u * 128 ^ 9 < U64 := by omega
    unfold U64 at this; omega
   ·have := h0 h2; omega
  ·rename_i hu
   rw [List.cons_append]
   unfold sevP
   rw [u8_ofNat (by omega), if_neg, if_neg (by omega)]
   ·have hk9 : k + 1 ≤ 9 := by
     rcases Nat.lt_or_ge k 9 with h2 | h2
     ·omega
     ·have : k = 9 := by omega
      subst this
      have : u * 128 ^ 9 < U64 := by omega
      unfold U64 at this; omega
    have e : v + (u % 128 + 128) % 128 * 128 ^ k + u / 128 * 128 ^ (k + 1) = v + u * 128 ^ k := by
     rw [Nat.add_mod_right, Nat.mod_mod, Nat.pow_succ, Nat.add_assoc, Nat.mul_comm (128 ^ k) 128, ← Nat.mul_assoc, ← Nat.add_mul]
     congr 2; omega
    rw [sev_back (k + 1) (u / 128) _ r (by rw [e]; exact h) hk9 (fun _ => by omega), e]
   ·rintro (⟨rfl, -⟩ | ⟨h1, -⟩)
    ·have : u * 128 ^ 9 < U64 := by omega
     unfold U64 at this; omega
    ·omega
 termination_by _ u => u
 decreasing_by omega
theorem sev_back0 {u : Nat} (h : u < U64) (r : Bs) : sevP 0 0 (sevZ u ++ r) = some (u, r) := by
 have := sev_back 0 u 0 r (by omega) (by omega) (fun h => absurd h (by decide))
 simpa using this
theorem sev_form : ∀ (k u : Nat) (s : Bs) (v : Nat) (r : Bs), sevP k u s = some (v, r) → k ≤ 9 → u < 128 ^ k → ∃ x, v = u + x * 128 ^ k ∧ s = sevZ x ++ r ∧ (k + (sevZ x).length ≤ 10) ∧ (k = 9 → x ≤ 1) ∧ (0 < k → 0 < x)
 | k, u, [], v, r, h, _, _ => by unfold sevP at h; cases h
 | k, u, c :: s, v, r, h, hk, hu => by
  unfold sevP at h
  split at h
  ·cases h
  ·rename_i h1
   have h9 : k = 9 → c.toNat ≤ 1 := fun e => by
    rcases Nat.lt_or_ge 1 c.toNat with g | g
    ·exact absurd (.inl ⟨e, g⟩) h1
    ·exact g
   have h0 : 0 < k → 0 < c.toNat := fun e => by
    rcases Nat.eq_zero_or_pos c.toNat with g | g
    ·exact absurd (.inr ⟨g, e⟩) h1
    ·exact g
   split at h
   ·rename_i h2
    simp only [Option.some.injEq, Prod.mk.injEq] at h
    obtain ⟨rfl, rfl⟩ := h
    have e : sevZ c.toNat = [c] := by unfold sevZ; rw [if_pos h2]; congr 1; exact UInt8.ofNat_toNat
    refine ⟨c.toNat, by rw [Nat.mod_eq_of_lt h2], by rw [e]; rfl, by rw [e]; simp; omega, h9, h0⟩
   ·rename_i h2
    have hk9 : k + 1 ≤ 9 := by
     rcases Nat.lt_or_ge k 9 with g | g
     ·omega
     ·have := h9 (by omega); omega
    have hc := c.toNat_lt
    have hu' : u + c.toNat % 128 * 128 ^ k < 128 ^ (k + 1) := by
     have h3 : c.toNat % 128 * 128 ^ k ≤ 127 * 128 ^ k := Nat.mul_le_mul_right _ (by omega)
     rw [Nat.pow_succ]; omega
    obtain ⟨x, e1, e2, e3, e4, e5⟩ := sev_form (k + 1) _ s v r h hk9 hu'
    have hx := e5 (by omega)
    have e : sevZ (c.toNat % 128 + x * 128) = c :: sevZ x := by
     rw [sevZ, if_neg (by omega), show (c.toNat % 128 + x * 128) / 128 = x by omega, show (c.toNat % 128 + x * 128) % 128 + 128 = c.toNat by omega]
     congr 1; exact UInt8.ofNat_toNat
    refine ⟨c.toNat % 128 + x * 128, ?_, by rw [e, e2]; rfl, by rw [e, List.length_cons]; omega, fun g => by omega, fun _ => by omega⟩
    rw [e1, Nat.pow_succ, Nat.add_mul, Nat.mul_comm (128 ^ k) 128, ← Nat.mul_assoc, Nat.add_assoc]
theorem sevP_lt : ∀ (k u : Nat) (s : Bs) (v : Nat) (r : Bs), sevP k u s = some (v, r) → k ≤ 9 → u < 128 ^ k → v < U64
 | k, u, [], v, r, h, _, _ => by unfold sevP at h; cases h
 | k, u, c :: s, v, r, h, hk, hu => by
  unfold sevP at h
  split at h
  ·cases h
  ·rename_i h1
   have h9 : k = 9 → c.toNat ≤ 1 := fun e => by
    rcases Nat.lt_or_ge 1 c.toNat with g | g
    ·exact absurd (.inl ⟨e, g⟩) h1
    ·exact g
   have h3 : c.toNat % 128 * 128 ^ k ≤ 127 * 128 ^ k := Nat.mul_le_mul_right _ (by omega)
   split at h
   ·simp only [Option.some.injEq, Prod.mk.injEq] at h
    obtain ⟨rfl, rfl⟩ := h
    rcases Nat.lt_or_ge k 9 with g | g
    ·have h4 : 128 ^ k ≤ 128 ^ 8 := Nat.pow_le_pow_right (by decide) (by omega)
     have e8 : (128 : Nat) ^ 8 = 72057594037927936 := by decide
     unfold U64; omega
    ·have : k = 9 := by omega
     subst this
     have h5 := h9 rfl
     have h6 : c.toNat % 128 * 128 ^ 9 ≤ 1 * 128 ^ 9 := Nat.mul_le_mul_right _ (by omega)
     have e9 : (128 : Nat) ^ 9 = 9223372036854775808 := by decide
     unfold U64; omega
   ·have hk9 : k + 1 ≤ 9 := by
     rcases Nat.lt_or_ge k 9 with g | g
     ·omega
     ·have := h9 (by omega); omega
    exact sevP_lt (k + 1) _ s v r h hk9 (by rw [Nat.pow_succ]; omega)
theorem sev_form0 {s : Bs} {v : Nat} {r : Bs} (h : sevP 0 0 s = some (v, r)) : s = sevZ v ++ r ∧ v < U64 := by
 obtain ⟨x, e1, e2, e3, -, -⟩ := sev_form 0 0 s v r h (by decide) (by decide)
 have e1 : v = x := by simpa using e1
 subst e1
 refine ⟨e2, ?_⟩
 exact sevP_lt 0 0 _ _ _ h (by decide) (by decide)
theorem num_back {n : Int} (h : -9223372036854775808 ≤ n ∧ n ≤ 9223372036854775807) (r : Bs) : numP (numB n ++ r) = some (n, r) := by
 unfold numP numB
 rw [sev_back0 (zig_lt h)]
 simp [zig_zag]
theorem num_form {s r : Bs} {n : Int} (h : numP s = some (n, r)) : s = numB n ++ r ∧ -9223372036854775808 ≤ n ∧ n ≤ 9223372036854775807 := by
 unfold numP at h
 cases e : sevP 0 0 s with
 | none => rw [e] at h; cases h
 | some x =>
  obtain ⟨u, q⟩ := x
  rw [e] at h
  simp only [Option.map_some, Option.some.injEq, Prod.mk.injEq] at h
  obtain ⟨rfl, rfl⟩ := h
  obtain ⟨h1, h2⟩ := sev_form0 e
  unfold numB
  rw [zag_zig]
  exact ⟨h1, zag_range h2⟩
theorem cnt_back {n most : Nat} (h : n ≤ most) (hm : most < U64) (r : Bs) : cntP most (cntB n ++ r) = some (n, r) := by
 unfold cntP cntB
 rw [sev_back0 (by omega)]
 dsimp only
 rw [if_neg (by omega)]
theorem cnt_over {n most : Nat} (h : most < n) (hm : n < U64) (r : Bs) : cntP most (cntB n ++ r) = none := by
 unfold cntP cntB
 rw [sev_back0 (by omega)]
 dsimp only
 rw [if_pos h]
theorem cnt_form {s r : Bs} {n most : Nat} (h : cntP most s = some (n, r)) : s = cntB n ++ r ∧ n ≤ most := by
 unfold cntP at h
 cases e : sevP 0 0 s with
 | none => rw [e] at h; cases h
 | some x =>
  obtain ⟨u, q⟩ := x
  rw [e] at h
  dsimp only at h
  split at h
  ·cases h
  ·rename_i h1
   simp only [Option.some.injEq, Prod.mk.injEq] at h
   obtain ⟨rfl, rfl⟩ := h
   exact ⟨(sev_form0 e).1, by omega⟩
theorem txt_back {s : Bs} {most : Nat} (h : s.length ≤ most) (hm : most < U64) (r : Bs) : txtP most (txtB s ++ r) = some (s, r) := by
 unfold txtP txtB
 rw [List.append_assoc, cnt_back h hm]
 dsimp only
 rw [if_neg (by simp)]
 simp
theorem txt_over {s : Bs} {most : Nat} (h : most < s.length) (hm : s.length < U64) (r : Bs) : txtP most (txtB s ++ r) = none := by
 unfold txtP txtB
 rw [List.append_assoc, cnt_over h hm]
theorem txt_form {s r x : Bs} {most : Nat} (h : txtP most s = some (x, r)) : s = txtB x ++ r ∧ x.length ≤ most := by
 unfold txtP at h
 cases e : cntP most s with
 | none => rw [e] at h; cases h
 | some y =>
  obtain ⟨n, q⟩ := y
  rw [e] at h
  dsimp only at h
  split at h
  ·cases h
  ·rename_i h1
   simp only [Option.some.injEq, Prod.mk.injEq] at h
   obtain ⟨rfl, rfl⟩ := h
   obtain ⟨e1, e2⟩ := cnt_form e
   have hl : (q.take n).length = n := by rw [List.length_take]; omega
   refine ⟨?_, by omega⟩
   unfold txtB
   rw [hl, List.append_assoc, List.take_append_drop]
   exact e1
/-! ### A reader's state: what is still to be read, or that something was wrong -/
abbrev Rs := Option Bs
def runP {α : Type} (d : α) (p : Pa α) : Rs → α × Rs
  | none => (d, none)
  | some s => match p s with
    | some x => (x.1, some x.2)
    | none => (d, none)
def wrR (w : Nat) (bs : Bs) : HP := fun h => ∃ y : Option Addr × Nat, True ∧ sep [ptc w [.slice y.1 bs.length y.2, vint 0] 188, bytR (.slice y.1 bs.length y.2) bs] h
def rdW (r : Nat) (s : Bs) (at' : Nat) (e : Int) : HP := fun h => ∃ y : Nat × Nat, (at' ≤ s.length ∧ s.length ≤ 2147483648) ∧ sep [ptc r [.slice (some ⟨y.1, 0, none⟩) s.length y.2, vint at', vint e] 200, bytR (.slice (some ⟨y.1, 0, none⟩) s.length y.2) s] h
def stW (s : Bs) (at' : Nat) (e : Int) : Rs := if e = 0 then some (s.drop at') else none
def rdR (r : Nat) (st : Rs) : HP := fun h => ∃ y : Bs × (Nat × Int), stW y.1 y.2.1 y.2.2 = st ∧ sep [rdW r y.1 y.2.1 y.2.2] h
section
variable {P : Program} {W : World} {n : Nat} {ds : List Deferred} {E : Env} {L R : List HP} {X : Act → World → Prop}
theorem G.wrOpen {w : Nat} {bs : Bs} (hL : Pick (wrR w bs) L R) (h : ∀ a c, G W n ds E (ptc w [.slice a bs.length c, vint 0] 188 :: bytR (.slice a bs.length c) bs :: R) X) : G W n ds E L X :=
 G.focus hL (G.open (q := fun y : Option Addr × Nat => [ptc w [.slice y.1 bs.length y.2, vint 0] 188, bytR (.slice y.1 bs.length y.2) bs]) (φ := fun _ => True) (fun _ hp => hp) fun y _ => h y.1 y.2)
theorem G.wrFold {w : Nat} (bs : Bs) {l xs : List Value} {a : Option Addr} {c m : Nat} (hL : Picks [ptc w l 188, slR 5 1 (.slice a m c) m xs] L R) (hl : l = [.slice a m c, vint 0]) (hm : m = bs.length) (hx : xs = bysL bs) (h : G W n ds E (wrR w bs :: R) X) : G W n ds E L X := by
 subst hl; subst hm; subst hx
 exact G.fold hL (fun _ hp => ⟨(a, c), trivial, hp⟩) h
theorem G.rdOpen {r : Nat} {s : Bs} {k : Nat} {e : Int} (hL : Pick (rdW r s k e) L R) (h : ∀ a c, k ≤ s.length → s.length ≤ 2147483648 → G W n ds E (ptc r [.slice (some ⟨a, 0, none⟩) s.length c, vint k, vint e] 200 :: bytR (.slice (some ⟨a, 0, none⟩) s.length c) s :: R) X) : G W n ds E L X :=
 G.focus hL (G.open (q := fun y : Nat × Nat => [ptc r [.slice (some ⟨y.1, 0, none⟩) s.length y.2, vint k, vint e] 200, bytR (.slice (some ⟨y.1, 0, none⟩) s.length y.2) s]) (φ := fun _ => k ≤ s.length ∧ s.length ≤ 2147483648) (fun _ hp => hp) fun y hy => h y.1 y.2 hy.1 hy.2)
theorem G.rdFold {r : Nat} (s : Bs) (k : Nat) (e : Int) {l : List Value} {a c : Nat} (hL : Picks [ptc r l 200, bytR (.slice (some ⟨a, 0, none⟩) s.length c) s] L R) (hl : l = [.slice (some ⟨a, 0, none⟩) s.length c, vint k, vint e]) (hk : k ≤ s.length) (hs : s.length ≤ 2147483648) (h : G W n ds E (rdW r s k e :: R) X) : G W n ds E L X := by
 subst hl
 exact G.fold hL (fun _ hp => ⟨(a, c), ⟨hk, hs⟩, hp⟩) h
theorem Fn.rdUp {f : FuncId} {args : Array Value} {r : Nat} {α : Type} {d : α} {p : Pa α} {v : α → Value} (h : ∀ s k e, Fn P f args [rdW r s k e] fun u L => ∃ k' e', stW s k' e' = (runP d p (stW s k e)).2 ∧ u = v (runP d p (stW s k e)).1 ∧ L = [rdW r s k' e']) (st : Rs) :
  Fn P f args [rdR r st] fun u L => u = v (runP d p st).1 ∧ L = [rdR r (runP d p st).2] := by
 intro F w hs
 obtain ⟨h1, h2, hd, a1, a2, ⟨y, hy, hp⟩, hF⟩ := hs
 subst hy
 have hs' : St ([rdW r y.1 y.2.1 y.2.2] ++ F) w := sep_flat ⟨h1, h2, hd, a1, a2, hp, hF⟩
 refine (h _ _ _ F w hs').mono ?_
 rintro e w' ⟨u, L, ⟨k', e', h3, rfl, rfl⟩, he, hs2, hk⟩
 refine ⟨_, _, ⟨rfl, rfl⟩, he, sep_imp (fun hh hq => ⟨(y.1, (k', e')), h3, hh, fun _ => none, fun _ => .inr rfl, fun _ _ e => e, fun _ _ e => (by cases e), hq, trivial⟩) hs2, hk⟩
theorem Fn.rdEnd {f : FuncId} {args : Array Value} {r : Nat} (h : ∀ s k e, Fn P f args [rdW r s k e] fun u L => ∃ e1, (e1 = 0 ↔ stW s k e = some []) ∧ u = vint e1 ∧ L = [rdW r s k e1]) (st : Rs) :
  Fn P f args [rdR r st] fun u L => ∃ e1, (e1 = 0 ↔ st = some []) ∧ u = vint e1 ∧ ∃ st', L = [rdR r st'] := by
 intro F w hs
 obtain ⟨h1, h2, hd, a1, a2, ⟨y, hy, hp⟩, hF⟩ := hs
 subst hy
 have hs' : St ([rdW r y.1 y.2.1 y.2.2] ++ F) w := sep_flat ⟨h1, h2, hd, a1, a2, hp, hF⟩
 refine (h _ _ _ F w hs').mono ?_
 rintro e w' ⟨u, L, ⟨e1, h3, rfl, rfl⟩, he, hs2, hk⟩
 refine ⟨_, _, ⟨e1, h3, rfl, _, rfl⟩, he, sep_imp (fun hh hq => ⟨(y.1, (y.2.1, e1)), rfl, hh, fun _ => none, fun _ => .inr rfl, fun _ _ e => e, fun _ _ e => (by cases e), hq, trivial⟩) hs2, hk⟩
theorem rdW_up {r : Nat} {s : Bs} {k : Nat} {e : Int} {h : Hp} (hp : sep [rdW r s k e] h) : rdR r (stW s k e) h := ⟨(s, (k, e)), rfl, hp⟩
theorem G.rdUpF {r : Nat} {s : Bs} {k : Nat} {e : Int} {st : Rs} (hL : Pick (rdW r s k e) L R) (hs : stW s k e = st) (h : G W n ds E (rdR r st :: R) X) : G W n ds E L X := by
 subst hs; exact G.fold (.cons hL .nil) (fun _ hp => rdW_up hp) h
end
theorem slR_mid {b i j c : Nat} {s : Bs} {h : Hp} (hi : i ≤ j) (hj : j ≤ s.length) (hp : bytR (.slice (some ⟨b, 0, none⟩) s.length c) s h) : rdS 1 h (.slice (some (if c = i then ⟨b, 0, none⟩ else ⟨b, 0 + i * 1, none⟩)) (j - i) (c - i)) ((s.take j).drop i).length (((s.take j).drop i).map vbyte) := by
 obtain ⟨⟨rest, fr⟩, h1, h2, h3, h4, h5⟩ := slR_get hp
 have hl : ((s.take j).drop i).length = j - i := by rw [List.length_drop, List.length_take]; omega
 rcases Nat.lt_or_ge i j with g | g
 ·refine .inr ⟨b, i, c - i, bysL s ++ rest, 5, fr, ?_, h1, ?_, ?_, by omega⟩
  ·rw [if_neg (by omega), hl]; simp
  ·rw [hl, Nat.mul_one, List.drop_append_of_le_length (by simp [bysL]; omega), List.take_append_of_le_length (by simp [bysL]; omega)]
   unfold bysL
   rw [← List.map_drop, ← List.map_take, List.drop_take]
  ·rw [hl]; simp [bysL]; omega
 ·refine .inl ⟨by omega, ?_, ?_⟩
  ·rw [List.drop_eq_nil_of_le (by rw [List.length_take]; omega)]; rfl
  ·rw [show j - i = 0 by omega]; exact ⟨_, _, rfl⟩
/-! ### Bits -/
theorem u64wrap (x : Int) : IntKind.u64.wrap x = x % 18446744073709551616 := rfl
theorem u8wrap (x : Int) : IntKind.u8.wrap x = x % 256 := rfl
theorem bv8_or : ∀ b : BitVec 8, (b ||| 128#8).toNat = b.toNat % 128 + 128 := by decide +kernel
theorem byte_or (u : Nat) : Value.int .u8 (IntKind.u8.wrap (BitVec.ofInt IntKind.u8.bits (IntKind.u8.wrap (u : Int)) ||| BitVec.ofInt IntKind.u8.bits 128).toNat) = vbyte (UInt8.ofNat (u % 128 + 128)) := by
 show Value.int .u8 _ = Value.int .u8 _
 congr 1
 have h : (BitVec.ofInt 8 (IntKind.u8.wrap (u : Int)) ||| BitVec.ofInt 8 128).toNat = u % 128 + 128 := by
  rw [show BitVec.ofInt 8 128 = 128#8 from rfl, bv8_or, BitVec.toNat_ofInt, u8wrap]
  omega
 show IntKind.u8.wrap ((BitVec.ofInt 8 (IntKind.u8.wrap (u : Int)) ||| BitVec.ofInt 8 128).toNat : Int) = _
 rw [h, u8wrap, u8_ofNat (by omega)]
 omega
theorem byte_low {u : Nat} (h : u < 128) : Value.int .u8 (IntKind.u8.wrap (u : Int)) = vbyte (UInt8.ofNat u) := by
 show Value.int .u8 _ = Value.int .u8 _
 rw [u8wrap, u8_ofNat (by omega)]
 congr 1; omega
theorem zig_bits {n : Int} (h : -9223372036854775808 ≤ n ∧ n ≤ 9223372036854775807) : IntKind.u64.wrap (BitVec.ofInt IntKind.u64.bits (IntKind.u64.wrap (IntKind.u64.wrap n * 2 ^ min (1 : Int).toNat IntKind.u64.bits)) ^^^ BitVec.ofInt IntKind.u64.bits (IntKind.u64.wrap (n.fdiv (2 ^ min (63 : Int).toNat IntKind.i64.bits)))).toNat = (zigZ n : Int) := by
 have e1 : (2 : Int) ^ min (1 : Int).toNat IntKind.u64.bits = 2 := rfl
 have e2 : (2 : Int) ^ min (63 : Int).toNat IntKind.i64.bits = 9223372036854775808 := rfl
 rw [e1, e2, Int.fdiv_eq_ediv_of_nonneg _ (by decide)]
 show IntKind.u64.wrap ((BitVec.ofInt 64 (IntKind.u64.wrap (IntKind.u64.wrap n * 2)) ^^^ BitVec.ofInt 64 (IntKind.u64.wrap (n / 9223372036854775808))).toNat : Int) = _
 unfold zigZ
 by_cases h0 : 0 ≤ n
 ·rw [if_pos h0, show n / 9223372036854775808 = 0 by omega, show BitVec.ofInt 64 (IntKind.u64.wrap 0) = 0#64 from rfl, BitVec.xor_zero, BitVec.toNat_ofInt, u64wrap, u64wrap, u64wrap]
  omega
 ·rw [if_neg h0, show n / 9223372036854775808 = -1 by omega, show BitVec.ofInt 64 (IntKind.u64.wrap (-1)) = BitVec.allOnes 64 from rfl, BitVec.xor_allOnes, BitVec.toNat_not, BitVec.toNat_ofInt, u64wrap, u64wrap, u64wrap]
  omega
theorem u64_and1 (u : Nat) : IntKind.u64.wrap (BitVec.ofInt IntKind.u64.bits (u : Int) &&& BitVec.ofInt IntKind.u64.bits 1).toNat = ((u % 2 : Nat) : Int) := by
 show IntKind.u64.wrap ((BitVec.ofInt 64 (u : Int) &&& BitVec.ofInt 64 1).toNat : Int) = _
 have h : (BitVec.ofInt 64 (u : Int) &&& BitVec.ofInt 64 1).toNat = u % 2 := by
  rw [BitVec.toNat_and, show (BitVec.ofInt 64 1).toNat = 1 from rfl, Nat.and_one_is_mod, BitVec.toNat_ofInt]
  have e : ((2 ^ 64 : Nat) : Int) = 18446744073709551616 := rfl
  rw [e]; omega
 rw [h, u64wrap]; omega
theorem zag_bits {u : Nat} (h : u < U64) : IntKind.i64.wrap (BitVec.ofInt IntKind.i64.bits (IntKind.i64.wrap ((u : Int).fdiv (2 ^ min (1 : Int).toNat IntKind.u64.bits))) ^^^ BitVec.ofInt IntKind.i64.bits (-((u % 2 : Nat) : Int))).toNat = zagZ u := by
 have e1 : (2 : Int) ^ min (1 : Int).toNat IntKind.u64.bits = 2 := rfl
 have e64 : ((2 ^ 64 : Nat) : Int) = 18446744073709551616 := rfl
 unfold U64 at h
 rw [e1, Int.fdiv_eq_ediv_of_nonneg _ (by decide)]
 show IntKind.i64.wrap ((BitVec.ofInt 64 (IntKind.i64.wrap ((u : Int) / 2)) ^^^ BitVec.ofInt 64 (-((u % 2 : Nat) : Int))).toNat : Int) = _
 have e3 : IntKind.i64.wrap ((u : Int) / 2) = (u : Int) / 2 := i64w (by omega)
 rw [e3]
 unfold zagZ
 by_cases h0 : u % 2 = 0
 ·rw [if_pos h0, h0, show BitVec.ofInt 64 (-((0 : Nat) : Int)) = 0#64 from rfl, BitVec.xor_zero, BitVec.toNat_ofInt, wrap64, e64]
  omega
 ·rw [if_neg h0, show u % 2 = 1 by omega, show BitVec.ofInt 64 (-((1 : Nat) : Int)) = BitVec.allOnes 64 from rfl, BitVec.xor_allOnes, BitVec.toNat_not, BitVec.toNat_ofInt, wrap64, e64]
  omega
theorem bv8_and : ∀ b : BitVec 8, (b &&& 127#8).toNat = b.toNat % 128 := by decide +kernel
theorem byte_and (c : UInt8) : IntKind.u64.wrap (IntKind.u8.wrap (BitVec.ofInt IntKind.u8.bits (c.toNat : Int) &&& BitVec.ofInt IntKind.u8.bits 127).toNat) = ((c.toNat % 128 : Nat) : Int) := by
 have hc := c.toNat_lt
 have h : (BitVec.ofInt 8 (c.toNat : Int) &&& BitVec.ofInt 8 127).toNat = c.toNat % 128 := by
  rw [show BitVec.ofInt 8 127 = 127#8 from rfl, bv8_and, BitVec.toNat_ofInt]
  have e : ((2 ^ 8 : Nat) : Int) = 256 := rfl
  rw [e]; omega
 show IntKind.u64.wrap (IntKind.u8.wrap ((BitVec.ofInt 8 (c.toNat : Int) &&& BitVec.ofInt 8 127).toNat : Int)) = _
 rw [h, u8wrap, u64wrap]; omega
theorem pow7 (k : Nat) : (2 : Nat) ^ (7 * k) = 128 ^ k := by rw [Nat.pow_mul]
theorem sev_bits {k u x : Nat} (hk : k ≤ 9) (hu : u < 128 ^ k) (hx : x < 128) (h9 : k = 9 → x ≤ 1) :
  IntKind.u64.wrap (BitVec.ofInt IntKind.u64.bits (u : Int) ||| BitVec.ofInt IntKind.u64.bits (IntKind.u64.wrap ((x : Int) * 2 ^ min (7 * (k : Int)).toNat IntKind.u64.bits))).toNat = ((u + x * 128 ^ k : Nat) : Int) := by
 have em : min (7 * (k : Int)).toNat IntKind.u64.bits = 7 * k := by
  have : IntKind.u64.bits = 64 := rfl
  omega
 have hb : x * 128 ^ k < 18446744073709551616 := by
  rcases Nat.lt_or_ge k 9 with g | g
  ·have h4 : 128 ^ k ≤ 128 ^ 8 := Nat.pow_le_pow_right (by decide) (by omega)
   have e8 : (128 : Nat) ^ 8 = 72057594037927936 := by decide
   have : x * 128 ^ k ≤ 127 * 128 ^ 8 := Nat.mul_le_mul (by omega) h4
   omega
  ·have : k = 9 := by omega
   subst this
   have := h9 rfl
   have e9 : (128 : Nat) ^ 9 = 9223372036854775808 := by decide
   have : x * 128 ^ 9 ≤ 1 * 128 ^ 9 := Nat.mul_le_mul_right _ (by omega)
   omega
 have hu64 : u < 18446744073709551616 := by
  have h4 : 128 ^ k ≤ 128 ^ 9 := Nat.pow_le_pow_right (by decide) hk
  have e9 : (128 : Nat) ^ 9 = 9223372036854775808 := by decide
  omega
 have hs : u + x * 128 ^ k < 18446744073709551616 := by
  rcases Nat.lt_or_ge k 9 with g | g
  ·have h4 : 128 ^ (k + 1) ≤ 128 ^ 9 := Nat.pow_le_pow_right (by decide) (by omega)
   have e9 : (128 : Nat) ^ 9 = 9223372036854775808 := by decide
   have : x * 128 ^ k ≤ 127 * 128 ^ k := Nat.mul_le_mul_right _ (by omega)
   rw [Nat.pow_succ] at h4
   omega
  ·have : k = 9 := by omega
   subst this
   have := h9 rfl
   have e9 : (128 : Nat) ^ 9 = 9223372036854775808 := by decide
   have : x * 128 ^ 9 ≤ 1 * 128 ^ 9 := Nat.mul_le_mul_right _ (by omega)
   omega
 rw [em]
 have e2 : (x : Int) * 2 ^ (7 * k) = ((x * 128 ^ k : Nat) : Int) := by
  rw [← pow7]; simp
 have e4 : IntKind.u64.wrap ((x * 128 ^ k : Nat) : Int) = ((x * 128 ^ k : Nat) : Int) := by rw [u64wrap]; exact Int.emod_eq_of_lt (by omega) (by omega)
 rw [e2, e4]
 show IntKind.u64.wrap ((BitVec.ofInt 64 (u : Int) ||| BitVec.ofInt 64 ((x * 128 ^ k : Nat) : Int)).toNat : Int) = _
 have e3 : (BitVec.ofInt 64 (u : Int) ||| BitVec.ofInt 64 ((x * 128 ^ k : Nat) : Int)).toNat = u + x * 128 ^ k := by
  have e64 : ((2 ^ 64 : Nat) : Int) = 18446744073709551616 := rfl
  have f1 : (BitVec.ofInt 64 (u : Int)).toNat = u := by rw [BitVec.toNat_ofInt, e64]; omega
  have f2 : (BitVec.ofInt 64 ((x * 128 ^ k : Nat) : Int)).toNat = x * 128 ^ k := by rw [BitVec.toNat_ofInt, e64]; omega
  rw [BitVec.toNat_or, f1, f2, Nat.or_comm, ← pow7, ← Nat.shiftLeft_eq, ← Nat.shiftLeft_add_eq_or_of_lt (by rw [pow7]; exact hu), Nat.add_comm]
 rw [e3, u64wrap]
 omega
def FEq (P : Program) (d : Nat) (xs ys : Array Value) (f : Field) (r : Bool) : Prop :=
 f.name ≠ "_" ∧ ∀ w, ∃ a b, (part f.type xs f.offset).run P w = .ok a w ∧ (part f.type ys f.offset).run P w = .ok b w ∧ (Op.equalIn d f.type a b).run P w = .ok r w
inductive FEqs (P : Program) (d : Nat) (xs ys : Array Value) : List Field → List Bool → Prop
 | nil : FEqs P d xs ys [] []
 | cons {f fs r rs} : FEq P d xs ys f r → FEqs P d xs ys fs rs → FEqs P d xs ys (f :: fs) (r :: rs)
section parts
variable {P : Program} {w : World}
end parts
section
variable {P : Program} {E : Env} {L R : List HP} {ty : TypeId} {w : World}
end
/-! ### Structs of bigger parts -/
def placesN (P : Program) (fs : Array Field) : Option (List (Nat × Nat)) := fs.toList.mapM fun f => (P.info? f.type).map fun i => (f.offset, i.size)
theorem mapM_placesN {P : Program} {fs : Array Field} {pl : List (Nat × Nat)} (h : placesN P fs = some pl) (w : World) : (fs.mapM (m := Sem) fun f => do pure (f.offset, ← sizeOf f.type)).run P w = .ok pl.toArray w := by
 have key : ∀ (l : List Field) (pl : List (Nat × Nat)), (l.mapM fun f => (P.info? f.type).map fun i => (f.offset, i.size)) = some pl → (l.mapM (m := Sem) fun f => do pure (f.offset, ← sizeOf f.type)).run P w = .ok pl w := by
  intro l
  induction l with
  | nil => intro pl h; simp at h; subst h; rfl
  | cons f l ih =>
   intro pl h
   rw [List.mapM_cons] at h
   simp only [bind, Option.bind_eq_some_iff, pure, Option.some.injEq, Option.map_eq_some_iff] at h
   obtain ⟨a, ⟨i, hi, rfl⟩, bs, hb, rfl⟩ := h
   rw [List.mapM_cons]
   have h2 : sizeOf' P f.type = some i.size := by unfold sizeOf'; rw [hi]; rfl
   rw [run_bind (a := (f.offset, i.size)) (w' := w) (by rw [run_bind (run_sizeOf h2)]; rfl), run_bind (ih bs hb)]
   rfl
 have hm : (fs.mapM (m := Sem) fun f => do pure (f.offset, ← sizeOf f.type)) = (Functor.map List.toArray (fs.toList.mapM (m := Sem) fun f => do pure (f.offset, ← sizeOf f.type))) := by
  rw [Array.mapM_eq_mapM_toList]
 rw [hm]
 rw [show (Functor.map List.toArray (fs.toList.mapM (m := Sem) fun f => do pure (f.offset, ← sizeOf f.type)) : Sem _) = ((fs.toList.mapM (m := Sem) fun f => do pure (f.offset, ← sizeOf f.type)) >>= fun l => pure l.toArray) from rfl]
 rw [run_bind (key _ _ h)]
 rfl
theorem Quiet.buildN {P : Program} {E : Env} {L : List HP} {ty : TypeId} {t : TypeId} {parts : Array (Nat × Operand)} {fs : Array Field} {pl : List (Nat × Nat)} {zl cells : List Value} {us : List (Nat × Value)} (hus : P.underlying t = some (.struct fs)) (hpl : placesN P fs = some pl) (hz : zeroOf P t = some (.agg zl.toArray))
  (hu : parts.toList.map (fun p => (p.1, ev E p.2)) = us.map (fun p => (p.1, some p.2))) (hfill : Instr.fill (fun i => pl.toArray[i]?) zl.toArray us = some cells.toArray) : Quiet P ⟨none, .build t parts, ty, "", #[], none⟩ E L (.agg cells.toArray) := by
 intro ρ w ha _
 refine run_v ?_
 show (Instr.build t (parts.map fun p => (p.1, ρ p.2))).run P w = _
 unfold Instr.build
 rw [run_bind (run_zero hz)]
 dsimp only
 rw [run_bind (run_underlying hus)]
 dsimp only
 rw [run_bind (mapM_placesN hpl w)]
 have hparts : (parts.map fun p => (p.1, ρ p.2)).toList = us := by
  rw [Array.toList_map]; exact agree_parts ha _ _ hu
 rw [hparts]
 rw [show Value.cells (.agg zl.toArray) = zl.toArray from rfl, hfill]
 rfl
/-! ### Keys -/
theorem cnew_spec : Fn Tryz.prog 101 #[] [] fun v L => ∃ w, v = vptr w ∧ L = [wrR w []] := by
 refine Fn.intro Tryz.func101 rfl rfl fun F W => ?_
 refine .sr (.an rfl (.sr (.q (.to (v' := .agg [.slice none 0 0, vint 0].toArray) (.buildN (pl := [(0, 2)]) (us := []) (cells := [.slice none 0 0, vint 0]) Tryz.underlying188 (by kernel_rfl) ze_188 rfl rfl) rfl) rfl (.oq (.box rfl) ?_))))
 rintro v L' ⟨w, rfl, rfl⟩
 refine .an rfl (.ret (.add (slR_nil 5 1) (.wrFold (w := w) [] (a := none) (c := 0) (m := 0) (by repeat' constructor) rfl rfl rfl ?_)))
 exact .dn rfl rfl ⟨w, rfl, rfl⟩
theorem cput_spec (w : Nat) (bs cs : Bs) (va : Value) (p : HP) (hp : ∀ h : Hp, p h → rdS 1 h va cs.length (bysL cs)) (hl : bs.length + cs.length ≤ 4294967296) : Fn Tryz.prog 188 #[vptr w, va] [wrR w bs, p] fun v L => v = .tuple #[] ∧ L = [wrR w (bs ++ cs), p] := by
 refine Fn.intro Tryz.func188 rfl rfl fun F W => ?_
 refine .wrOpen (by repeat' constructor) fun wa wc => (.region (.m rfl (.m rfl (.nf rfl fo_186_0 (.u (.ld rfl ag_125) (.m rfl (.oq (.append (n := bs.length) (m := cs.length) (ys := bysL cs) (p := p) rfl rfl rfl el_125 (.inl ⟨_, Tryz.underlying125⟩) ze_5 rfl rfl ?hc7 hp ?hb8 (by decide)) ?_)))))))
 case hc7 => exact bysL_cell _
 case hb8 => omega
 rintro v L' ⟨⟨a6, c6, rfl⟩, rfl⟩
 refine .nf rfl fo_186_0 (.st rfl rfl rfl sz_125 ?_)
 refine .nil (.done_n (.wrFold (w := w) (bs ++ cs) (a := a6) (c := c6) (by repeat' constructor) (by rfl) (by simp) (by rw [bysL_append]) ?_))
 exact .vv
theorem sev_step {u : Nat} (h : 127 < u) (bs : Bs) : bs ++ [UInt8.ofNat (u % 128 + 128)] ++ sevZ (u / 128) = bs ++ sevZ u := by
 rw [sevZ.eq_1 u, if_neg (by omega), List.append_assoc]; rfl
theorem sev_last {u : Nat} (h : ¬ 127 < u) (bs : Bs) : bs ++ [UInt8.ofNat u] = bs ++ sevZ u := by
 rw [sevZ.eq_1 u, if_pos (by omega)]
theorem shr7 (u : Nat) : Value.int .u64 ((u : Int).fdiv (2 ^ min (7 : Int).toNat IntKind.u64.bits)) = .int .u64 ((u / 128 : Nat) : Int) := by
 have e1 : (2 : Int) ^ min (7 : Int).toNat IntKind.u64.bits = 128 := rfl
 rw [e1, Int.fdiv_eq_ediv_of_nonneg _ (by decide)]; rfl
theorem csevens_spec (w : Nat) (bs0 : Bs) (u0 : Nat) (hu : u0 < U64) (hl : bs0.length ≤ 4294967200) : Fn Tryz.prog 152 #[vptr w, .int .u64 u0] [wrR w bs0] fun v L => v = .tuple #[] ∧ L = [wrR w (bs0 ++ sevZ u0)] := by
 refine Fn.intro Tryz.func152 rfl rfl fun F W => ?_
 have hs10 := sev_len10 hu
 refine .seq (.block (.loopK (ι := Nat × Bs) (fun q E => (1, .int .u64 q.1) :: E) (fun q => [wrR w q.2]) (fun q => q.1 ≤ u0 ∧ q.2 ++ sevZ q.1 = bs0 ++ sevZ u0) (fun q => q.1) (u0, bs0) (ts := [0]) (.cons rfl (.nil)) (⟨Nat.le_refl _, rfl⟩) ⟨rfl, rfl, trivial⟩ (by repeat' constructor) ?_))
 rintro ⟨u, bs⟩ ⟨hu0, heq⟩
 dsimp only
 dsimp only at hu0 heq
 have hbl := congrArg List.length heq
 simp only [List.length_append] at hbl
 have hsl := sev_len u
 refine .seq (.sm rfl (.ui rfl rfl rfl (.nt (.condD rfl (fun h5 => ?_) (fun h5 => ?_)))))
 ·have h127 : 127 < u := by omega
  refine .sk (.seq (.block (.region (.m rfl (.nf rfl fo_188_0 (.m rfl (.q (.conv rfl Tryz.underlying190 Tryz.underlying5) rfl (.q (.as (v' := vbyte (UInt8.ofNat (u % 128 + 128))) (by exact byte_or u) (.or rfl rfl)) rfl (.oq (.buildSlice1 (vs := [_]) el_125 ze_5 rfl rfl rfl rfl rfl (by decide)) ?_)))))))))
  rintro v L' ⟨b2, rfl, rfl⟩
  refine .slMake (b := b2) (n := 1) (c := 1) (xs := [vbyte (UInt8.ofNat (u % 128 + 128))]) (by repeat' constructor) (by decide) (by simp) rfl (.cv Tryz.func188 [_, _] (cput_spec w bs [(UInt8.ofNat (u % 128 + 128))] _ (slR 5 1 (.slice (some ⟨b2, 0, none⟩) 1 1) 1 [vbyte (UInt8.ofNat (u % 128 + 128))]) (fun h hp => slR_rd hp) (by simp; omega)) ?_)
  refine .nil (.blk_n (.then_n (.region (.m rfl (.q (.as (v' := .int .u64 ((u / 128 : Nat) : Int)) (by exact shr7 u) (.shr rfl rfl (by first | decide | omega))) rfl (.an rfl ?_))))))
  exact .rk ((u / 128, bs ++ [(UInt8.ofNat (u % 128 + 128))])) (⟨by dsimp only; omega, by dsimp only; rw [sev_step (by omega)]; exact heq⟩) (by dsimp only; omega) ⟨rfl, rfl, trivial⟩
 have h127 : ¬ 127 < u := by omega
 refine .exit (.then_e (.then_e (.blk_e (.then_n (.region (.m rfl (.nf rfl fo_188_0 (.m rfl (.q (.as (v' := vbyte (UInt8.ofNat u)) (by exact byte_low (by omega)) (.conv rfl Tryz.underlying190 Tryz.underlying5)) rfl (.oq (.buildSlice1 (vs := [_]) el_125 ze_5 rfl rfl rfl rfl rfl (by decide)) ?_))))))))))
 rintro v L' ⟨b3, rfl, rfl⟩
 refine .slMake (b := b3) (n := 1) (c := 1) (xs := [vbyte (UInt8.ofNat u)]) (by repeat' constructor) (by decide) (by simp) rfl (.cv Tryz.func188 [_, _] (cput_spec w bs [(UInt8.ofNat u)] _ (slR 5 1 (.slice (some ⟨b3, 0, none⟩) 1 1) 1 [vbyte (UInt8.ofNat u)]) (fun h hp => slR_rd hp) (by simp; omega)) ?_)
 refine .nil (.done_n ?_)
 rw [sev_last h127, heq]
 exact .vv
theorem cnum_spec (w : Nat) (bs : Bs) (n : Int) (hn : -9223372036854775808 ≤ n ∧ n ≤ 9223372036854775807) (hl : bs.length ≤ 4294967200) : Fn Tryz.prog 102 #[vptr w, vint n] [wrR w bs] fun v L => v = .tuple #[] ∧ L = [wrR w (bs ++ numB n)] := by
 refine Fn.intro Tryz.func102 rfl rfl fun F W => ?_
 have hz := zig_lt hn
 refine .region (.m rfl (.m rfl (.q (.conv rfl Tryz.underlying3 Tryz.underlying190) rfl (.q (.shl rfl rfl (by first | decide | omega)) rfl (.m rfl (.q (.shr rfl rfl (by first | decide | omega)) rfl (.q (.conv rfl Tryz.underlying3 Tryz.underlying190) rfl (.q (.as (v' := .int .u64 (zigZ n : Nat)) (by exact congrArg (Value.int .u64) (zig_bits hn)) (.xor rfl rfl)) rfl (.oq (.c Tryz.func152 [_, _] (csevens_spec _ _ _ ?hu9 ?hl10)) ?_)))))))))
 case hu9 => assumption
 case hl10 => omega
 rintro v L' ⟨rfl, rfl⟩
 refine .nil (.done_n ?_)
 exact .vv
theorem ccount_spec (w : Nat) (bs : Bs) (n : Nat) (hn : n ≤ 4294967296) (hl : bs.length ≤ 4294967200) : Fn Tryz.prog 103 #[vptr w, vint n] [wrR w bs] fun v L => v = .tuple #[] ∧ L = [wrR w (bs ++ cntB n)] := by
 refine Fn.intro Tryz.func103 rfl rfl fun F W => ?_
 have hz : n < U64 := by unfold U64; omega
 refine .region (.m rfl (.m rfl (.u (.max2 rfl rfl) (.q (.as (v' := .int .u64 (n : Nat)) (by exact congrArg (Value.int .u64) (by rw [u64wrap]; omega)) (.conv rfl Tryz.underlying3 Tryz.underlying190)) rfl (.oq (.c Tryz.func152 [_, _] (csevens_spec _ _ _ ?hu5 ?hl6)) ?_)))))
 case hu5 => assumption
 case hl6 => omega
 rintro v L' ⟨rfl, rfl⟩
 refine .nil (.done_n ?_)
 exact .vv
theorem ctext_spec (w : Nat) (bs s : Bs) (hl : bs.length + s.length ≤ 4294967000) : Fn Tryz.prog 209 #[vptr w, vstr s] [wrR w bs] fun v L => v = .tuple #[] ∧ L = [wrR w (bs ++ txtB s)] := by
 refine Fn.intro Tryz.func209 rfl rfl fun F W => ?_
 have hc : (cntB s.length).length ≤ 10 := sev_len10 (by unfold U64; omega)
 refine .sm rfl (.m rfl (.q (.strlen rfl Tryz.underlying9 rfl) rfl (.oq (.c Tryz.func103 [_, _] (ccount_spec _ _ _ ?hn4 ?hb5)) ?_)))
 case hn4 => first | assumption | omega
 case hb5 => omega
 rintro v L' ⟨rfl, rfl⟩
 refine .nt (.region (.m rfl (.nf rfl fo_188_0 (.m rfl (.oq (.strBytes rfl Tryz.underlying9 Tryz.underlying125 Tryz.underlying5) ?_)))))
 rintro v L' ⟨rfl, b8, c8, rfl⟩
 refine .cv Tryz.func188 [_, _] (cput_spec w (bs ++ cntB s.length) s _ (slR 5 1 (.slice (some ⟨b8, 0, none⟩) s.length c8) s.length (s.map vbyte)) (fun h hp => slR_rd hp) (by simp; omega)) ?_
 refine .nil (.done_n ?_)
 rw [List.append_assoc]
 exact .vv
theorem cbytes_spec (w : Nat) (bs : Bs) : Fn Tryz.prog 104 #[vptr w] [wrR w bs] fun v L => v = vstr bs ∧ L = [wrR w bs] := by
 refine Fn.intro Tryz.func104 rfl rfl fun F W => ?_
 refine .wrOpen (by repeat' constructor) fun wa wc => (.sr (.an rfl (.sm rfl (.nf rfl fo_188_0 (.u (.fieldAddr rfl fo_186_0) (.u (.ld rfl ag_125) (.q (.bytesBy (cs := bs) (n := bs.length) (p := bytR (.slice wa bs.length wc) bs) rfl Tryz.underlying125 Tryz.underlying5 Tryz.underlying9 (fun h hp => slR_rd hp) (by repeat' constructor)) rfl (.an rfl (.ret (.wrFold (w := w) bs (by repeat' constructor) rfl rfl rfl ?_))))))))))
 exact .vv
theorem rleft_spec (r : Nat) (s : Bs) (k : Nat) (e : Int) : Fn Tryz.prog 162 #[vptr r] [rdW r s k e] fun v L => v = vint ((s.length : Int) - k) ∧ L = [rdW r s k e] := by
 refine Fn.intro Tryz.func162 rfl rfl fun F W => ?_
 refine .rdOpen (by repeat' constructor) fun ra rc hkl hsz => (.sr (.an rfl (.seq (.draw [] [[0, 1, 2, 3, 4, 5, 6, 7, 8, 9, 10]] mixed (by kernel_rfl) (.g0 (.mv rfl rfl (.nf rfl rfl rfl fo_186_0 (.kv rfl (.ld rfl ag_125) (.kv rfl (.slen rfl Tryz.underlying125 rfl) (.mv rfl rfl (.nf rfl rfl rfl fo_186_1 (.kv rfl (.ld rfl ag_3) (.kv rfl (.sub rfl rfl (by omega)) (.kv rfl (.assign rfl) (.pf (.ret (.rdFold (r := r) s (k) (e) (by repeat' constructor) (by first | rfl | (simp only [List.set]; congr; omega)) (by omega) hsz ?_)))))))))))))))))
 exact .vv
theorem rfails_spec (r : Nat) (s : Bs) (k : Nat) (e e' : Int) : Fn Tryz.prog 161 #[vptr r, vint e'] [rdW r s k e] fun v L => v = .tuple #[] ∧ L = [rdW r s k (if e = 0 then e' else e)] := by
 refine Fn.intro Tryz.func161 rfl rfl fun F W => ?_
 refine .rdOpen (by repeat' constructor) fun ra rc hkl hsz => (.sm rfl (.nf rfl fo_200_1 (.u (.ld rfl ag_25) (.ui rfl rfl rfl (.nt (.condD rfl (fun h8 => ?_) (fun h8 => ?_)))))))
 ·refine .region (.m rfl (.m rfl (.nf rfl fo_200_1 (.st rfl rfl rfl sz_25 ?_))))
  refine .nil (.done_n (.rdFold (r := r) s (k) (if e = 0 then e' else e) (by repeat' constructor) (by rw [if_pos h8]; rfl) (by omega) hsz ?_))
  exact .vv
 refine .skip (.done_n (.rdFold (r := r) s (k) (if e = 0 then e' else e) (by repeat' constructor) (by rw [if_neg h8]) (by omega) hsz ?_))
 exact .vv
theorem rfail_spec (r : Nat) (s : Bs) (k : Nat) (e : Int) : Fn Tryz.prog 163 #[vptr r] [rdW r s k e] fun v L => v = .tuple #[] ∧ L = [rdW r s k (if e = 0 then 11 else e)] := by
 refine Fn.intro Tryz.func163 rfl rfl fun F W => ?_
 refine .region (.m rfl (.cv Tryz.func161 [_, _] (rfails_spec _ _ _ _ _) ?_))
 refine .nil (.done_n ?_)
 exact .vv
def SevA (s : Bs) (k : Nat) (e : Int) (u m : Nat) (e' : Int) : Prop :=
 ((e ≠ 0 ∨ sevP 0 0 (s.drop k) = none) ∧ u = 0 ∧ m = 0 ∧ e' ≠ 0) ∨ (e = 0 ∧ e' = 0 ∧ k + m ≤ s.length ∧ sevP 0 0 (s.drop k) = some (u, s.drop (k + m)))
def badB (k : Nat) (c : UInt8) : Prop := (k = 9 ∧ 1 < c.toNat) ∨ (c.toNat = 0 ∧ 0 < k)
instance (k : Nat) (c : UInt8) : Decidable (badB k c) := inferInstanceAs (Decidable (_ ∨ _))
theorem sevP_at {s : Bs} {k j u : Nat} (h : k + j < s.length) : sevP j u (s.drop (k + j)) = if badB j s[k + j] then none else if s[k + j].toNat < 128 then some (u + s[k + j].toNat % 128 * 128 ^ j, s.drop (k + j + 1)) else sevP (j + 1) (u + s[k + j].toNat % 128 * 128 ^ j) (s.drop (k + j + 1)) := by
 rw [List.drop_eq_getElem_cons h]
 conv => lhs; unfold sevP
 rfl
theorem sevP_out {s : Bs} {k j u : Nat} (h : s.length ≤ k + j) : sevP j u (s.drop (k + j)) = none := by
 rw [List.drop_eq_nil_of_le h]; unfold sevP; rfl
theorem rsevens_spec (r : Nat) (s : Bs) (k : Nat) (e : Int) : Fn Tryz.prog 160 #[vptr r] [rdW r s k e] fun v L => ∃ u m e', SevA s k e u m e' ∧ v = .tuple #[.int .u64 (u : Nat), vint (m : Nat)] ∧ L = [rdW r s k e'] := by
 refine Fn.intro Tryz.func160 rfl rfl fun F W => ?_
 refine .rdOpen (by repeat' constructor) fun ra rc hkl hsz => (.sr (.a rfl (.an rfl (.seq (.sr ?_)))))
 rcases Decidable.em (e = 0) with he0 | he0
 ·subst he0
  refine .m rfl (.nf rfl fo_200_1 (.u (.ld rfl ag_25) (.q (.as (v' := .bool false) (by rfl) (.int rfl rfl rfl)) rfl (.nt (.condF rfl (.sk (.sr (.an rfl (.seq (.sm rfl (.nf rfl fo_200_0 (.rdFold (r := r) s (k) (0) (by repeat' constructor) (by first | rfl | (simp only [List.set]; congr; omega)) (by omega) hsz (.cv Tryz.func162 [_] (rleft_spec r s k 0) ?_)))))))))))))
  refine .m rfl (.nil (.rdOpen (by repeat' constructor) fun ra1 rc1 _ _ => (.then_n (.block (.loopK (ι := Nat × Nat) (fun q E => (16, vint q.1) :: (4, .int .u64 q.2) :: E) (fun q => []) (fun q => k + q.1 ≤ s.length ∧ q.1 ≤ 9 ∧ q.2 < 128 ^ q.1 ∧ sevP q.1 q.2 (s.drop (k + q.1)) = sevP 0 0 (s.drop k)) (fun q => s.length - q.1) (0, 0) (ts := [0, 15]) (.cons rfl (.cons rfl (.nil))) (⟨by dsimp only; omega, by dsimp only; omega, by dsimp only; decide, rfl⟩) ⟨rfl, rfl, rfl, rfl, trivial⟩ (by repeat' constructor) ?_)))))
  rintro ⟨j, u⟩ ⟨hj, hj9, huj, hsv⟩
  dsimp only
  dsimp only at hj hj9 huj hsv
  refine .sr (.ui rfl rfl rfl (.nt (.seq (.condD rfl (fun h17 => ?_) (fun h17 => ?_)))))
  ·have hlt : k + j < s.length := by omega
   have hxl := s[k + j].toNat_lt
   refine .sk (.seq (.block (.sm rfl (.an rfl (.seq (.draw [] [[0, 1, 2, 3, 4, 5, 6, 7, 8, 9, 10, 11, 12, 13, 14]] mixed (by kernel_rfl) (.g0 (.mv rfl rfl (.nf rfl rfl rfl fo_200_0 (.kv rfl (.fieldAddr rfl fo_186_0) (.kv rfl (.ld rfl ag_125) (.mv rfl rfl (.nf rfl rfl rfl fo_200_0 (.kv rfl (.fieldAddr rfl fo_186_1) (.kv rfl (.ld rfl ag_3) (.mv rfl rfl (.kv rfl (.add rfl rfl (by omega)) (.kv rfl (.indexAddr rfl rfl el_125 (by omega)) (.kv rfl (.loadRd (sz := 1) (j := k + j) (p := bytR (.slice _ s.length _) s) (v := vbyte s[k + j]) rfl ag_5 (by repeat' constructor) (fun h hp => slR_rd hp) (by omega) (by simp [bysL, List.getElem?_eq_getElem hlt])) ?_)))))))))))))))))))
   refine D.kv rfl (.assign rfl) (.pf (.seq (.seq (.joinK (ι := Bool) (fun q E => (46, .bool q) :: E) (fun q => []) (fun q => q = decide (badB j s[k + j])) (pre := []) (ts := [0, 4, 5, 6, 15, 16, 17, 18, 19, 20, 21, 22, 23, 24, 25, 26, 27, 28, 29, 30, 31, 32]) (.cons rfl (.cons rfl (.cons rfl (.cons rfl (.cons rfl (.cons rfl (.cons rfl (.cons rfl (.cons rfl (.cons rfl (.cons rfl (.cons rfl (.cons rfl (.cons rfl (.cons rfl (.cons rfl (.cons rfl (.cons rfl (.cons rfl (.cons rfl (.cons rfl (.cons rfl (.nil))))))))))))))))))))))) (by repeat' constructor) ?_ ?_))))
   ·refine .region (.m rfl (.ui rfl rfl rfl (.m rfl (.dec (t := 35) rfl (fun h8_35 => ?_) (fun h8_35 => ?_)))))
    ·refine .kDT (t := 34) rfl h8_35 (.grun (t := 35) rfl rfl rfl (.m rfl (.grun (t := 35) rfl rfl rfl (.ui rfl rfl rfl (.u (.pickT rfl rfl) (.m rfl (.dec (t := 39) rfl (fun h8_39 => ?_) (fun h8_39 => ?_))))))))
     ·refine .kDT (t := 37) rfl h8_39 (.kDT (t := 38) rfl h8_39 (.gk (.gk (.gk (.gskipU (t := 42) rfl rfl rfl (.gskipU (t := 42) rfl rfl rfl (.gk (.u (.pickT rfl rfl) (.nt ?_)))))))))
      exact .mk (true) ((by rw [decide_eq_true]; exact .inl ⟨by omega, by omega⟩)) ⟨rfl, rfl, rfl, rfl, rfl, rfl, rfl, rfl, rfl, rfl, rfl, rfl, rfl, rfl, rfl, rfl, rfl, rfl, rfl, rfl, rfl, rfl, rfl, trivial⟩
     refine .kDF (t := 37) rfl h8_39 (.kDF (t := 38) rfl h8_39 (.grun (t := 39) rfl rfl rfl (.m rfl (.grun (t := 39) rfl rfl rfl (.ui rfl rfl rfl (.grun (t := 39) rfl rfl rfl (.m rfl (.dec (t := 42) rfl (fun h8_42 => ?_) (fun h8_42 => ?_)))))))))
     ·refine .kDT (t := 41) rfl h8_42 (.grun (t := 42) rfl rfl rfl (.m rfl (.grun (t := 42) rfl rfl rfl (.ui rfl rfl rfl (.grun (t := 39) rfl rfl rfl (.u (.pickT rfl rfl) (.u (.pickF rfl rfl) (.nt ?_))))))))
      exact .mk ((decide ((j : Int) > 0))) ((by exact decide_eq_decide.2 ⟨fun g => .inr ⟨by omega, by omega⟩, fun g => by rcases g with ⟨g1, g2⟩ | ⟨g1, g2⟩ <;> omega⟩)) ⟨rfl, rfl, rfl, rfl, rfl, rfl, rfl, rfl, rfl, rfl, rfl, rfl, rfl, rfl, rfl, rfl, rfl, rfl, rfl, rfl, rfl, rfl, rfl, trivial⟩
     refine .kDF (t := 41) rfl h8_42 (.gk (.gk (.grun (t := 39) rfl rfl rfl (.u (.pickF rfl rfl) (.u (.pickF rfl rfl) (.nt ?_))))))
     exact .mk (false) ((by exact (decide_eq_false (by rintro (⟨g1, g2⟩ | ⟨g1, g2⟩) <;> omega)).symm)) ⟨rfl, rfl, rfl, rfl, rfl, rfl, rfl, rfl, rfl, rfl, rfl, rfl, rfl, rfl, rfl, rfl, rfl, rfl, rfl, rfl, rfl, rfl, rfl, trivial⟩
    refine .kDF (t := 34) rfl h8_35 (.gk (.gk (.u (.pickF rfl rfl) (.m rfl (.grun (t := 39) rfl rfl rfl (.m rfl (.grun (t := 39) rfl rfl rfl (.ui rfl rfl rfl (.grun (t := 39) rfl rfl rfl (.m rfl (.dec (t := 42) rfl (fun h8_42 => ?_) (fun h8_42 => ?_))))))))))))
    ·refine .kDT (t := 41) rfl h8_42 (.grun (t := 42) rfl rfl rfl (.m rfl (.grun (t := 42) rfl rfl rfl (.ui rfl rfl rfl (.grun (t := 39) rfl rfl rfl (.u (.pickT rfl rfl) (.u (.pickF rfl rfl) (.nt ?_))))))))
     exact .mk ((decide ((j : Int) > 0))) ((by exact decide_eq_decide.2 ⟨fun g => .inr ⟨by omega, by omega⟩, fun g => by rcases g with ⟨g1, g2⟩ | ⟨g1, g2⟩ <;> omega⟩)) ⟨rfl, rfl, rfl, rfl, rfl, rfl, rfl, rfl, rfl, rfl, rfl, rfl, rfl, rfl, rfl, rfl, rfl, rfl, rfl, rfl, rfl, rfl, rfl, trivial⟩
    refine .kDF (t := 41) rfl h8_42 (.gk (.gk (.grun (t := 39) rfl rfl rfl (.u (.pickF rfl rfl) (.u (.pickF rfl rfl) (.nt ?_))))))
    exact .mk (false) ((by exact (decide_eq_false (by rintro (⟨g1, g2⟩ | ⟨g1, g2⟩) <;> omega)).symm)) ⟨rfl, rfl, rfl, rfl, rfl, rfl, rfl, rfl, rfl, rfl, rfl, rfl, rfl, rfl, rfl, rfl, rfl, rfl, rfl, rfl, rfl, rfl, rfl, trivial⟩
   rintro b hb
   subst hb
   refine .condD rfl (fun h46 => ?_) (fun h46 => ?_)
   ·refine .seq (.rdFold (r := r) s (k) (0) (by repeat' constructor) (by first | rfl | (simp only [List.set]; congr; omega)) (by omega) hsz (.region (.m rfl (.oq (.c Tryz.func161 [_, _] (rfails_spec r s k 0 11)) ?_))))
    rintro v L' ⟨rfl, rfl⟩; rw [if_pos rfl]
    refine .nt (.sr (.a rfl (.an rfl (.rt (.blk_r (.then_r (.then_r (.blk_r (.then_r ?_)))))))))
    exact .dn rfl rfl ⟨0, 0, 11, .inl ⟨.inr (by rw [← hsv, sevP_at hlt, if_pos h46]), rfl, rfl, by decide⟩, rfl, rfl⟩
   have h9 : j = 9 → s[k + j].toNat ≤ 1 := fun g => by rcases Nat.lt_or_ge 1 s[k + j].toNat with g2 | g2; exact absurd (.inl ⟨g, g2⟩) h46; exact g2
   refine .sk (.sm rfl (.m rfl (.u (.and rfl rfl) (.q (.as (v' := .int .u64 ((s[k + j].toNat % 128 : Nat) : Int)) (by exact congrArg (Value.int .u64) (byte_and _)) (.conv rfl Tryz.underlying5 Tryz.underlying190)) rfl (.m rfl (.q (.mul rfl rfl (by omega)) rfl (.q (.shl rfl rfl (by first | decide | omega)) rfl (.q (.as (v' := .int .u64 ((u + s[k + j].toNat % 128 * 128 ^ j : Nat) : Int)) (by exact congrArg (Value.int .u64) (sev_bits hj9 huj (by omega) (fun g => by have := h9 g; omega))) (.or rfl rfl)) rfl (.an rfl (.sm rfl (.ui rfl rfl rfl (.nt (.condD rfl (fun h58 => ?_) (fun h58 => ?_))))))))))))))
   ·refine .sm rfl (.m rfl (.q (.add rfl rfl (by omega)) rfl (.a rfl (.an rfl (.ret (.blk_r (.then_r (.then_r (.blk_r (.then_r (.rdFold (r := r) s (k) (0) (by repeat' constructor) (by first | rfl | (simp only [List.set]; congr; omega)) (by omega) hsz ?_)))))))))))
    exact .dn rfl rfl ⟨_, j + 1, 0, .inr ⟨rfl, rfl, by omega, by rw [← hsv, sevP_at hlt, if_neg h46, if_pos (by omega)]; rfl⟩, rfl, rfl⟩
   refine .skip (.blk_n (.then_n (.region (.q (.add rfl rfl (by omega)) rfl (.m rfl (.nt ?_))))))
   exact .rk ((j + 1, u + s[k + j].toNat % 128 * 128 ^ j)) (⟨by dsimp only; omega, by dsimp only; rcases Nat.lt_or_ge j 9 with g | g; (omega); exact absurd (h9 (by omega)) (by omega), by dsimp only; rw [Nat.pow_succ]; have := Nat.mul_le_mul_right (128 ^ j) (show s[k + j].toNat % 128 ≤ 127 by omega); omega, by dsimp only; rw [← hsv, sevP_at hlt, if_neg h46, if_neg (by omega)]; rfl⟩) (by dsimp only; omega) ⟨rfl, rfl, rfl, rfl, trivial⟩
  refine .exit (.then_e (.then_e (.blk_e (.then_n (.seq (.rdFold (r := r) s (k) (0) (by repeat' constructor) (by first | rfl | (simp only [List.set]; congr; omega)) (by omega) hsz (.region (.m rfl (.oq (.c Tryz.func161 [_, _] (rfails_spec r s k 0 10)) ?_)))))))))
  rintro v L' ⟨rfl, rfl⟩; rw [if_pos rfl]
  refine .nt (.sr (.a rfl (.an rfl (.ret ?_))))
  exact .dn rfl rfl ⟨0, 0, 10, .inl ⟨.inr (by rw [← hsv]; exact sevP_out (by omega)), rfl, rfl, by decide⟩, rfl, rfl⟩
 refine .m rfl (.nf rfl fo_200_1 (.u (.ld rfl ag_25) (.q (.as (v' := .bool true) (by simp [he0]) (.int rfl rfl rfl)) rfl (.nt (.condT rfl (.sr (.a rfl (.an rfl (.rt (.rdFold (r := r) s (k) (e) (by repeat' constructor) (by first | rfl | (simp only [List.set]; congr; omega)) (by omega) hsz ?_))))))))))
 exact .dn rfl rfl ⟨0, 0, e, .inl ⟨.inl he0, rfl, rfl, he0⟩, rfl, rfl⟩
theorem SevA.lt {s : Bs} {k : Nat} {e : Int} {u m : Nat} {e' : Int} (h : SevA s k e u m e') : u < U64 := by
 rcases h with ⟨-, rfl, -⟩ | ⟨-, -, -, h⟩
 ·decide
 ·exact sevP_lt 0 0 _ _ _ h (by decide) (by decide)
theorem SevA.le {s : Bs} {k : Nat} {e : Int} {u m : Nat} {e' : Int} (h : SevA s k e u m e') (hk : k ≤ s.length) : k + m ≤ s.length := by
 rcases h with ⟨-, -, rfl, -⟩ | ⟨-, -, h, -⟩
 ·exact hk
 ·exact h
theorem SevA.num {s : Bs} {k : Nat} {e : Int} {u m : Nat} {e' : Int} (h : SevA s k e u m e') : stW s (k + m) e' = (runP 0 numP (stW s k e)).2 ∧ zagZ u = (runP 0 numP (stW s k e)).1 := by
 rcases h with ⟨h1, rfl, rfl, h2⟩ | ⟨rfl, rfl, -, h⟩
 ·have e2 : stW s (k + 0) e' = none := if_neg h2
  rw [e2]
  rcases h1 with h1 | h1
  ·have e1 : stW s k e = none := if_neg h1
   rw [e1]; exact ⟨rfl, rfl⟩
  ·unfold stW
   split
   ·unfold runP numP; dsimp only; rw [h1]; exact ⟨rfl, rfl⟩
   ·exact ⟨rfl, rfl⟩
 ·have e1 : stW s k 0 = some (s.drop k) := if_pos rfl
  have e2 : stW s (k + m) 0 = some (s.drop (k + m)) := if_pos rfl
  rw [e1, e2]
  unfold runP numP; dsimp only; rw [h]; exact ⟨rfl, rfl⟩
theorem SevA.cntT {s : Bs} {k : Nat} {e : Int} {u m : Nat} {e' : Int} {most : Nat} (h : SevA s k e u m e') (hm : most < u) : runP 0 (cntP most) (stW s k e) = (0, none) := by
 rcases h with ⟨h1, rfl, rfl, h2⟩ | ⟨rfl, rfl, -, h⟩
 ·omega
 ·have e1 : stW s k 0 = some (s.drop k) := if_pos rfl
  rw [e1]
  unfold runP cntP; dsimp only; rw [h]; dsimp only; rw [if_pos hm]
theorem SevA.cntF {s : Bs} {k : Nat} {e : Int} {u m : Nat} {e' : Int} {most : Nat} (h : SevA s k e u m e') (hm : ¬ most < u) : stW s (k + m) e' = (runP 0 (cntP most) (stW s k e)).2 ∧ u = (runP 0 (cntP most) (stW s k e)).1 := by
 rcases h with ⟨h1, rfl, rfl, h2⟩ | ⟨rfl, rfl, -, h⟩
 ·have e2 : stW s (k + 0) e' = none := if_neg h2
  rw [e2]
  rcases h1 with h1 | h1
  ·have e1 : stW s k e = none := if_neg h1
   rw [e1]; exact ⟨rfl, rfl⟩
  ·unfold stW
   split
   ·unfold runP cntP; dsimp only; rw [h1]; exact ⟨rfl, rfl⟩
   ·exact ⟨rfl, rfl⟩
 ·have e1 : stW s k 0 = some (s.drop k) := if_pos rfl
  have e2 : stW s (k + m) 0 = some (s.drop (k + m)) := if_pos rfl
  rw [e1, e2]
  unfold runP cntP; dsimp only; rw [h]; dsimp only; rw [if_neg hm]; exact ⟨rfl, rfl⟩
theorem st_none {s : Bs} {k : Nat} {e x : Int} (hx : x ≠ 0) : stW s k (if e = 0 then x else e) = none := by
 refine if_neg ?_
 split
 ·exact hx
 ·assumption
theorem txt_run {s : Bs} {k : Nat} {e : Int} {most n k1 : Nat} {e1 : Int} (h1 : stW s k1 e1 = (runP 0 (cntP most) (stW s k e)).2) (hn : n = (runP 0 (cntP most) (stW s k e)).1) (hk : k1 ≤ s.length) :
  ((s.length : Int) - k1 < n → runP [] (txtP most) (stW s k e) = ([], none)) ∧ (¬ (s.length : Int) - k1 < n → stW s (k1 + n) e1 = (runP [] (txtP most) (stW s k e)).2 ∧ (s.take (k1 + n)).drop k1 = (runP [] (txtP most) (stW s k e)).1) := by
 cases hst : stW s k e with
 | none =>
  rw [hst] at h1 hn
  have h1 : stW s k1 e1 = none := h1
  have hn : n = 0 := hn
  subst hn
  refine ⟨fun h => by omega, fun _ => ⟨?_, ?_⟩⟩
  ·unfold stW at h1 ⊢
   split at h1
   ·cases h1
   ·rename_i g; rw [if_neg g]; rfl
  ·rw [Nat.add_zero, List.drop_eq_nil_of_le (by rw [List.length_take]; omega)]; rfl
 | some q =>
  rw [hst] at h1 hn
  cases hc : cntP most q with
  | none =>
   have f : runP 0 (cntP most) (some q) = (0, none) := by unfold runP; dsimp only; rw [hc]
   have f2 : runP [] (txtP most) (some q) = ([], none) := by unfold runP txtP; dsimp only; rw [hc]
   rw [f] at h1 hn
   rw [f2]
   have h1 : stW s k1 e1 = none := h1
   have hn : n = 0 := hn
   subst hn
   refine ⟨fun h => by omega, fun _ => ⟨?_, ?_⟩⟩
   ·unfold stW at h1 ⊢
    split at h1
    ·cases h1
    ·rename_i g; rw [if_neg g]
   ·rw [Nat.add_zero, List.drop_eq_nil_of_le (by rw [List.length_take]; omega)]
  | some x =>
   obtain ⟨m, z⟩ := x
   have f : runP 0 (cntP most) (some q) = (m, some z) := by unfold runP; dsimp only; rw [hc]
   rw [f] at h1 hn
   have h1 : stW s k1 e1 = some z := h1
   have hn : n = m := hn
   subst hn
   unfold stW at h1
   split at h1
   ·rename_i g
    subst g
    have h1 : s.drop k1 = z := Option.some.inj h1
    subst h1
    have hl : (s.drop k1).length = s.length - k1 := List.length_drop
    refine ⟨fun h => ?_, fun h => ?_⟩
    ·unfold runP txtP; dsimp only; rw [hc]; dsimp only; rw [if_pos (by omega)]
    ·have e2 : stW s (k1 + n) 0 = some (s.drop (k1 + n)) := if_pos rfl
     have f2 : runP [] (txtP most) (some q) = ((s.drop k1).take n, some ((s.drop k1).drop n)) := by unfold runP txtP; dsimp only; rw [hc]; dsimp only; rw [if_neg (by omega)]
     rw [e2, f2, List.drop_drop, List.drop_take]
     exact ⟨rfl, by rw [show k1 + n - k1 = n by omega]⟩
   ·cases h1
theorem rnumW_spec (r : Nat) (s : Bs) (k : Nat) (e : Int) : Fn Tryz.prog 118 #[vptr r] [rdW r s k e] fun v L => ∃ k' e', stW s k' e' = (runP 0 numP (stW s k e)).2 ∧ v = vint (runP 0 numP (stW s k e)).1 ∧ L = [rdW r s k' e'] := by
 refine Fn.intro Tryz.func118 rfl rfl fun F W => ?_
 refine .sr (.an rfl (.sm rfl (.oq (.c Tryz.func160 [_] (rsevens_spec r s k e)) ?_)))
 rintro v L' ⟨u, m, e', hA, rfl, rfl⟩; have hu := hA.lt
 refine .m rfl (.u (.extract rfl rfl) (.u (.extract rfl rfl) (.a rfl (.an rfl (.seq (.rdOpen (by repeat' constructor) fun ra rc hkl hsz => ?_))))))
 have hkm := hA.le hkl
 refine .region (.m rfl (.nf rfl fo_200_0 (.u (.fieldAddr rfl fo_186_1) (.u (.ld rfl ag_3) (.m rfl (.q (.add rfl rfl (by omega)) rfl (.nf rfl fo_200_0 (.u (.fieldAddr rfl fo_186_1) (.st rfl rfl rfl sz_3 ?_)))))))))
 refine .nt (.sm rfl (.q (.shr rfl rfl (by first | decide | omega)) rfl (.q (.conv rfl Tryz.underlying190 Tryz.underlying3) rfl (.m rfl (.q (.as (v' := .int .u64 ((u % 2 : Nat) : Int)) (by exact congrArg (Value.int .u64) (u64_and1 u)) (.and rfl rfl)) rfl (.q (.as (v' := vint ((u % 2 : Nat) : Int)) (by rw [i64w (by omega)]) (.conv rfl Tryz.underlying190 Tryz.underlying3)) rfl (.q (.neg rfl (by omega)) rfl (.q (.as (v' := vint (zagZ u)) (by exact congrArg (Value.int .i64) (zag_bits hu)) (.xor rfl rfl)) rfl (.an rfl (.ret (.rdFold (r := r) s (k + m) (e') (by repeat' constructor) (by first | rfl | (simp only [List.set]; congr; omega)) (by omega) hsz ?_)))))))))))
 rw [hA.num.2]
 exact .dn rfl rfl ⟨k + m, e', hA.num.1, rfl, rfl⟩
theorem rcountW_spec (r most : Nat) (hm : most ≤ 4294967296) (s : Bs) (k : Nat) (e : Int) : Fn Tryz.prog 119 #[vptr r, vint most] [rdW r s k e] fun v L => ∃ k' e', stW s k' e' = (runP 0 (cntP most) (stW s k e)).2 ∧ v = vint ((runP 0 (cntP most) (stW s k e)).1 : Nat) ∧ L = [rdW r s k' e'] := by
 refine Fn.intro Tryz.func119 rfl rfl fun F W => ?_
 refine .sr (.an rfl (.sm rfl (.oq (.c Tryz.func160 [_] (rsevens_spec r s k e)) ?_)))
 rintro v L' ⟨u, m, e', hA, rfl, rfl⟩; have hu := hA.lt
 refine .m rfl (.u (.extract rfl rfl) (.u (.extract rfl rfl) (.a rfl (.an rfl (.seq (.sm rfl (.m rfl (.u (.max2 rfl rfl) (.q (.as (v' := .int .u64 (most : Nat)) (by exact congrArg (Value.int .u64) (by rw [u64wrap]; omega)) (.conv rfl Tryz.underlying3 Tryz.underlying190)) rfl (.ui rfl rfl rfl (.nt (.condD rfl (fun h16 => ?_) (fun h16 => ?_)))))))))))))
 ·refine .sm rfl (.cv Tryz.func161 [_, _] (rfails_spec r s k e' 12) ?_)
  refine .nt (.sr (.an rfl (.rt ?_)))
  rw [hA.cntT (most := most) (by omega)]
  exact .dn rfl rfl ⟨k, _, st_none (x := 12) (by decide), rfl, rfl⟩
 refine .sk (.seq (.rdOpen (by repeat' constructor) fun ra rc hkl hsz => ?_))
 have hkm := hA.le hkl
 refine .region (.m rfl (.nf rfl fo_200_0 (.u (.fieldAddr rfl fo_186_1) (.u (.ld rfl ag_3) (.m rfl (.q (.add rfl rfl (by omega)) rfl (.nf rfl fo_200_0 (.u (.fieldAddr rfl fo_186_1) (.st rfl rfl rfl sz_3 ?_)))))))))
 refine .nt (.sm rfl (.q (.as (v' := vint (u : Nat)) (by rw [i64w (by omega)]) (.conv rfl Tryz.underlying190 Tryz.underlying3)) rfl (.an rfl (.ret (.rdFold (r := r) s (k + m) (e') (by repeat' constructor) (by first | rfl | (simp only [List.set]; congr; omega)) (by omega) hsz ?_)))))
 obtain ⟨hc1, hc2⟩ := hA.cntF (most := most) (by omega)
 rw [hc2]
 exact .dn rfl rfl ⟨k + m, e', hc1, rfl, rfl⟩
theorem rtextW_spec (r most : Nat) (hm : most ≤ 4294967296) (s : Bs) (k : Nat) (e : Int) : Fn Tryz.prog 212 #[vptr r, vint most] [rdW r s k e] fun v L => ∃ k' e', stW s k' e' = (runP [] (txtP most) (stW s k e)).2 ∧ v = vstr (runP [] (txtP most) (stW s k e)).1 ∧ L = [rdW r s k' e'] := by
 refine Fn.intro Tryz.func212 rfl rfl fun F W => ?_
 refine .rdOpen (by repeat' constructor) fun ra rc hkl hsz => (.sr (.an rfl (.sm rfl (.nf rfl fo_200_0 (.u (.fieldAddr rfl fo_186_1) (.u (.ld rfl ag_3) (.a rfl (.nil (.rdFold (r := r) s (k) (e) (by repeat' constructor) (by first | rfl | (simp only [List.set]; congr; omega)) (by omega) hsz (.then_n (.sm rfl (.m rfl (.oq (.c Tryz.func119 [_, _] (rcountW_spec r most hm s k e)) ?_)))))))))))))
 rintro v L' ⟨k1, e1, hs1, rfl, rfl⟩
 obtain ⟨n, hn⟩ : ∃ n, n = (runP 0 (cntP most) (stW s k e)).1 := ⟨_, rfl⟩
 rw [← hn]
 refine .a rfl (.nil (.rdOpen (by repeat' constructor) fun ra2 rc2 hk1 _ => ?_))
 have hrun := txt_run hs1 hn hk1
 refine .rdFold (r := r) s k1 e1 (by repeat' constructor) rfl hk1 hsz (.then_n (.seq (.sm rfl (.nf rfl fo_200_0 (.cv Tryz.func162 [_] (rleft_spec r s k1 e1) ?_)))))
 refine .m rfl (.ui rfl rfl rfl (.nt (.condD rfl (fun h20 => ?_) (fun h20 => ?_))))
 ·refine .seq (.rdOpen (by repeat' constructor) fun ra3 rc3 _ _ => (.region (.m rfl (.m rfl (.nf rfl fo_200_0 (.u (.fieldAddr rfl fo_186_1) (.st rfl rfl rfl sz_3 ?_)))))))
  refine .nil (.rdFold (r := r) s (k) (e1) (by repeat' constructor) (by first | rfl | (simp only [List.set]; congr; omega)) (by omega) hsz (.then_n (.sm rfl (.cv Tryz.func161 [_, _] (rfails_spec r s k e1 10) ?_))))
  refine .nt (.sr (.an rfl (.rt ?_)))
  rw [hrun.1 h20]
  exact .dn rfl rfl ⟨k, _, st_none (x := 10) (by decide), rfl, rfl⟩
 refine .sk (.seq (.rdOpen (by repeat' constructor) fun ra3 rc3 _ _ => ?_))
 obtain ⟨hr1, hr2⟩ := hrun.2 h20
 refine .region (.m rfl (.nf rfl fo_200_0 (.u (.fieldAddr rfl fo_186_1) (.u (.ld rfl ag_3) (.m rfl (.q (.add rfl rfl (by omega)) rfl (.nf rfl fo_200_0 (.u (.fieldAddr rfl fo_186_1) (.st rfl rfl rfl sz_3 ?_)))))))))
 refine .nil (.ptCast (b := r) (l' := [.slice (some ⟨ra3, 0, none⟩) s.length rc3, vint ((k1 + n : Nat) : Int), vint e1]) (by repeat' constructor) rfl (.slAddr (by repeat' constructor) fun hcap _ => (.then_n (.seq (.draw [] [[0, 1, 2, 3, 4, 5, 6, 7, 8, 9, 10, 11, 12, 13, 14, 15, 16, 17, 18, 19]] mixed (by kernel_rfl) (.g0 (.mv rfl rfl (.nf rfl rfl rfl fo_200_0 (.kv rfl (.fieldAddr rfl fo_186_0) (.kv rfl (.ld rfl ag_125) (.mv rfl rfl (.nf rfl rfl rfl fo_200_0 (.kv rfl (.fieldAddr rfl fo_186_1) (.kv rfl (.ld rfl ag_3) (.mv rfl rfl (.kv rfl (.as (v' := vint (k1 : Nat)) (by congr 1; omega) (.sub rfl rfl (by omega))) (.mv rfl rfl (.nf rfl rfl rfl fo_200_0 (.kv rfl (.fieldAddr rfl fo_186_1) (.kv rfl (.ld rfl ag_3) (.kv rfl (.to (v' := .slice (some (if rc3 = k1 then ⟨ra3, 0, none⟩ else ⟨ra3, 0 + k1 * 1, none⟩)) (k1 + n - k1) (rc3 - k1)) (.slSlice (i := (k1 : Int)) (j := ((k1 + n : Nat) : Int)) rfl el_125 (by exact rfl) (by exact rfl) (by omega)) (by simp only [Int.toNat_natCast])) ?_)))))))))))))))))))))
 refine D.kv rfl (.bytesBy (cs := (s.take (k1 + n)).drop k1) (n := ((s.take (k1 + n)).drop k1).length) (p := bytR (.slice (some ⟨ra3, 0, none⟩) s.length rc3) s) rfl Tryz.underlying125 Tryz.underlying5 Tryz.underlying9 (fun h hp => slR_mid (by omega) (by omega) hp) (by repeat' constructor)) (.kv rfl (.assign rfl) (.pf (.ret (.rdFold (r := r) s (k1 + n) (e1) (by repeat' constructor) (by first | rfl | (simp only [List.set]; congr; omega)) (by omega) hsz ?_))))
 rw [hr2]
 exact .dn rfl rfl ⟨k1 + n, e1, hr1, rfl, rfl⟩
theorem end_T {s : Bs} {k : Nat} {e : Int} (h : k < s.length) : (if e = 0 then (11 : Int) else e) = 0 ↔ stW s k e = some [] := by
 have hl : (s.drop k).length = s.length - k := List.length_drop
 unfold stW
 split
 ·refine ⟨fun g => absurd g (by decide), fun g => ?_⟩
  rw [Option.some.inj g] at hl; simp at hl; omega
 ·rename_i g; exact ⟨fun q => absurd q g, fun q => by cases q⟩
theorem end_F {s : Bs} {k : Nat} {e : Int} (h : s.length ≤ k) : e = 0 ↔ stW s k e = some [] := by
 unfold stW
 split
 ·rename_i g; exact ⟨fun _ => by rw [List.drop_eq_nil_of_le h], fun _ => g⟩
 ·rename_i g; exact ⟨fun q => absurd q g, fun q => by cases q⟩
theorem rendW_spec (r : Nat) (s : Bs) (k : Nat) (e : Int) : Fn Tryz.prog 120 #[vptr r] [rdW r s k e] fun v L => ∃ e1, (e1 = 0 ↔ stW s k e = some []) ∧ v = vint e1 ∧ L = [rdW r s k e1] := by
 refine Fn.intro Tryz.func120 rfl rfl fun F W => ?_
 refine .rdOpen (by repeat' constructor) fun ra rc hkl hsz => (.rdFold (r := r) s (k) (e) (by repeat' constructor) (by first | rfl | (simp only [List.set]; congr; omega)) (by omega) hsz (.sr (.an rfl (.seq (.sm rfl (.nf rfl fo_200_0 (.cv Tryz.func162 [_] (rleft_spec r s k e) ?_)))))))
 refine .ui rfl rfl rfl (.nt (.condD rfl (fun h7 => ?_) (fun h7 => ?_)))
 ·refine .region (.m rfl (.cv Tryz.func163 [_] (rfail_spec r s k e) ?_))
  refine .nt (.seq (.rdOpen (by repeat' constructor) fun ra3 rc3 _ _ => (.region (.m rfl (.nf rfl fo_200_1 (.u (.ld rfl ag_25) (.an rfl (.ret (.rdFold (r := r) s (k) (if e = 0 then 11 else e) (by repeat' constructor) (by first | rfl | (simp only [List.set]; congr; omega)) (by omega) hsz ?_)))))))))
  exact .dn rfl rfl ⟨_, end_T (by omega), rfl, rfl⟩
 refine .sk (.seq (.rdOpen (by repeat' constructor) fun ra3 rc3 _ _ => (.region (.m rfl (.nf rfl fo_200_1 (.u (.ld rfl ag_25) (.an rfl (.ret (.rdFold (r := r) s (k) (e) (by repeat' constructor) (by first | rfl | (simp only [List.set]; congr; omega)) (by omega) hsz ?_)))))))))
 exact .dn rfl rfl ⟨_, end_F (by omega), rfl, rfl⟩
theorem cread_spec (s : Bs) (hs : s.length ≤ 2147483648) : Fn Tryz.prog 117 #[vstr s] [] fun v L => ∃ r, v = vptr r ∧ L = [rdR r (some s)] := by
 refine Fn.intro Tryz.func117 rfl rfl fun F W => ?_
 refine .sr (.an rfl (.sm rfl (.oq (.strBytes rfl Tryz.underlying9 Tryz.underlying125 Tryz.underlying5) ?_)))
 rintro v L' ⟨rfl, b8, c8, rfl⟩
 refine .q (.to (v' := .agg [.slice (some ⟨b8, 0, none⟩) s.length c8, vint 0].toArray) (.build (us := [(0, _)]) fl_186 ze_186 rfl rfl (by simp [isCell])) rfl) rfl (.q (.to (v' := .agg [.slice (some ⟨b8, 0, none⟩) s.length c8, vint 0, vint 0].toArray) (.buildN (pl := [(0, 2), (2, 1)]) (us := [(0, _)]) (cells := [.slice (some ⟨b8, 0, none⟩) s.length c8, vint 0, vint 0]) Tryz.underlying200 (by kernel_rfl) ze_200 rfl rfl) rfl) rfl (.oq (.box rfl) ?_))
 rintro v L' ⟨r, rfl, rfl⟩
 refine .an rfl (.ret (.rdFold (r := r) s 0 0 (by repeat' constructor) rfl (Nat.zero_le _) hs (.rdUpF (r := r) (st := some s) (by repeat' constructor) rfl ?_)))
 exact .dn rfl rfl ⟨r, rfl, rfl⟩
theorem rnum_spec (r : Nat) (st : Rs) : Fn Tryz.prog 118 #[vptr r] [rdR r st] fun v L => v = vint (runP 0 numP st).1 ∧ L = [rdR r (runP 0 numP st).2] := Fn.rdUp (v := vint) (fun s k e => rnumW_spec r s k e) st
theorem rcount_spec (r most : Nat) (hm : most ≤ 4294967296) (st : Rs) : Fn Tryz.prog 119 #[vptr r, vint most] [rdR r st] fun v L => v = vint ((runP 0 (cntP most) st).1 : Nat) ∧ L = [rdR r (runP 0 (cntP most) st).2] := Fn.rdUp (v := fun n : Nat => vint n) (fun s k e => rcountW_spec r most hm s k e) st
theorem rtext_spec (r most : Nat) (hm : most ≤ 4294967296) (st : Rs) : Fn Tryz.prog 212 #[vptr r, vint most] [rdR r st] fun v L => v = vstr (runP [] (txtP most) st).1 ∧ L = [rdR r (runP [] (txtP most) st).2] := Fn.rdUp (v := vstr) (fun s k e => rtextW_spec r most hm s k e) st
theorem rend_spec (r : Nat) (st : Rs) : Fn Tryz.prog 120 #[vptr r] [rdR r st] fun v L => ∃ e1, (e1 = 0 ↔ st = some []) ∧ v = vint e1 ∧ ∃ st', L = [rdR r st'] := Fn.rdEnd (fun s k e => rendW_spec r s k e) st
def rfW (r : Nat) (s : Bs) (at' : Nat) (e : Int) : HP := fun h => ∃ _y : Unit, (at' ≤ s.length ∧ s.length ≤ 2147483648) ∧ sep [ptc r [vstr s, vint at', vint e] 208] h
def rfR (r : Nat) (st : Rs) : HP := fun h => ∃ y : Bs × (Nat × Int), stW y.1 y.2.1 y.2.2 = st ∧ sep [rfW r y.1 y.2.1 y.2.2] h
section
variable {P : Program} {W : World} {n : Nat} {ds : List Deferred} {E : Env} {L R : List HP} {X : Act → World → Prop}
theorem G.rfOpen {r : Nat} {s : Bs} {k : Nat} {e : Int} (hL : Pick (rfW r s k e) L R) (h : k ≤ s.length → s.length ≤ 2147483648 → G W n ds E (ptc r [vstr s, vint k, vint e] 208 :: R) X) : G W n ds E L X :=
 G.focus hL (G.open (q := fun _ : Unit => [ptc r [vstr s, vint k, vint e] 208]) (φ := fun _ => k ≤ s.length ∧ s.length ≤ 2147483648) (fun _ hp => hp) fun _ hy => h hy.1 hy.2)
theorem G.rfFold {r : Nat} (s : Bs) (k : Nat) (e : Int) {l : List Value} (hL : Picks [ptc r l 208] L R) (hl : l = [vstr s, vint k, vint e]) (hk : k ≤ s.length) (hs : s.length ≤ 2147483648) (h : G W n ds E (rfW r s k e :: R) X) : G W n ds E L X := by
 subst hl
 exact G.fold hL (fun _ hp => ⟨(), ⟨hk, hs⟩, hp⟩) h
theorem Fn.rfUp {f : FuncId} {args : Array Value} {r : Nat} {α : Type} {d : α} {p : Pa α} {v : α → Value} (h : ∀ s k e, Fn P f args [rfW r s k e] fun u L => ∃ k' e', stW s k' e' = (runP d p (stW s k e)).2 ∧ u = v (runP d p (stW s k e)).1 ∧ L = [rfW r s k' e']) (st : Rs) :
  Fn P f args [rfR r st] fun u L => u = v (runP d p st).1 ∧ L = [rfR r (runP d p st).2] := by
 intro F w hs
 obtain ⟨h1, h2, hd, a1, a2, ⟨y, hy, hp⟩, hF⟩ := hs
 subst hy
 have hs' : St ([rfW r y.1 y.2.1 y.2.2] ++ F) w := sep_flat ⟨h1, h2, hd, a1, a2, hp, hF⟩
 refine (h _ _ _ F w hs').mono ?_
 rintro e w' ⟨u, L, ⟨k', e', h3, rfl, rfl⟩, he, hs2, hk⟩
 refine ⟨_, _, ⟨rfl, rfl⟩, he, sep_imp (fun hh hq => ⟨(y.1, (k', e')), h3, hh, fun _ => none, fun _ => .inr rfl, fun _ _ e => e, fun _ _ e => (by cases e), hq, trivial⟩) hs2, hk⟩
theorem Fn.rfEnd {f : FuncId} {args : Array Value} {r : Nat} (h : ∀ s k e, Fn P f args [rfW r s k e] fun u L => ∃ e1, (e1 = 0 ↔ stW s k e = some []) ∧ u = vint e1 ∧ L = [rfW r s k e1]) (st : Rs) :
  Fn P f args [rfR r st] fun u L => ∃ e1, (e1 = 0 ↔ st = some []) ∧ u = vint e1 ∧ ∃ st', L = [rfR r st'] := by
 intro F w hs
 obtain ⟨h1, h2, hd, a1, a2, ⟨y, hy, hp⟩, hF⟩ := hs
 subst hy
 have hs' : St ([rfW r y.1 y.2.1 y.2.2] ++ F) w := sep_flat ⟨h1, h2, hd, a1, a2, hp, hF⟩
 refine (h _ _ _ F w hs').mono ?_
 rintro e w' ⟨u, L, ⟨e1, h3, rfl, rfl⟩, he, hs2, hk⟩
 refine ⟨_, _, ⟨e1, h3, rfl, _, rfl⟩, he, sep_imp (fun hh hq => ⟨(y.1, (y.2.1, e1)), rfl, hh, fun _ => none, fun _ => .inr rfl, fun _ _ e => e, fun _ _ e => (by cases e), hq, trivial⟩) hs2, hk⟩
theorem rfW_up {r : Nat} {s : Bs} {k : Nat} {e : Int} {h : Hp} (hp : sep [rfW r s k e] h) : rfR r (stW s k e) h := ⟨(s, (k, e)), rfl, hp⟩
theorem G.rfUpF {r : Nat} {s : Bs} {k : Nat} {e : Int} {st : Rs} (hL : Pick (rfW r s k e) L R) (hs : stW s k e = st) (h : G W n ds E (rfR r st :: R) X) : G W n ds E L X := by
 subst hs; exact G.fold (.cons hL .nil) (fun _ hp => rfW_up hp) h
theorem G.rfLook {r : Nat} {st : Rs} (hL : Pick (rfR r st) L R) (h : ∀ s k e, stW s k e = st → k ≤ s.length → s.length ≤ 2147483648 → G W n ds E (ptc r [vstr s, vint k, vint e] 208 :: R) X) : G W n ds E L X :=
 G.focus hL (G.open (q := fun y : Bs × (Nat × Int) => [rfW r y.1 y.2.1 y.2.2]) (φ := fun y : Bs × (Nat × Int) => stW y.1 y.2.1 y.2.2 = st) (fun _ hp => hp) fun y hy => G.rfOpen .here fun h1 h2 => h _ _ _ hy h1 h2)
end
section
variable {P : Program} {E : Env} {L : List HP} {ty : TypeId}
theorem Quiet.remU8 {t t' : TypeId} {x y : Operand} {a b : Int} (hx : ev E x = some (.int .u8 a)) (hy : ev E y = some (.int .u8 b)) (h0 : 0 ≤ a) (hb : 0 < b) :
  Quiet P ⟨none, .binOp .rem t x y t', ty, "", #[], none⟩ E L (.int .u8 (a % b)) := by
 intro ρ w ha _
 have e : a.tmod b = a % b := Int.tmod_eq_emod_of_nonneg h0
 simp [execOp, ha x _ hx, ha y _ hy, eqGuard, binOp, Op.intDiv, Bind.bind, Sem.bind, Pure.pure, Sem.run, show b ≠ 0 by omega, e]
end
theorem sev_mul {k u x : Nat} (hk : k ≤ 9) (hu : u < 128 ^ k) (hx : x < 128) (h9 : k = 9 → x ≤ 1) : IntKind.u64.wrap ((u : Int) + IntKind.u64.wrap ((x : Int) * ((128 ^ k : Nat) : Int))) = ((u + x * 128 ^ k : Nat) : Int) := by
 have hb : x * 128 ^ k < 18446744073709551616 ∧ u + x * 128 ^ k < 18446744073709551616 := by
  rcases Nat.lt_or_ge k 9 with g | g
  ·have h4 : 128 ^ (k + 1) ≤ 128 ^ 9 := Nat.pow_le_pow_right (by decide) (by omega)
   have e9 : (128 : Nat) ^ 9 = 9223372036854775808 := by decide
   have : x * 128 ^ k ≤ 127 * 128 ^ k := Nat.mul_le_mul_right _ (by omega)
   rw [Nat.pow_succ] at h4
   omega
  ·have : k = 9 := by omega
   subst this
   have := h9 rfl
   have e9 : (128 : Nat) ^ 9 = 9223372036854775808 := by decide
   have : x * 128 ^ 9 ≤ 1 * 128 ^ 9 := Nat.mul_le_mul_right _ (by omega)
   omega
 have e1 : (x : Int) * ((128 ^ k : Nat) : Int) = ((x * 128 ^ k : Nat) : Int) := by simp
 rw [e1, u64wrap, u64wrap]
 omega
theorem unit_mul {k : Nat} (hk : k < 9) : IntKind.u64.wrap (((128 ^ k : Nat) : Int) * 128) = ((128 ^ (k + 1) : Nat) : Int) := by
 have h4 : 128 ^ (k + 1) ≤ 128 ^ 9 := Nat.pow_le_pow_right (by decide) (by omega)
 have e9 : (128 : Nat) ^ 9 = 9223372036854775808 := by decide
 rw [u64wrap, Nat.pow_succ]
 rw [Nat.pow_succ] at h4
 omega
abbrev Ac := Int × Bs
def acC (a : Ac) : List Value := [vint a.1, vstr a.2]
structure Pt where
 kind : Int
 path : Bs
 data : Bs
 aclV : Value
 acl : List Ac
 own : Int
 num : Int
 err : Int
 subsV : Value
def ptC (x : Pt) : List Value := [vint x.kind, vstr x.path, vstr x.data, x.aclV, vint x.own, vint x.num, vint x.err, x.subsV]
structure En where
 zx : Int
 ses : Int
 xid : Int
 x : Pt
 subs : List Pt
def enC (e : En) : List Value := [vint e.zx, vint e.ses, vint e.xid] ++ ptC e.x
abbrev I64 (n : Int) : Prop := -9223372036854775808 ≤ n ∧ n ≤ 9223372036854775807
abbrev nilV : Value := .slice none 0 0
def acB (a : Ac) : Bs := numB a.1 ++ txtB a.2
def aclB (l : List Ac) : Bs := cntB l.length ++ l.flatMap acB
def ptB (y : Pt) : Bs := numB y.kind ++ txtB y.path ++ txtB y.data ++ aclB y.acl ++ [y.own, y.num, y.err].flatMap numB
def subsB (l : List Pt) : Bs := cntB l.length ++ l.flatMap ptB
def enB (e : En) : Bs := [e.zx, e.ses, e.xid].flatMap numB ++ ptB e.x ++ subsB e.subs
def Pt.pl (y : Pt) : Pt := ⟨y.kind, y.path, y.data, nilV, y.acl, y.own, y.num, y.err, nilV⟩
def En.pl (e : En) : En := ⟨e.zx, e.ses, e.xid, e.x.pl, e.subs.map Pt.pl⟩
theorem subsB_pl (l : List Pt) : subsB (l.map Pt.pl) = subsB l := by
 unfold subsB
 rw [List.length_map, List.flatMap_map]; rfl
theorem enB_pl (e : En) : enB e.pl = enB e := by
 unfold enB
 rw [show e.pl.subs = e.subs.map Pt.pl from rfl, subsB_pl]; rfl
/-! ### Readings, whatever the state -/
abbrev Rn (α : Type) := Rs → α × Rs
def retR {α : Type} (x : α) : Rn α := fun st => (x, st)
def bindR {α β : Type} (f : Rn α) (g : α → Rn β) : Rn β := fun st => g (f st).1 (f st).2
def manyR {α : Type} (f : Rn α) : Nat → Rn (List α)
 | 0, st => ([], st)
 | n + 1, st => ((manyR f n st).1 ++ [(f (manyR f n st).2).1], (f (manyR f n st).2).2)
def numR : Rn Int := runP 0 numP
def txtR : Rn Bs := runP [] (txtP 4096)
def cntR : Rn Nat := runP 0 (cntP 256)
def rowsR {α : Type} (f : Rn α) : Rn (List α) := bindR cntR (manyR f)
def acR : Rn Ac := bindR numR fun n => bindR txtR fun s => retR (n, s)
def ptR : Rn Pt := bindR numR fun k => bindR txtR fun p => bindR txtR fun d => bindR (rowsR acR) fun l => bindR numR fun o => bindR numR fun n => bindR numR fun x => retR ⟨k, p, d, nilV, l, o, n, x, nilV⟩
def enR : Rn En := bindR numR fun z => bindR numR fun s => bindR numR fun x => bindR ptR fun y => bindR (rowsR ptR) fun l => retR ⟨z, s, x, y, l⟩
def getR (x : En × Rs) : Option En := match x with
 | (q, some []) => some q
 | _ => none
def getZ (s : Bs) : Option En := getR (enR (some s))
def Strict {α : Type} (f : Rn α) : Prop := (f none).2 = none
theorem Strict.ret {α : Type} (x : α) : Strict (retR x) := rfl
theorem Strict.run {α : Type} (d : α) (p : Pa α) : Strict (runP d p) := rfl
theorem Strict.bind {α β : Type} {f : Rn α} {g : α → Rn β} (hf : Strict f) (hg : ∀ x, Strict (g x)) : Strict (bindR f g) := by
 unfold Strict bindR
 rw [hf]; exact hg _
theorem Strict.many {α : Type} {f : Rn α} (hf : Strict f) : ∀ n, Strict (manyR f n)
 | 0 => rfl
 | n + 1 => by
  have h := Strict.many hf n
  unfold Strict at h ⊢
  show (f (manyR f n none).2).2 = none
  rw [h]; exact hf
theorem Strict.rows {α : Type} {f : Rn α} (hf : Strict f) : Strict (rowsR f) := .bind (.run _ _) (.many hf)
theorem strict_ac : Strict acR := .bind (.run _ _) fun _ => .bind (.run _ _) fun _ => .ret _
theorem strict_pt : Strict ptR := .bind (.run _ _) fun _ => .bind (.run _ _) fun _ => .bind (.run _ _) fun _ => .bind (.rows strict_ac) fun _ => .bind (.run _ _) fun _ => .bind (.run _ _) fun _ => .bind (.run _ _) fun _ => .ret _
def BackR {α : Type} (f : Rn α) (b : Bs) (x : α) : Prop := ∀ r, f (some (b ++ r)) = (x, some r) ∨ (f (some (b ++ r))).2 = none
theorem BackR.bind {α β : Type} {f : Rn α} {g : α → Rn β} {b c : Bs} {x : α} {y : β} (hf : BackR f b x) (hs : ∀ x, Strict (g x)) (hg : BackR (g x) c y) : BackR (bindR f g) (b ++ c) y := by
 intro r
 rw [List.append_assoc]
 rcases hf (c ++ r) with h | h
 ·unfold bindR; rw [h]; exact hg r
 ·right; unfold bindR; rw [h]; exact hs _
theorem BackR.end_ {α β : Type} {f : Rn α} {g : α → β} {b : Bs} {x : α} (hf : BackR f b x) : BackR (bindR f fun x => retR (g x)) b (g x) := by
 intro r
 rcases hf r with h | h
 ·left; unfold bindR retR; rw [h]
 ·right; unfold bindR retR; exact h
theorem back_num {n : Int} (h : I64 n) : BackR numR (numB n) n := fun r => .inl (by unfold numR runP; dsimp only; rw [num_back h])
theorem back_txt {s : Bs} (h : s.length < U64) : BackR txtR (txtB s) s := fun r => by
 unfold txtR runP
 dsimp only
 rcases Nat.lt_or_ge 4096 s.length with g | g
 ·right; rw [txt_over g h]
 ·left; rw [txt_back g (by decide)]
theorem back_cnt {n : Nat} (h : n < U64) : BackR cntR (cntB n) n := fun r => by
 unfold cntR runP
 dsimp only
 rcases Nat.lt_or_ge 256 n with g | g
 ·right; rw [cnt_over g h]
 ·left; rw [cnt_back g (by decide)]
theorem back_many {α : Type} {f : Rn α} {E : α → Bs} (hs : Strict f) {l : List α} (h : ∀ x ∈ l, BackR f (E x) x) : ∀ i, i ≤ l.length → BackR (manyR f i) ((l.take i).flatMap E) (l.take i)
 | 0, _ => by rw [List.take_zero]; exact fun r => .inl rfl
 | i + 1, hi => by
  have ih := back_many hs h i (by omega)
  rw [List.take_succ_eq_append_getElem (by omega), List.flatMap_append]
  intro r
  rw [List.append_assoc]
  have hx := h l[i] (List.getElem_mem (by omega))
  rcases ih ([l[i]].flatMap E ++ r) with g | g
  ·have e : [l[i]].flatMap E = E l[i] := by simp
   rcases hx r with k | k
   ·left
    show ((manyR f i _).1 ++ [(f (manyR f i _).2).1], (f (manyR f i _).2).2) = _
    rw [g, e, k]
   ·right
    show (f (manyR f i _).2).2 = none
    rw [g, e, k]
  ·right
   show (f (manyR f i _).2).2 = none
   rw [g]; exact hs
theorem back_rows {α : Type} {f : Rn α} {E : α → Bs} (hs : Strict f) {l : List α} (hl : l.length < U64) (h : ∀ x ∈ l, BackR f (E x) x) : BackR (rowsR f) (cntB l.length ++ l.flatMap E) l := by
 have := back_many hs h l.length (Nat.le_refl _)
 rw [List.take_length] at this
 exact BackR.bind (back_cnt hl) (fun n => .many hs n) this
/-! ### What may be laid -/
structure AcI (a : Ac) : Prop where
 n : I64 a.1
 s : a.2.length < U64
structure PtI (y : Pt) : Prop where
 kind : I64 y.kind
 own : I64 y.own
 num : I64 y.num
 err : I64 y.err
 path : y.path.length < U64
 data : y.data.length < U64
 many : y.acl.length < U64
 acl : ∀ a ∈ y.acl, AcI a
structure EnI (e : En) : Prop where
 zx : I64 e.zx
 ses : I64 e.ses
 xid : I64 e.xid
 x : PtI e.x
 many : e.subs.length < U64
 subs : ∀ y ∈ e.subs, PtI y
theorem back_ac {a : Ac} (h : AcI a) : BackR acR (acB a) a :=
 BackR.bind (back_num h.n) (fun _ => .bind (.run _ _) fun _ => .ret _) (BackR.end_ (g := fun s => (a.1, s)) (back_txt h.s))
theorem back_pt {y : Pt} (h : PtI y) : BackR ptR (ptB y) y.pl := by
 have e : ptB y = numB y.kind ++ (txtB y.path ++ (txtB y.data ++ (aclB y.acl ++ (numB y.own ++ (numB y.num ++ numB y.err))))) := by
  unfold ptB; simp [List.append_assoc]
 rw [e]
 refine BackR.bind (back_num h.kind) (fun _ => .bind (.run _ _) fun _ => .bind (.run _ _) fun _ => .bind (.rows strict_ac) fun _ => .bind (.run _ _) fun _ => .bind (.run _ _) fun _ => .bind (.run _ _) fun _ => .ret _) (BackR.bind (back_txt h.path) (fun _ => .bind (.run _ _) fun _ => .bind (.rows strict_ac) fun _ => .bind (.run _ _) fun _ => .bind (.run _ _) fun _ => .bind (.run _ _) fun _ => .ret _) (BackR.bind (back_txt h.data) (fun _ => .bind (.rows strict_ac) fun _ => .bind (.run _ _) fun _ => .bind (.run _ _) fun _ => .bind (.run _ _) fun _ => .ret _) (BackR.bind (back_rows strict_ac h.many fun a ha => back_ac (h.acl a ha)) (fun _ => .bind (.run _ _) fun _ => .bind (.run _ _) fun _ => .bind (.run _ _) fun _ => .ret _) (BackR.bind (back_num h.own) (fun _ => .bind (.run _ _) fun _ => .bind (.run _ _) fun _ => .ret _) (BackR.bind (back_num h.num) (fun _ => .bind (.run _ _) fun _ => .ret _) ?_)))))
 exact BackR.end_ (g := fun x => (⟨y.kind, y.path, y.data, nilV, y.acl, y.own, y.num, x, nilV⟩ : Pt)) (back_num h.err)
theorem PtI.pl {y : Pt} (h : PtI y) : PtI y.pl := ⟨h.kind, h.own, h.num, h.err, h.path, h.data, h.many, h.acl⟩
theorem back_en {e : En} (h : EnI e) : BackR enR (enB e) e.pl := by
 have e1 : enB e = numB e.zx ++ (numB e.ses ++ (numB e.xid ++ (ptB e.x ++ (cntB (e.subs.map Pt.pl).length ++ (e.subs.map Pt.pl).flatMap ptB)))) := by
  have : cntB (e.subs.map Pt.pl).length ++ (e.subs.map Pt.pl).flatMap ptB = subsB e.subs := subsB_pl e.subs
  rw [this]
  unfold enB; simp [List.append_assoc]
 rw [e1]
 refine BackR.bind (back_num h.zx) (fun _ => .bind (.run _ _) fun _ => .bind (.run _ _) fun _ => .bind strict_pt fun _ => .bind (.rows strict_pt) fun _ => .ret _) (BackR.bind (back_num h.ses) (fun _ => .bind (.run _ _) fun _ => .bind strict_pt fun _ => .bind (.rows strict_pt) fun _ => .ret _) (BackR.bind (back_num h.xid) (fun _ => .bind strict_pt fun _ => .bind (.rows strict_pt) fun _ => .ret _) (BackR.bind (back_pt h.x) (fun _ => .bind (.rows strict_pt) fun _ => .ret _) (BackR.end_ (g := fun l => (⟨e.zx, e.ses, e.xid, e.x.pl, l⟩ : En)) (back_rows strict_pt (by rw [List.length_map]; exact h.many) fun y hy => ?_)))))
 obtain ⟨z, hz, rfl⟩ := List.mem_map.1 hy
 exact back_pt (h.subs z hz).pl
theorem get_back {e q : En} (h : EnI e) (hg : getZ (enB e) = some q) : q = e.pl := by
 have hb := back_en h []
 rw [List.append_nil] at hb
 unfold getZ at hg
 rcases hb with hb | hb
 ·rw [hb] at hg; exact (Option.some.inj hg).symm
 ·unfold getR at hg
  split at hg
  ·rename_i q' heq
   rw [heq] at hb; cases hb
  ·cases hg
/-! ### What is read was laid so -/
theorem bind_some {α β : Type} {f : Rn α} {g : α → Rn β} (hs : ∀ x, Strict (g x)) {st : Rs} {z : β} {r : Bs} (h : bindR f g st = (z, some r)) : ∃ y s', f st = (y, some s') ∧ g y (some s') = (z, some r) := by
 unfold bindR at h
 cases e : (f st).2 with
 | none =>
  rw [e] at h
  have := hs (f st).1
  unfold Strict at this
  rw [h] at this; cases this
 | some s' =>
  rw [e] at h
  exact ⟨(f st).1, s', by rw [← e], h⟩
theorem num_some {s r : Bs} {n : Int} (h : numR (some s) = (n, some r)) : s = numB n ++ r ∧ I64 n := by
 unfold numR runP at h
 dsimp only at h
 split at h
 ·rename_i x hx
  simp only [Prod.mk.injEq, Option.some.injEq] at h
  obtain ⟨rfl, rfl⟩ := h
  exact num_form hx
 ·cases h
theorem txt_some {s r x : Bs} (h : txtR (some s) = (x, some r)) : s = txtB x ++ r ∧ x.length ≤ 4096 := by
 unfold txtR runP at h
 dsimp only at h
 split at h
 ·rename_i y hy
  simp only [Prod.mk.injEq, Option.some.injEq] at h
  obtain ⟨rfl, rfl⟩ := h
  exact txt_form hy
 ·cases h
theorem cnt_some {s r : Bs} {n : Nat} (h : cntR (some s) = (n, some r)) : s = cntB n ++ r ∧ n ≤ 256 := by
 unfold cntR runP at h
 dsimp only at h
 split at h
 ·rename_i y hy
  simp only [Prod.mk.injEq, Option.some.injEq] at h
  obtain ⟨rfl, rfl⟩ := h
  exact cnt_form hy
 ·cases h
theorem many_some {α : Type} {f : Rn α} {E : α → Bs} {Q : α → Prop} (hs : Strict f) (hf : ∀ s x r, f (some s) = (x, some r) → s = E x ++ r ∧ Q x) : ∀ n s l r, manyR f n (some s) = (l, some r) → s = l.flatMap E ++ r ∧ l.length = n ∧ ∀ x ∈ l, Q x
 | 0, s, l, r, h => by
  simp only [manyR, Prod.mk.injEq, Option.some.injEq] at h
  obtain ⟨rfl, rfl⟩ := h
  exact ⟨rfl, rfl, fun x hx => by cases hx⟩
 | n + 1, s, l, r, h => by
  simp only [manyR, Prod.mk.injEq] at h
  obtain ⟨rfl, h2⟩ := h
  cases e : (manyR f n (some s)).2 with
  | none => rw [e] at h2; unfold Strict at hs; rw [hs] at h2; cases h2
  | some s' =>
   rw [e] at h2
   obtain ⟨h3, h4, h5⟩ := many_some hs hf n s (manyR f n (some s)).1 s' (by rw [← e])
   obtain ⟨h6, h7⟩ := hf s' (f (some s')).1 r (by rw [← h2])
   refine ⟨?_, by simp [h4], fun x hx => ?_⟩
   ·rw [List.flatMap_append, List.append_assoc]
    simp only [List.flatMap_cons, List.flatMap_nil, List.append_nil]
    rw [← h6, ← h3]
   ·rcases List.mem_append.1 hx with hx | hx
    ·exact h5 x hx
    ·rw [List.mem_singleton] at hx; subst hx; exact h7
theorem rows_some {α : Type} {f : Rn α} {E : α → Bs} {Q : α → Prop} (hs : Strict f) (hf : ∀ s x r, f (some s) = (x, some r) → s = E x ++ r ∧ Q x) {s : Bs} {l : List α} {r : Bs} (h : rowsR f (some s) = (l, some r)) : s = cntB l.length ++ l.flatMap E ++ r ∧ l.length ≤ 256 ∧ ∀ x ∈ l, Q x := by
 obtain ⟨n, s', h1, h2⟩ := bind_some (fun n => .many hs n) h
 obtain ⟨h3, h4⟩ := cnt_some h1
 obtain ⟨h5, h6, h7⟩ := many_some hs hf n s' l r h2
 subst h6
 exact ⟨by rw [h3, h5, List.append_assoc], h4, h7⟩
structure PtF (y : Pt) : Prop where
 kind : I64 y.kind
 own : I64 y.own
 num : I64 y.num
 err : I64 y.err
 path : y.path.length ≤ 4096
 data : y.data.length ≤ 4096
 many : y.acl.length ≤ 256
 acl : ∀ a ∈ y.acl, I64 a.1 ∧ a.2.length ≤ 4096
 pl : y.pl = y
structure EnF (e : En) : Prop where
 zx : I64 e.zx
 ses : I64 e.ses
 xid : I64 e.xid
 x : PtF e.x
 many : e.subs.length ≤ 256
 subs : ∀ y ∈ e.subs, PtF y
theorem ac_some (s : Bs) (a : Ac) (r : Bs) (h : acR (some s) = (a, some r)) : s = acB a ++ r ∧ (I64 a.1 ∧ a.2.length ≤ 4096) := by
 obtain ⟨n, s1, h1, h2⟩ := bind_some (fun _ => .bind (.run _ _) fun _ => .ret _) h
 obtain ⟨t, s2, h3, h4⟩ := bind_some (fun _ => .ret _) h2
 simp only [retR, Prod.mk.injEq, Option.some.injEq] at h4
 obtain ⟨rfl, rfl⟩ := h4
 obtain ⟨e1, i1⟩ := num_some h1
 obtain ⟨e2, i2⟩ := txt_some h3
 exact ⟨by rw [e1, e2]; unfold acB; rw [List.append_assoc], i1, i2⟩
theorem pt_some (s : Bs) (y : Pt) (r : Bs) (h : ptR (some s) = (y, some r)) : s = ptB y ++ r ∧ PtF y := by
 obtain ⟨k, s1, h1, h⟩ := bind_some (fun _ => .bind (.run _ _) fun _ => .bind (.run _ _) fun _ => .bind (.rows strict_ac) fun _ => .bind (.run _ _) fun _ => .bind (.run _ _) fun _ => .bind (.run _ _) fun _ => .ret _) h
 obtain ⟨p, s2, h2, h⟩ := bind_some (fun _ => .bind (.run _ _) fun _ => .bind (.rows strict_ac) fun _ => .bind (.run _ _) fun _ => .bind (.run _ _) fun _ => .bind (.run _ _) fun _ => .ret _) h
 obtain ⟨d, s3, h3, h⟩ := bind_some (fun _ => .bind (.rows strict_ac) fun _ => .bind (.run _ _) fun _ => .bind (.run _ _) fun _ => .bind (.run _ _) fun _ => .ret _) h
 obtain ⟨l, s4, h4, h⟩ := bind_some (fun _ => .bind (.run _ _) fun _ => .bind (.run _ _) fun _ => .bind (.run _ _) fun _ => .ret _) h
 obtain ⟨o, s5, h5, h⟩ := bind_some (fun _ => .bind (.run _ _) fun _ => .bind (.run _ _) fun _ => .ret _) h
 obtain ⟨n, s6, h6, h⟩ := bind_some (fun _ => .bind (.run _ _) fun _ => .ret _) h
 obtain ⟨x, s7, h7, h⟩ := bind_some (fun _ => .ret _) h
 simp only [retR, Prod.mk.injEq, Option.some.injEq] at h
 obtain ⟨rfl, rfl⟩ := h
 obtain ⟨e1, i1⟩ := num_some h1
 obtain ⟨e2, i2⟩ := txt_some h2
 obtain ⟨e3, i3⟩ := txt_some h3
 obtain ⟨e4, i4, j4⟩ := rows_some strict_ac ac_some h4
 obtain ⟨e5, i5⟩ := num_some h5
 obtain ⟨e6, i6⟩ := num_some h6
 obtain ⟨e7, i7⟩ := num_some h7
 refine ⟨?_, ⟨i1, i5, i6, i7, i2, i3, i4, j4, rfl⟩⟩
 rw [e1, e2, e3, e4, e5, e6, e7]
 unfold ptB aclB
 simp [List.append_assoc]
theorem en_some {s : Bs} {e : En} {r : Bs} (h : enR (some s) = (e, some r)) : s = enB e ++ r ∧ EnF e := by
 obtain ⟨z, s1, h1, h⟩ := bind_some (fun _ => .bind (.run _ _) fun _ => .bind (.run _ _) fun _ => .bind strict_pt fun _ => .bind (.rows strict_pt) fun _ => .ret _) h
 obtain ⟨n, s2, h2, h⟩ := bind_some (fun _ => .bind (.run _ _) fun _ => .bind strict_pt fun _ => .bind (.rows strict_pt) fun _ => .ret _) h
 obtain ⟨x, s3, h3, h⟩ := bind_some (fun _ => .bind strict_pt fun _ => .bind (.rows strict_pt) fun _ => .ret _) h
 obtain ⟨y, s4, h4, h⟩ := bind_some (fun _ => .bind (.rows strict_pt) fun _ => .ret _) h
 obtain ⟨l, s5, h5, h⟩ := bind_some (fun _ => .ret _) h
 simp only [retR, Prod.mk.injEq, Option.some.injEq] at h
 obtain ⟨rfl, rfl⟩ := h
 obtain ⟨e1, i1⟩ := num_some h1
 obtain ⟨e2, i2⟩ := num_some h2
 obtain ⟨e3, i3⟩ := num_some h3
 obtain ⟨e4, i4⟩ := pt_some _ _ _ h4
 obtain ⟨e5, i5, j5⟩ := rows_some strict_pt pt_some h5
 refine ⟨?_, ⟨i1, i2, i3, i4, i5, j5⟩⟩
 rw [e1, e2, e3, e4, e5]
 unfold enB subsB
 simp [List.append_assoc]
theorem get_form {s : Bs} {q : En} (h : getZ s = some q) : s = enB q ∧ EnF q := by
 unfold getZ getR at h
 split at h
 ·rename_i q' heq
  cases h
  obtain ⟨h1, h2⟩ := en_some heq
  exact ⟨by rw [h1, List.append_nil], h2⟩
 ·cases h
def Pt.wa (y : Pt) (v : Value) : Pt := ⟨y.kind, y.path, y.data, v, y.acl, y.own, y.num, y.err, y.subsV⟩
def Pt.ws (y : Pt) (v : Value) : Pt := ⟨y.kind, y.path, y.data, y.aclV, y.acl, y.own, y.num, y.err, v⟩
def aclR (y : Pt) : HP := slR 210 2 y.aclV y.acl.length (y.acl.flatMap acC)
def subsR (e : En) : HP := slR 36 8 e.x.subsV e.subs.length (e.subs.flatMap ptC)
def entR (e : En) : HP := sep [aclR e.x, subsR e, bigR aclR e.subs]
structure PtW (p : HP) (y : Pt) : Prop where
 i : PtI y
 acl : ∀ h : Hp, p h → rdS 2 h y.aclV y.acl.length (y.acl.flatMap acC)
structure EnW (p : HP) (e : En) : Prop where
 i : EnI e
 acl : ∀ h : Hp, p h → rdS 2 h e.x.aclV e.x.acl.length (e.x.acl.flatMap acC)
 subs : ∀ h : Hp, p h → rdS 8 h e.x.subsV e.subs.length (e.subs.flatMap ptC)
 each : ∀ y ∈ e.subs, ∀ h : Hp, p h → rdS 2 h y.aclV y.acl.length (y.acl.flatMap acC)
theorem EnW.x {p : HP} {e : En} (h : EnW p e) : PtW p e.x := ⟨h.i.x, h.acl⟩
theorem EnW.sub {p : HP} {e : En} (h : EnW p e) {y : Pt} (hy : y ∈ e.subs) : PtW p y := ⟨h.i.subs y hy, h.each y hy⟩
theorem fm_take {α : Type} (f : α → Bs) (l : List α) (j : Nat) : ((l.take j).flatMap f).length ≤ (l.flatMap f).length := by
 conv => rhs; rw [← List.take_append_drop j l]
 rw [List.flatMap_append, List.length_append]; omega
theorem fm_step {α : Type} (f : α → Bs) {l : List α} {j : Nat} (hj : j < l.length) : (l.take (j + 1)).flatMap f = (l.take j).flatMap f ++ f l[j] := by
 rw [List.take_succ_eq_append_getElem hj, List.flatMap_append]; simp
theorem fm_stepL {α : Type} (f : α → Bs) {l : List α} {j : Nat} (hj : j < l.length) : ((l.take j).flatMap f).length + (f l[j]).length ≤ (l.flatMap f).length := by
 have := fm_take f l (j + 1)
 rw [fm_step f hj, List.length_append] at this
 exact this
theorem many_len {α : Type} (f : Rn α) (st : Rs) : ∀ n, (manyR f n st).1.length = n
 | 0 => rfl
 | n + 1 => by show ((manyR f n st).1 ++ [_]).length = n + 1; rw [List.length_append, many_len f st n]; rfl
theorem cntR_le (st : Rs) : (cntR st).1 ≤ 256 := by
 unfold cntR runP
 split
 ·exact Nat.zero_le _
 ·split
  ·rename_i x hx; exact (cnt_form hx).2
  ·exact Nat.zero_le _
theorem one_sep {p : HP} {h : Hp} (hp : p h) : sep [p] h := ⟨h, fun _ => none, fun _ => .inr rfl, fun _ _ e => e, fun _ _ e => (by cases e), hp, trivial⟩
theorem sep_one {b : Nat} {l : List Value} {T : TypeId} {h : Hp} (hp : sep [ptc b l T] h) : ptc b l T h := sep_pt hp
theorem big_one {α : Type} {f : α → HP} {l : List α} {y : α} {h : Hp} (hs : sep [f y, bigR f l] h) : bigR f (l ++ [y]) h :=
 big_perm (List.perm_append_comm (l₁ := [y])) (big_of_cons hs)
section
variable {P : Program} {W : World} {n : Nat} {ds : List Deferred} {E : Env} {L R : List HP} {X : Act → World → Prop} {ty : TypeId}
theorem G.bigAdd {α : Type} {f : α → HP} {l : List α} (y : α) {p : HP} (hp : p = f y) (hL : Picks [p, bigR f l] L R) (h : G W n ds E (bigR f (l ++ [y]) :: R) X) : G W n ds E L X := by
 subst hp
 exact G.fold hL (fun w hw => big_one hw) h
theorem G.wrCast {w : Nat} {bs bs' : Bs} (hL : Pick (wrR w bs) L R) (hb : bs = bs') (h : G W n ds E (wrR w bs' :: R) X) : G W n ds E L X := by
 subst hb; exact G.perm hL.perm h
theorem OpSpec.inL {o : Oper} {p p' q : HP} (h : OpSpec P o E [p] fun _ L' => L' = [p']) : OpSpec P o E [sep [p, q]] fun _ L' => L' = [sep [p', q]] := by
 intro ρ w F ha hs
 have hs' : St ([p] ++ ([q] ++ F)) w := sep_flat (L1 := [p, q]) hs
 refine (h ρ w _ ha hs').mono ?_
 rintro v w' ⟨L', rfl, hs2, hk⟩
 exact ⟨_, rfl, sep_fold (L1 := [p', q]) hs2, hk⟩
theorem OpSpec.inR {o : Oper} {p q q' : HP} (h : OpSpec P o E [q] fun _ L' => L' = [q']) : OpSpec P o E [sep [p, q]] fun _ L' => L' = [sep [p, q']] := by
 intro ρ w F ha hs
 have hs1 : St (p :: q :: F) w := sep_flat (L1 := [p, q]) hs
 have hs' : St ([q] ++ ([p] ++ F)) w := sep_swap hs1
 refine (h ρ w _ ha hs').mono ?_
 rintro v w' ⟨L', rfl, hs2, hk⟩
 exact ⟨_, rfl, sep_fold (L1 := [p, q']) (sep_swap hs2), hk⟩
end
def addrV (a : Nat × Nat) : Value := .pointer (some ⟨a.1, a.2, none⟩)
theorem wnums_spec (w : Nat) (bs : Bs) (va : Value) (ns : List Int) (p : HP) (hp : ∀ h : Hp, p h → rdS 1 h va ns.length (ints ns)) (hi : ∀ n ∈ ns, I64 n) (hl : bs.length + (ns.flatMap numB).length ≤ 4294900000) (hn : ns.length ≤ 1048576) : Fn Tryz.prog 189 #[vptr w, va] [wrR w bs, p] fun v L => v = .tuple #[] ∧ L = [wrR w (bs ++ ns.flatMap numB), p] := by
 refine Fn.intro Tryz.func189 rfl rfl fun F W => ?_
 refine .rdAny (p := p) hp (by repeat' constructor) fun aa ca e0 _ => ?_
 subst e0
 refine .sm rfl (.q (.slen rfl Tryz.underlying31 rfl) rfl (.m rfl (.nt (.block (.wrCast (w := w) (bs' := bs ++ (ns.take 0).flatMap numB) (by repeat' constructor) (by simp) (.loopK (ι := Nat) (fun q E => (8, vint q) :: E) (fun q => [wrR w (bs ++ (ns.take q).flatMap numB)]) (fun q => q ≤ ns.length) (fun q => ns.length - q) (0) (ts := [0, 6, 7]) (.cons rfl (.cons rfl (.cons rfl (.nil)))) (Nat.zero_le _) ⟨rfl, rfl, rfl, rfl, trivial⟩ (by repeat' constructor) ?_))))))
 rintro j hj
 refine .sr (.ui rfl rfl rfl (.nt (.seq (.condD rfl (fun h9 => ?_) (fun h9 => ?_)))))
 ·have hj2 : j < ns.length := by omega
  have hft := fm_take numB ns j
  refine .rdShape (p := p) hp (by repeat' constructor) (by omega) fun ba oa e => ?_
  subst e
  refine .sk (.seq (.block (.sr (.q (.indexAddr rfl rfl el_31 (by omega)) rfl (.q (.loadEl (p := p) (i := j * 1) (v := vint ns[j]) rfl ag_3 (by repeat' constructor) hp (by simp [hj2])) rfl (.an rfl (.region (.m rfl (.m rfl (.oq (.c Tryz.func102 [_, _] (cnum_spec w _ ns[j] (hi _ (List.getElem_mem hj2)) ?hb8)) ?_))))))))))
  case hb8 => rw [List.length_append]; omega
  rintro v L' ⟨rfl, rfl⟩
  refine .nil (.blk_n (.then_n (.region (.q (.add rfl rfl (by omega)) rfl (.m rfl (.nt (.wrCast (w := w) (bs' := bs ++ (ns.take (j + 1)).flatMap numB) (by repeat' constructor) (by rw [fm_step numB hj2, List.append_assoc]) ?_)))))))
  exact .rk (j + 1) (by omega) (by omega) ⟨rfl, rfl, rfl, rfl, trivial⟩
 have hjj : j = ns.length := by omega
 rw [hjj, List.take_length]
 refine .exit (.then_e (.then_e (.blk_e (.done_n ?_))))
 exact .vv
theorem wacl_spec (w : Nat) (bs : Bs) (a : Ac) (hi : AcI a) (hl : bs.length + (acB a).length ≤ 4294900000) : Fn Tryz.prog 211 #[vptr w, .agg (acC a).toArray] [wrR w bs] fun v L => v = .tuple #[] ∧ L = [wrR w (bs ++ acB a)] := by
 refine Fn.intro Tryz.func211 rfl rfl fun F W => ?_
 have hab : (acB a).length = (numB a.1).length + ((cntB a.2.length).length + a.2.length) := by unfold acB txtB; simp
 refine .sr (.oq (.box rfl) ?_)
 rintro v L' ⟨b3, rfl, rfl⟩
 refine .nil (.ptCast (b := b3) (l' := acC a) (by repeat' constructor) rfl (.then_n (.sm rfl (.u (.fieldAddr rfl fo_210_0) (.u (.ld rfl ag_3) (.cv Tryz.func102 [_, _] (cnum_spec w bs a.1 hi.n (by omega)) ?_))))))
 refine .nt (.region (.m rfl (.u (.fieldAddr rfl fo_210_1) (.u (.ld rfl ag_9) (.oq (.c Tryz.func209 [_, _] (ctext_spec w _ a.2 ?hb11)) ?_)))))
 case hb11 => rw [List.length_append]; omega
 rintro v L' ⟨rfl, rfl⟩
 refine .nil (.done_n (.wrCast (w := w) (bs' := bs ++ acB a) (by repeat' constructor) (by unfold acB; rw [List.append_assoc]) ?_))
 exact .vv
theorem wacls_spec (w : Nat) (bs : Bs) (va : Value) (l : List Ac) (p : HP) (hp : ∀ h : Hp, p h → rdS 2 h va l.length (l.flatMap acC)) (hi : ∀ a ∈ l, AcI a) (hl : bs.length + (cntB l.length ++ l.flatMap acB).length ≤ 4294900000) (hn : l.length ≤ 1048576) : Fn Tryz.prog 210 #[vptr w, va, .func (.func 211) #[] #[]] [wrR w bs, p] fun v L => v = .tuple #[] ∧ L = [wrR w (bs ++ (cntB l.length ++ l.flatMap acB)), p] := by
 refine Fn.intro Tryz.func210 rfl rfl fun F W => ?_
 refine .rdAny (p := p) hp (by repeat' constructor) fun aa ca e0 _ => ?_
 subst e0
 rw [List.length_append] at hl
 refine .sm rfl (.m rfl (.q (.slen rfl Tryz.underlying33 rfl) rfl (.cv Tryz.func103 [_, _] (ccount_spec w bs l.length (by omega) (by omega)) ?_)))
 refine .nt (.sm rfl (.q (.slen rfl Tryz.underlying33 rfl) rfl (.m rfl (.nt (.block (.wrCast (w := w) (bs' := bs ++ cntB l.length ++ (l.take 0).flatMap acB) (by repeat' constructor) (by simp) (.loopK (ι := Nat) (fun q E => (14, vint q) :: E) (fun q => [wrR w (bs ++ cntB l.length ++ (l.take q).flatMap acB)]) (fun q => q ≤ l.length) (fun q => l.length - q) (0) (ts := [0, 2, 12, 13]) (.cons rfl (.cons rfl (.cons rfl (.cons rfl (.nil))))) (Nat.zero_le _) ⟨rfl, rfl, rfl, rfl, rfl, trivial⟩ (by repeat' constructor) ?_)))))))
 rintro j hj
 refine .sr (.ui rfl rfl rfl (.nt (.seq (.condD rfl (fun h15 => ?_) (fun h15 => ?_)))))
 ·have hj2 : j < l.length := by omega
  have hft := fm_stepL acB hj2
  refine .rdShape (p := p) hp (by repeat' constructor) (by omega) fun ba oa e => ?_
  subst e
  refine .sk (.seq (.block (.sr (.q (.indexAddr rfl rfl el_33 (by omega)) rfl (.q (.loadRdA (sz := 2) (j := j * 2) (k := 2) (p := p) (vs := acC l[j]) rfl ag_210 (by repeat' constructor) hp (by simp) (by omega) (by omega) (flatMap_at (f := acC) (sz := 2) (fun _ _ => rfl) (by omega))) rfl (.oq (.allocA ze_210) ?_))))))
  rintro v L' ⟨b7, rfl, rfl⟩
  refine .oq (.storeA rfl rfl ?c14 sz_210 ?c17 ?c15 (nfz0 _ _)) ?_
  case c14 => simp [acC, isCell]
  case c17 => rfl
  case c15 => simp [acC]
  rintro v L' rfl
  refine .nil (.ptCast (b := b7) (l' := acC l[j]) (by repeat' constructor) (by exact rfl) (.then_n (.region (.m rfl (.m rfl (.q (.loadAs (vs := acC l[j]) rfl ag_210 (by repeat' constructor) (by simp [acC]) rfl) rfl (.oq (.callV Tryz.func211 rfl rfl (us := []) (vs := [_, _]) (ws := []) rfl rfl (wacl_spec w _ l[j] (hi _ (List.getElem_mem hj2)) ?hb22)) ?_)))))))
  case hb22 => rw [List.length_append, List.length_append]; omega
  rintro v L' ⟨rfl, rfl⟩
  refine .nil (.blk_n (.then_n (.region (.q (.add rfl rfl (by omega)) rfl (.m rfl (.nt (.wrCast (w := w) (bs' := bs ++ cntB l.length ++ (l.take (j + 1)).flatMap acB) (by repeat' constructor) (by rw [fm_step acB hj2, ← List.append_assoc]) ?_)))))))
  exact .rk (j + 1) (by omega) (by omega) ⟨rfl, rfl, rfl, rfl, rfl, trivial⟩
 have hjj : j = l.length := by omega
 rw [hjj, List.take_length, List.append_assoc]
 refine .exit (.then_e (.then_e (.blk_e (.done_n ?_))))
 exact .vv
theorem ptB_len (y : Pt) : (ptB y).length = (numB y.kind).length + ((cntB y.path.length).length + y.path.length) + ((cntB y.data.length).length + y.data.length) + (aclB y.acl).length + ([y.own, y.num, y.err].flatMap numB).length := by unfold ptB txtB; simp only [List.length_append]
theorem wpart_spec (w : Nat) (bs : Bs) (y : Pt) (p : HP) (hy : PtW p y) (hl : bs.length + (ptB y).length ≤ 4294900000) (hn : y.acl.length ≤ 1048576) : Fn Tryz.prog 190 #[vptr w, .agg (ptC y).toArray] [wrR w bs, p] fun v L => v = .tuple #[] ∧ L = [wrR w (bs ++ ptB y), p] := by
 refine Fn.intro Tryz.func190 rfl rfl fun F W => ?_
 have hpl := ptB_len y
 have hal : (cntB y.acl.length ++ y.acl.flatMap acB).length = (aclB y.acl).length := rfl
 have hiy := hy.i
 refine .sr (.oq (.box rfl) ?_)
 rintro v L' ⟨b3, rfl, rfl⟩
 refine .nil (.ptCast (b := b3) (l' := ptC y) (by repeat' constructor) rfl (.then_n (.sm rfl (.u (.fieldAddr rfl fo_36_0) (.u (.ld rfl ag_3) (.cv Tryz.func102 [_, _] (cnum_spec w bs y.kind hiy.kind (by omega)) ?_))))))
 refine .nt (.sm rfl (.u (.fieldAddr rfl fo_36_1) (.u (.ld rfl ag_9) (.oq (.c Tryz.func209 [_, _] (ctext_spec w _ y.path ?hb11)) ?_))))
 case hb11 => rw [List.length_append]; omega
 rintro v L' ⟨rfl, rfl⟩
 refine .nt (.sm rfl (.u (.fieldAddr rfl fo_36_2) (.u (.ld rfl ag_9) (.oq (.c Tryz.func209 [_, _] (ctext_spec w _ y.data ?hb17)) ?_))))
 case hb17 => simp only [List.length_append, txtB]; omega
 rintro v L' ⟨rfl, rfl⟩
 refine .nt (.sm rfl (.u (.fieldAddr rfl fo_36_3) (.u (.ld rfl ag_33) (.oq (.c Tryz.func210 [_, _, _] (wacls_spec w _ _ y.acl p hy.acl hiy.acl ?hb23 hn)) ?_))))
 case hb23 => rw [hal]; simp only [List.length_append, txtB]; omega
 rintro v L' ⟨rfl, rfl⟩
 refine .nt (.region (.m rfl (.u (.fieldAddr rfl fo_36_4) (.u (.ld rfl ag_3) (.u (.fieldAddr rfl fo_36_5) (.u (.ld rfl ag_3) (.u (.fieldAddr rfl fo_36_6) (.u (.ld rfl ag_25) (.oq (.buildSlice1 (vs := [_, _, _]) el_31 ze_3 rfl rfl rfl rfl rfl (by decide)) ?_)))))))))
 rintro v L' ⟨b5, rfl, rfl⟩
 refine .slMake (b := b5) (n := 3) (c := 3) (xs := ints [y.own, y.num, y.err]) (by repeat' constructor) (by decide) (by simp) rfl (.oq (.c Tryz.func189 [_, _] (wnums_spec w _ _ [y.own, y.num, y.err] (slR 3 1 (.slice (some ⟨b5, 0, none⟩) 3 3) 3 (ints [y.own, y.num, y.err])) (fun h hp => slR_rd hp) (fun n hn => by simp only [List.mem_cons, List.not_mem_nil, or_false] at hn; rcases hn with rfl | rfl | rfl; exact hiy.own; exact hiy.num; exact hiy.err) ?hb35 (by simp))) ?_)
 case hb35 => have h9 : (cntB y.acl.length ++ y.acl.flatMap acB).length = (aclB y.acl).length := rfl; simp only [List.length_append, txtB] at h9 ⊢; omega
 rintro v L' ⟨rfl, rfl⟩
 refine .nil (.done_n (.wrCast (w := w) (bs' := bs ++ ptB y) (by repeat' constructor) (by unfold ptB aclB; simp only [List.append_assoc]) ?_))
 exact .vv
theorem wparts_spec (w : Nat) (bs : Bs) (va : Value) (l : List Pt) (p : HP) (hp : ∀ h : Hp, p h → rdS 8 h va l.length (l.flatMap ptC)) (hi : ∀ y ∈ l, PtW p y ∧ y.acl.length ≤ 1048576) (hl : bs.length + (cntB l.length ++ l.flatMap ptB).length ≤ 4294900000) (hn : l.length ≤ 1048576) (hcl : ∀ y ∈ l, ∀ v ∈ ptC y, isCell v = true) : Fn Tryz.prog 191 #[vptr w, va, .func (.func 190) #[] #[]] [wrR w bs, p] fun v L => v = .tuple #[] ∧ L = [wrR w (bs ++ (cntB l.length ++ l.flatMap ptB)), p] := by
 refine Fn.intro Tryz.func191 rfl rfl fun F W => ?_
 refine .rdAny (p := p) hp (by repeat' constructor) fun aa ca e0 _ => ?_
 subst e0
 rw [List.length_append] at hl
 refine .sm rfl (.m rfl (.q (.slen rfl Tryz.underlying34 rfl) rfl (.cv Tryz.func103 [_, _] (ccount_spec w bs l.length (by omega) (by omega)) ?_)))
 refine .nt (.sm rfl (.q (.slen rfl Tryz.underlying34 rfl) rfl (.m rfl (.nt (.block (.wrCast (w := w) (bs' := bs ++ cntB l.length ++ (l.take 0).flatMap ptB) (by repeat' constructor) (by simp) (.loopK (ι := Nat) (fun q E => (14, vint q) :: E) (fun q => [wrR w (bs ++ cntB l.length ++ (l.take q).flatMap ptB)]) (fun q => q ≤ l.length) (fun q => l.length - q) (0) (ts := [0, 2, 12, 13]) (.cons rfl (.cons rfl (.cons rfl (.cons rfl (.nil))))) (Nat.zero_le _) ⟨rfl, rfl, rfl, rfl, rfl, trivial⟩ (by repeat' constructor) ?_)))))))
 rintro j hj
 refine .sr (.ui rfl rfl rfl (.nt (.seq (.condD rfl (fun h15 => ?_) (fun h15 => ?_)))))
 ·have hj2 : j < l.length := by omega
  have hft := fm_stepL ptB hj2
  refine .rdShape (p := p) hp (by repeat' constructor) (by omega) fun ba oa e => ?_
  subst e
  refine .sk (.seq (.block (.sr (.q (.indexAddr rfl rfl el_34 (by omega)) rfl (.q (.loadRdA (sz := 8) (j := j * 8) (k := 8) (p := p) (vs := ptC l[j]) rfl ag_36 (by repeat' constructor) hp (by simp) (by omega) (by omega) (flatMap_at (f := ptC) (sz := 8) (fun _ _ => rfl) (by omega))) rfl (.oq (.allocA ze_36) ?_))))))
  rintro v L' ⟨b7, rfl, rfl⟩
  refine .oq (.storeA rfl rfl ?c14 sz_36 ?c17 ?c15 (nfz0 _ _)) ?_
  case c14 => exact hcl _ (List.getElem_mem hj2)
  case c17 => rfl
  case c15 => simp [ptC]
  rintro v L' rfl
  refine .nil (.ptCast (b := b7) (l' := ptC l[j]) (by repeat' constructor) (by exact rfl) (.then_n (.region (.m rfl (.m rfl (.q (.loadAs (vs := ptC l[j]) rfl ag_36 (by repeat' constructor) (by simp [ptC]) rfl) rfl (.oq (.callV Tryz.func190 rfl rfl (us := []) (vs := [_, _]) (ws := []) rfl rfl (wpart_spec w _ l[j] p (hi _ (List.getElem_mem hj2)).1 ?hb22 (hi _ (List.getElem_mem hj2)).2)) ?_)))))))
  case hb22 => rw [List.length_append, List.length_append]; omega
  rintro v L' ⟨rfl, rfl⟩
  refine .nil (.blk_n (.then_n (.region (.q (.add rfl rfl (by omega)) rfl (.m rfl (.nt (.wrCast (w := w) (bs' := bs ++ cntB l.length ++ (l.take (j + 1)).flatMap ptB) (by repeat' constructor) (by rw [fm_step ptB hj2, ← List.append_assoc]) ?_)))))))
  exact .rk (j + 1) (by omega) (by omega) ⟨rfl, rfl, rfl, rfl, rfl, trivial⟩
 have hjj : j = l.length := by omega
 rw [hjj, List.take_length, List.append_assoc]
 refine .exit (.then_e (.then_e (.blk_e (.done_n ?_))))
 exact .vv
theorem enB_len (e : En) : (enB e).length = ([e.zx, e.ses, e.xid].flatMap numB).length + (ptB e.x).length + (subsB e.subs).length := by unfold enB; simp only [List.length_append]
theorem pt_cells {y : Pt} (h1 : isCell y.aclV = true) (h2 : isCell y.subsV = true) : ∀ v ∈ ptC y, isCell v = true := by
 intro v hv
 simp only [ptC, List.mem_cons, List.not_mem_nil, or_false] at hv
 rcases hv with rfl | rfl | rfl | rfl | rfl | rfl | rfl | rfl
 case inr.inr.inr.inl => exact h1
 case inr.inr.inr.inr.inr.inr.inr => exact h2
 all_goals rfl
structure EnL (p : HP) (e : En) : Prop where
 w : EnW p e
 len : (enB e).length ≤ 1073741824
 few : e.subs.length ≤ 1048576 ∧ e.x.acl.length ≤ 1048576 ∧ ∀ y ∈ e.subs, y.acl.length ≤ 1048576
 cx : isCell e.x.aclV = true ∧ isCell e.x.subsV = true
 cs : ∀ y ∈ e.subs, isCell y.aclV = true ∧ isCell y.subsV = true
theorem EnL.cells {p : HP} {e : En} (h : EnL p e) : ∀ v ∈ enC e, isCell v = true := by
 intro v hv
 unfold enC at hv
 rcases List.mem_append.1 hv with hv | hv
 ·simp at hv; rcases hv with rfl | rfl | rfl <;> rfl
 ·exact pt_cells h.cx.1 h.cx.2 v hv
theorem wentry_spec (w : Nat) (e : En) (p : HP) (he : EnL p e) : Fn Tryz.prog 155 #[vptr w, .agg (enC e).toArray] [wrR w [], p] fun v L => v = .tuple #[] ∧ L = [wrR w (enB e), p] := by
 refine Fn.intro Tryz.func155 rfl rfl fun F W => ?_
 have hel := enB_len e
 have hle := he.len
 have hie := he.w.i
 have hsb : (cntB e.subs.length ++ e.subs.flatMap ptB).length = (subsB e.subs).length := rfl
 refine .sr (.oq (.box rfl) ?_)
 rintro v L' ⟨b3, rfl, rfl⟩
 refine .nil (.ptCast (b := b3) (l' := enC e) (by repeat' constructor) (by exact rfl) (.then_n (.sm rfl (.u (.fieldAddr rfl fo_38_0) (.u (.ld rfl ag_3) (.u (.fieldAddr rfl fo_38_1) (.u (.ld rfl ag_3) (.u (.fieldAddr rfl fo_38_2) (.u (.ld rfl ag_3) (.oq (.buildSlice1 (vs := [_, _, _]) el_31 ze_3 rfl rfl rfl rfl rfl (by decide)) ?_))))))))))
 rintro v L' ⟨b4, rfl, rfl⟩
 refine .slMake (b := b4) (n := 3) (c := 3) (xs := ints [e.zx, e.ses, e.xid]) (by repeat' constructor) (by decide) (by simp) rfl (.oq (.c Tryz.func189 [_, _] (wnums_spec w [] _ [e.zx, e.ses, e.xid] (slR 3 1 (.slice (some ⟨b4, 0, none⟩) 3 3) 3 (ints [e.zx, e.ses, e.xid])) (fun h hp => slR_rd hp) (fun n hn => by simp only [List.mem_cons, List.not_mem_nil, or_false] at hn; rcases hn with rfl | rfl | rfl; exact hie.zx; exact hie.ses; exact hie.xid) (by simp only [List.length_nil]; omega) (by simp))) ?_)
 rintro v L' ⟨rfl, rfl⟩; rw [List.nil_append]
 refine .nt (.sm rfl (.u (.fieldAddr rfl fo_38_3) (.q (.loadAs (vs := ptC e.x) rfl ag_36 (by repeat' constructor) (by simp [enC, ptC]) rfl) rfl (.oq (.c Tryz.func190 [_, _] (wpart_spec w _ e.x p he.w.x ?hb17 he.few.2.1)) ?_))))
 case hb17 => omega
 rintro v L' ⟨rfl, rfl⟩
 refine .nt (.region (.m rfl (.u (.fieldAddr rfl fo_38_3) (.u (.fieldAddr rfl fo_36_7) (.u (.ld rfl ag_34) (.oq (.c Tryz.func191 [_, _, _] (wparts_spec w _ _ e.subs p he.w.subs (fun y hy => ⟨he.w.sub hy, he.few.2.2 y hy⟩) ?hb24 he.few.1 (fun y hy => pt_cells (he.cs y hy).1 (he.cs y hy).2))) ?_))))))
 case hb24 => rw [hsb, List.length_append]; omega
 rintro v L' ⟨rfl, rfl⟩
 refine .nil (.done_n (.wrCast (w := w) (bs' := enB e) (by repeat' constructor) (by unfold enB subsB; simp only [List.append_assoc]) ?_))
 exact .vv
end Go.Proofs.YtidjhgbdokcphaaGreat
