/- Own work, some of it printed by program, texts that were built one by one: a part of the proof of followPlays.proved. -/
import Derived.Test.YteebpmkkdlabpaaGreatCFPlaysP2
import Derived.Test.YteebpmkkdlabpaaGreatCFPlaysP1
import Derived.Shelf.Slices.CompactI
import Derived.Ground.Names2Prog
import Derived.Test.YteebpmkkdlabpaaGreatProg
set_option maxRecDepth 100000
namespace Go.Proofs.YteebpmkkdlabpaaGreat
open Go
theorem sealX_two {δ : Dk} {ω : Wl} {ar : Int} {l : List Bs} (h : (sealZ δ ω ar l).2.2 = 2) : dbt (sealZ δ ω ar l) = ((sealZ δ ω ar l).1, { ω with doubt := true }, 2) := by
 have e : (sealZ δ ω ar l).2.1 = ω := by
  unfold sealZ at h ⊢
  split
  ·rfl
  ·rename_i h1
   rw [if_neg h1] at h
   split
   ·rfl
   ·rename_i h2; rw [if_neg h2] at h; exact absurd h (by show ¬ (0 : Int) = 2; decide)
 unfold dbt
 rw [if_pos h, e, h]
theorem sealX_nil {δ : Dk} {ω : Wl} {ar : Int} {l : List Bs} (h : (sealZ δ ω ar l).2.2 = 0) : dbt (sealZ δ ω ar l) = ((sealZ δ ω ar l).1, { ω with recs := l, synced := l.length, area := ar, count := ω.count + 1 }, 0) := by
 have e : (sealZ δ ω ar l).2.1 = { ω with recs := l, synced := l.length, area := ar, count := ω.count + 1 } := by
  unfold sealZ at h ⊢
  split
  ·rename_i h1; rw [if_pos h1] at h; exact absurd h (by show ¬ (2 : Int) = 0; decide)
  ·rename_i h1
   rw [if_neg h1] at h
   split
   ·rename_i h2; rw [if_pos h2] at h; exact absurd h (by show ¬ (2 : Int) = 0; decide)
   ·rfl
 unfold dbt
 rw [if_neg (by rw [h]; decide)]
 exact Prod.ext rfl (Prod.ext e h)
theorem laidZ_six (l : List Bs) : 6 * l.length ≤ (laidZ l).length := by
 induction l with
 | nil => simp
 | cons x l ih =>
  have e : laidZ (x :: l) = recZ x ++ laidZ l := by simp [laidZ]
  rw [e, List.length_append, recZ_len, List.length_cons]; omega
theorem next_s1 {δ : Dk} {m : Mk} (h : ¬ (δ.write (m.count % 2) m.sec).2 = 0) : nextZ δ m = ((δ.write (m.count % 2) m.sec).1, 2) := by unfold nextZ; rw [if_pos h]
theorem next_s2 {δ : Dk} {m : Mk} (h : (δ.write (m.count % 2) m.sec).2 = 0) (h2 : ¬ (δ.write (m.count % 2) m.sec).1.sync.2 = 0) : nextZ δ m = ((δ.write (m.count % 2) m.sec).1.sync.1, 2) := by unfold nextZ; rw [if_neg (fun g => g h), if_pos h2]
theorem next_s3 {δ : Dk} {m : Mk} (h : (δ.write (m.count % 2) m.sec).2 = 0) (h2 : (δ.write (m.count % 2) m.sec).1.sync.2 = 0) : nextZ δ m = ((δ.write (m.count % 2) m.sec).1.sync.1, 0) := by unfold nextZ; rw [if_neg (fun g => g h), if_neg (fun g => g h2)]
theorem layX_two {δ : Dk} {ω : Wl} {ar : Int} {s : Bs} {k : Nat} (h : ¬ (layZ δ ar s k).2 = 0) : dbt ((layZ δ ar s k).1, ω, (layZ δ ar s k).2) = ((layZ δ ar s k).1, { ω with doubt := true }, 2) := by
 have e := (layZ_err δ ar s k).resolve_left h
 unfold dbt; rw [e]; rfl
theorem rappend_spec (y x : Nat) (ω : Wl) (δ : Dk) (s : Bs) (hI : WlI δ ω) (hsl : s.length ≤ 2147483648) : Fn Tryz.prog 88 #[vptr y, vstr s] [rlR y x ω, dsR x δ] fun v L => v = vint (appendZ δ ω s).2.2 ∧ L = [rlR y x (appendZ δ ω s).2.1, dsR x (appendZ δ ω s).1] := by
 refine Fn.intro Tryz.func88 rfl rfl fun F W => ?_
 refine .rlOpen (ω := ω) (by repeat' constructor) fun vr => (.slAny (v := vr) (by repeat' constructor) fun arr crr e hsl => ?_)
 subst e
 refine .slAddr (by repeat' constructor) fun hcap hra => ?_
 have hfi := hI.fits
 have hn := hI.size
 have hhl := half_le hI.size
 have hlm := laidZ_many ω.recs
 have hac := hI.acts
 have hct := hI.count
 have har := hI.area
 have hsy := hI.synced
 refine .sr (.an rfl (.seq (.sm rfl (.nf rfl fo_185_7 (.u (.ld rfl ag_4) (.nt (.condB rfl (fun h9 => ?_) (fun h9 => ?_))))))))
 ·refine .sr (.an rfl (.rt ?_))
  have hr : appendZ δ ω s = (δ, ω, 34) := by unfold appendZ; rw [if_pos h9]
  rw [hr]
  refine .rl (y := y) (x := x) (ω := ω) (v := (.slice arr ω.recs.length crr)) ?_
  exact .vv
 refine .sk (.seq (.sm rfl (.q (.strlen rfl Tryz.underlying9 rfl) rfl (.ui rfl rfl rfl (.nt (.condD rfl (fun h12 => ?_) (fun h12 => ?_)))))))
 ·refine .sr (.an rfl (.rt ?_))
  have hr : appendZ δ ω s = (δ, ω, 33) := by unfold appendZ; rw [if_neg (by rw [h9]; decide), if_pos (by omega)]
  rw [hr]
  refine .rl (y := y) (x := x) (ω := ω) (v := (.slice arr ω.recs.length crr)) ?_
  exact .vv
 refine .sk (.sm rfl (.nf rfl fo_185_1 (.u (.ld rfl ag_39) (.oq (.call Tryz.func143 rfl rfl (vs := [_]) rfl (rsize_spec _ ω.recs (strR (.slice arr ω.recs.length crr) ω.recs) (fun h hp => slR_rd hp) (by omega))) ?_))))
 rintro v L' ⟨rfl, rfl⟩
 refine .an rfl (.seq (.sm rfl (.m rfl (.q (.strlen rfl Tryz.underlying9 rfl) rfl (.q (.add rfl rfl (by omega)) rfl (.q (.add rfl rfl (by omega)) rfl (.m rfl (.nf rfl fo_185_0 (.u (.ld rfl ag_26) (.cv Tryz.func144 [_] (dshalf_spec x δ hn) ?_))))))))))
 refine .q (.mul rfl rfl (by omega)) rfl (.ui rfl rfl rfl (.nt (.condD rfl (fun h29 => ?_) (fun h29 => ?_))))
 ·refine .sr (.an rfl (.rt ?_))
  have hr : appendZ δ ω s = (δ, ω, 30) := by unfold appendZ; rw [if_neg (by rw [h9]; decide), if_neg (by omega), if_pos (by omega)]
  rw [hr]
  refine .rl (y := y) (x := x) (ω := ω) (v := (.slice arr ω.recs.length crr)) ?_
  exact .vv
 have hrl : (laidZ ω.recs ++ recZ s).length = (laidZ ω.recs).length + s.length + 6 := by rw [List.length_append, recZ_len]; omega
 refine .sk (.seq (.seq (.draw [17] [[0, 1, 2, 3, 4, 5, 6, 7, 8, 9, 10, 11, 12, 13, 14, 15, 16, 17], [18]] mixed (by kernel_rfl) (.go [lc y x ((.slice arr ω.recs.length crr)) (ω.synced) (ω.area) (ω.count) (ω.a) (ω.b) (ω.doubt), strR (.slice arr ω.recs.length crr) ω.recs] (by repeat' constructor) (.mv rfl rfl (.nf rfl rfl rfl fo_185_0 (.kv rfl (.ld rfl ag_26) (.mv rfl rfl (.nf rfl rfl rfl fo_185_3 (.kv rfl (.ld rfl ag_3) (.mv rfl rfl (.nf rfl rfl rfl fo_185_1 (.kv rfl (.ld rfl ag_39) (.m rfl (by kernel_rfl) (.call Tryz.func146 rfl rfl (vs := [_]) rfl (rall_spec _ ω.recs (strR (.slice arr ω.recs.length crr) ω.recs) (fun h hp => slR_rd hp) (by omega))) (by repeat' constructor) ?_))))))))))))))
 refine D.mv rfl rfl (.m rfl (by kernel_rfl) (.c Tryz.func147 [_] (rrecord_spec s (by omega))) (by repeat' constructor) ?_)
 refine D.kv rfl (.concat rfl rfl (by rw [recZ_len]; omega)) (.mv rfl rfl (.hh rfl (.c Tryz.func145 [_, _, _, _] (rlays_spec x ω.area (laidZ ω.recs ++ recZ s) (laidZ ω.recs).length δ hn har (by omega) (by omega) (by omega))) ?_))
 rintro v L' ⟨e1, he1, rfl, rfl⟩
 refine D.ph (.g0 (.kv rfl (.int rfl rfl rfl) (.pf (.condN rfl (fun h48 => ?_) (fun h48 => ?_)))))
 ·refine .sm rfl (.cv Tryz.func148 [_] (rdead_spec y x _ _ _ _ _ _ _) ?_)
  refine .an rfl (.rt ?_)
  have hl2 : ¬ (layZ δ ω.area (laidZ ω.recs ++ recZ s) (laidZ ω.recs).length).2 = 0 := fun g => h48 (he1.2 g)
  have hr : appendZ δ ω s = ((layZ δ ω.area (laidZ ω.recs ++ recZ s) (laidZ ω.recs).length).1, { ω with doubt := true }, 2) := by unfold appendZ; rw [if_neg (by rw [h9]; decide), if_neg (by omega), if_neg (by omega), if_pos hl2, layX_two hl2]
  rw [hr]
  refine .rl (y := y) (x := x) (ω := { ω with doubt := true }) (v := (.slice arr ω.recs.length crr)) ?_
  exact .vv
 refine .sk (.sm rfl (.m rfl (.nf rfl fo_185_1 (.u (.ld rfl ag_39) (.m rfl (.oq (.buildSlice1 (vs := [_]) el_39 ze_9 rfl rfl rfl rfl rfl (by decide)) ?_))))))
 rintro v L' ⟨b10, rfl, rfl⟩
 refine .oq (.append1 rfl rfl rfl el_39 ze_9 rfl rfl ?c62 ?c63 (Nat.le_refl _) ?c64 (by decide)) ?_
 case c62 => (first | (simp [isCell]; done) | (simp [isCell, setAll, Value.cells]; done))
 case c63 => rfl
 case c64 => omega
 rintro v L' ⟨⟨a10, c10, rfl⟩, rfl⟩
 refine .nf rfl fo_185_1 (.st rfl rfl rfl sz_39 ?_)
 refine .nt (.sr (.an rfl (.ret ?_)))
 have hl2 : (layZ δ ω.area (laidZ ω.recs ++ recZ s) (laidZ ω.recs).length).2 = 0 := he1.1 h48
 have hr : appendZ δ ω s = ((layZ δ ω.area (laidZ ω.recs ++ recZ s) (laidZ ω.recs).length).1, { ω with recs := ω.recs ++ [s] }, 0) := by unfold appendZ; rw [if_neg (by rw [h9]; decide), if_neg (by omega), if_neg (by omega), if_neg (fun g => g hl2)]
 rw [hr]
 refine .rl (y := y) (x := x) (ω := { ω with recs := ω.recs ++ [s] }) (v := .slice a10 (ω.recs.length + 1) c10) ?_
 exact .vv
theorem rlsync_spec (y x : Nat) (ω : Wl) (δ : Dk) (hI : WlI δ ω) (hab : (0 ≤ ω.a ∧ ω.a ≤ 9223372036854775807) ∧ (0 ≤ ω.b ∧ ω.b ≤ 9223372036854775807)) : Fn Tryz.prog 90 #[vptr y] [rlR y x ω, dsR x δ] fun v L => v = vint (syncZ δ ω).2.2 ∧ L = [rlR y x (syncZ δ ω).2.1, dsR x (syncZ δ ω).1] := by
 refine Fn.intro Tryz.func90 rfl rfl fun F W => ?_
 refine .rlOpen (ω := ω) (by repeat' constructor) fun vr => (.slAny (v := vr) (by repeat' constructor) fun arr crr e hsl => ?_)
 subst e
 refine .slAddr (by repeat' constructor) fun hcap hra => ?_
 have hfi := hI.fits
 have hn := hI.size
 have hhl := half_le hI.size
 have hlm := laidZ_many ω.recs
 have hac := hI.acts
 have hct := hI.count
 have har := hI.area
 have hsy := hI.synced
 refine .sr (.an rfl (.seq (.sm rfl (.nf rfl fo_185_7 (.u (.ld rfl ag_4) (.nt (.condB rfl (fun h6 => ?_) (fun h6 => ?_))))))))
 ·refine .sr (.an rfl (.rt ?_))
  have hr : syncZ δ ω = (δ, ω, 34) := by unfold syncZ; rw [if_pos h6]
  rw [hr]
  refine .rl (y := y) (x := x) (ω := ω) (v := (.slice arr ω.recs.length crr)) ?_
  exact .vv
 refine .sk (.seq (.seq (.draw [] [[0, 1, 2, 3, 4, 5, 6, 7, 8, 9]] mixed (by kernel_rfl) (.g0 (.mv rfl rfl (.nf rfl rfl rfl fo_185_2 (.kv rfl (.ld rfl ag_3) (.mv rfl rfl (.nf rfl rfl rfl fo_185_1 (.kv rfl (.ld rfl ag_39) (.kv rfl (.slen rfl Tryz.underlying39 rfl) (.kv rfl (.int rfl rfl rfl) (.pf (.condD rfl (fun h16 => ?_) (fun h16 => ?_)))))))))))))))
 ·refine .sr (.an rfl (.rt ?_))
  have hr : syncZ δ ω = (δ, ω, 0) := by unfold syncZ; rw [if_neg (by rw [h6]; decide), if_pos (by omega)]
  rw [hr]
  refine .rl (y := y) (x := x) (ω := ω) (v := (.slice arr ω.recs.length crr)) ?_
  exact .vv
 refine .sk (.seq (.sm rfl (.nf rfl fo_185_4 (.u (.ld rfl ag_3) (.ui rfl rfl rfl (.nt (.condD rfl (fun h21 => ?_) (fun h21 => ?_))))))))
 ·refine .sr (.an rfl (.rt ?_))
  have hr : syncZ δ ω = (δ, ω, 30) := by unfold syncZ; rw [if_neg (by rw [h6]; decide), if_neg (by omega), if_pos (by omega)]
  rw [hr]
  refine .rl (y := y) (x := x) (ω := ω) (v := (.slice arr ω.recs.length crr)) ?_
  exact .vv
 refine .sk (.seq (.draw [9] [[0, 1, 2, 3, 4, 5, 6, 7, 8, 9], [10]] mixed (by kernel_rfl) (.g0 (.mv rfl rfl (.mv rfl rfl (.nf rfl rfl rfl fo_185_3 (.kv rfl (.ld rfl ag_3) (.mv rfl rfl (.nf rfl rfl rfl fo_185_1 (.kv rfl (.ld rfl ag_39) (.hh rfl (.c Tryz.func150 [_, _, _] (rseals_spec y x (.slice arr ω.recs.length crr) ω ω.area (.slice arr ω.recs.length crr) ω.recs δ (strR (.slice arr ω.recs.length crr) ω.recs) (fun h hp => slR_rd hp) (by omega) ⟨hct.1, by omega⟩ (by omega) hab.1 hab.2 (by omega))) ?_)))))))))))
 rintro v L' (⟨hs, rfl, rfl⟩ | ⟨hs, rfl, a9, c9, rfl⟩)
 ·refine D.ph (.g0 (.kv rfl (.assign rfl) (.pf (.ret ?_))))
  have hr : syncZ δ ω = ((sealZ δ ω ω.area ω.recs).1, { ω with doubt := true }, 2) := by unfold syncZ; rw [if_neg (by rw [h6]; decide), if_neg (by omega), if_neg (by omega), sealX_two hs]
  rw [hr]
  refine .rl (y := y) (x := x) (ω := { ω with doubt := true }) (v := (.slice arr ω.recs.length crr)) ?_
  exact .vv
 refine D.ph (.g0 (.kv rfl (.assign rfl) (.pf (.ret ?_))))
 have hr : syncZ δ ω = ((sealZ δ ω ω.area ω.recs).1, { ω with recs := ω.recs, synced := ω.recs.length, area := ω.area, count := ω.count + 1 }, 0) := by unfold syncZ; rw [if_neg (by rw [h6]; decide), if_neg (by omega), if_neg (by omega), sealX_nil hs]
 rw [hr]
 refine .rl (y := y) (x := x) (ω := { ω with recs := ω.recs, synced := ω.recs.length, area := ω.area, count := ω.count + 1 }) (v := .slice a9 ω.recs.length c9) ?_
 exact .vv
theorem rcut_spec (y x : Nat) (ω : Wl) (δ : Dk) (n : Int) (hI : WlI δ ω) (hab : (0 ≤ ω.a ∧ ω.a ≤ 9223372036854775807) ∧ (0 ≤ ω.b ∧ ω.b ≤ 9223372036854775807)) : Fn Tryz.prog 211 #[vptr y, vint n] [rlR y x ω, dsR x δ] fun v L => v = vint (cutZ δ ω n).2.2 ∧ L = [rlR y x (cutZ δ ω n).2.1, dsR x (cutZ δ ω n).1] := by
 refine Fn.intro Tryz.func211 rfl rfl fun F W => ?_
 refine .rlOpen (ω := ω) (by repeat' constructor) fun vr => (.slAny (v := vr) (by repeat' constructor) fun arr crr e hsl => ?_)
 subst e
 refine .slAddr (by repeat' constructor) fun hcap hra => ?_
 have hfi := hI.fits
 have hn := hI.size
 have hhl := half_le hI.size
 have hlm := laidZ_many ω.recs
 have hac := hI.acts
 have hct := hI.count
 have har := hI.area
 have hsy := hI.synced
 refine .sr (.an rfl (.seq (.sm rfl (.nf rfl fo_185_7 (.u (.ld rfl ag_4) (.nt (.condB rfl (fun h8 => ?_) (fun h8 => ?_))))))))
 ·refine .sr (.an rfl (.rt ?_))
  have hr : cutZ δ ω n = (δ, ω, 34) := by unfold cutZ; rw [if_pos h8]
  rw [hr]
  refine .rl (y := y) (x := x) (ω := ω) (v := (.slice arr ω.recs.length crr)) ?_
  exact .vv
 refine .sk (.seq (.sm rfl (.ui rfl rfl rfl (.m rfl (.dec (t := 11) rfl (fun h3_11 => ?_) (fun h3_11 => ?_))))))
 ·refine .kDT (t := 10) rfl h3_11 (.gk (.gk (.gk (.gk (.gk (.gk (.gk (.u (.pickT rfl rfl) (.nt (.condT rfl (.sr (.an rfl (.rt ?_)))))))))))))
  have hr : cutZ δ ω n = (δ, ω, 32) := by unfold cutZ; rw [if_neg (by rw [h8]; decide), if_pos (by omega)]
  rw [hr]
  refine .rl (y := y) (x := x) (ω := ω) (v := (.slice arr ω.recs.length crr)) ?_
  exact .vv
 refine .kDF (t := 10) rfl h3_11 (.grun (t := 11) rfl rfl rfl (.m rfl (.grun (t := 11) rfl rfl rfl (.m rfl (.grun (t := 11) rfl rfl rfl (.u (.nilp rfl) (.grun (t := 11) rfl rfl rfl (.u (.fieldAddr rfl fo_185_1) (.grun (t := 11) rfl rfl rfl (.u (.ld rfl ag_39) (.grun (t := 11) rfl rfl rfl (.q (.slen rfl Tryz.underlying39 rfl) rfl (.grun (t := 11) rfl rfl rfl (.ui rfl rfl rfl (.u (.pickF rfl rfl) (.nt (.condD rfl (fun h19 => ?_) (fun h19 => ?_))))))))))))))))))
 ·refine .sr (.an rfl (.rt ?_))
  have hr : cutZ δ ω n = (δ, ω, 32) := by unfold cutZ; rw [if_neg (by rw [h8]; decide), if_pos (by omega)]
  rw [hr]
  refine .rl (y := y) (x := x) (ω := ω) (v := (.slice arr ω.recs.length crr)) ?_
  exact .vv
 refine .sk (.seq (.sm rfl (.nf rfl fo_185_4 (.u (.ld rfl ag_3) (.ui rfl rfl rfl (.nt (.condD rfl (fun h24 => ?_) (fun h24 => ?_))))))))
 ·refine .sr (.an rfl (.rt ?_))
  have hr : cutZ δ ω n = (δ, ω, 30) := by unfold cutZ; rw [if_neg (by rw [h8]; decide), if_neg (by omega), if_pos (by omega)]
  rw [hr]
  refine .rl (y := y) (x := x) (ω := ω) (v := (.slice arr ω.recs.length crr)) ?_
  exact .vv
 refine .sk (.seq ?_)
 have htl := laidZ_take_len ω.recs n.toNat
 have hkl : (ω.recs.take n.toNat).length = n.toNat := by rw [List.length_take]; omega
 refine .draw [11] [[0, 1, 2, 3, 4, 5, 6, 7, 8, 9, 10, 11], [12]] mixed (by kernel_rfl) (.g0 (.mv rfl rfl (.mv rfl rfl (.nf rfl rfl rfl fo_185_3 (.kv rfl (.ld rfl ag_3) (.mv rfl rfl (.nf rfl rfl rfl fo_185_1 (.kv rfl (.ld rfl ag_39) (.mv rfl rfl (.kv rfl (.slTo (j := n) rfl el_39 rfl (by omega) hra) (.hh rfl (.c Tryz.func150 [_, _, _] (rseals_spec y x (.slice arr ω.recs.length crr) ω ω.area (.slice arr n.toNat crr) (ω.recs.take n.toNat) δ (strR (.slice arr ω.recs.length crr) ω.recs) (rd_take (by omega) rfl) (by omega) ⟨hct.1, by omega⟩ (by omega) hab.1 hab.2 (by omega))) ?_)))))))))))
 rintro v L' (⟨hs, rfl, rfl⟩ | ⟨hs, rfl, a9, c9, rfl⟩)
 ·refine D.ph (.g0 (.kv rfl (.assign rfl) (.pf (.ret ?_))))
  have hr : cutZ δ ω n = ((sealZ δ ω ω.area (ω.recs.take n.toNat)).1, { ω with doubt := true }, 2) := by unfold cutZ; rw [if_neg (by rw [h8]; decide), if_neg (by omega), if_neg (by omega), sealX_two hs]
  rw [hr]
  refine .rl (y := y) (x := x) (ω := { ω with doubt := true }) (v := (.slice arr ω.recs.length crr)) ?_
  exact .vv
 refine D.ph (.g0 (.kv rfl (.assign rfl) (.pf (.ret ?_))))
 have hr : cutZ δ ω n = ((sealZ δ ω ω.area (ω.recs.take n.toNat)).1, { ω with recs := (ω.recs.take n.toNat), synced := (ω.recs.take n.toNat).length, area := ω.area, count := ω.count + 1 }, 0) := by unfold cutZ; rw [if_neg (by rw [h8]; decide), if_neg (by omega), if_neg (by omega), sealX_nil hs]
 rw [hr]
 refine .rl (y := y) (x := x) (ω := { ω with recs := (ω.recs.take n.toNat), synced := (ω.recs.take n.toNat).length, area := ω.area, count := ω.count + 1 }) (v := .slice a9 (ω.recs.take n.toNat).length c9) ?_
 exact .vv
theorem rmark_spec (y x : Nat) (ω : Wl) (δ : Dk) (a b : Int) (hI : WlI δ ω) (ha : a ≤ 9223372036854775807) (hb : b ≤ 9223372036854775807) : Fn Tryz.prog 168 #[vptr y, vint a, vint b] [rlR y x ω, dsR x δ] fun v L => v = vint (setmZ δ ω a b).2.2 ∧ L = [rlR y x (setmZ δ ω a b).2.1, dsR x (setmZ δ ω a b).1] := by
 refine Fn.intro Tryz.func168 rfl rfl fun F W => ?_
 refine .rlOpen (ω := ω) (by repeat' constructor) fun vr => (.slAny (v := vr) (by repeat' constructor) fun arr crr e hsl => ?_)
 subst e
 refine .slAddr (by repeat' constructor) fun hcap hra => ?_
 have hfi := hI.fits
 have hn := hI.size
 have hhl := half_le hI.size
 have hlm := laidZ_many ω.recs
 have hac := hI.acts
 have hct := hI.count
 have har := hI.area
 have hsy := hI.synced
 refine .sr (.an rfl (.seq (.sm rfl (.nf rfl fo_185_7 (.u (.ld rfl ag_4) (.nt (.condB rfl (fun h10 => ?_) (fun h10 => ?_))))))))
 ·refine .sr (.an rfl (.rt ?_))
  have hr : setmZ δ ω a b = (δ, ω, 34) := by unfold setmZ; rw [if_pos h10]
  rw [hr]
  refine .rl (y := y) (x := x) (ω := ω) (v := (.slice arr ω.recs.length crr)) ?_
  exact .vv
 refine .sk (.seq (.sm rfl (.ui rfl rfl rfl (.m rfl (.dec (t := 13) rfl (fun h3_13 => ?_) (fun h3_13 => ?_))))))
 ·refine .kDT (t := 12) rfl h3_13 (.gk (.gk (.u (.pickT rfl rfl) (.nt (.condT rfl (.sr (.an rfl (.rt ?_))))))))
  have hr : setmZ δ ω a b = (δ, ω, 1) := by unfold setmZ; rw [if_neg (by rw [h10]; decide), if_pos (by omega)]
  rw [hr]
  refine .rl (y := y) (x := x) (ω := ω) (v := (.slice arr ω.recs.length crr)) ?_
  exact .vv
 refine .kDF (t := 12) rfl h3_13 (.grun (t := 13) rfl rfl rfl (.m rfl (.grun (t := 13) rfl rfl rfl (.ui rfl rfl rfl (.u (.pickF rfl rfl) (.nt (.condD rfl (fun h16 => ?_) (fun h16 => ?_))))))))
 ·refine .sr (.an rfl (.rt ?_))
  have hr : setmZ δ ω a b = (δ, ω, 1) := by unfold setmZ; rw [if_neg (by rw [h10]; decide), if_pos (by omega)]
  rw [hr]
  refine .rl (y := y) (x := x) (ω := ω) (v := (.slice arr ω.recs.length crr)) ?_
  exact .vv
 refine .sk (.seq (.sm rfl (.nf rfl fo_185_4 (.u (.ld rfl ag_3) (.ui rfl rfl rfl (.nt (.condD rfl (fun h21 => ?_) (fun h21 => ?_))))))))
 ·refine .sr (.an rfl (.rt ?_))
  have hr : setmZ δ ω a b = (δ, ω, 30) := by unfold setmZ; rw [if_neg (by rw [h10]; decide), if_neg (by omega), if_pos (by omega)]
  rw [hr]
  refine .rl (y := y) (x := x) (ω := ω) (v := (.slice arr ω.recs.length crr)) ?_
  exact .vv
 refine .sk (.seq (.seq ?_))
 have htl := laidZ_take_len ω.recs ω.synced.toNat
 have hkl : (ω.recs.take ω.synced.toNat).length = ω.synced.toNat := by rw [List.length_take]; omega
 have hwk := write_keeps δ ((ω.mark ω.area (ω.recs.take ω.synced.toNat) a b).count % 2) (ω.mark ω.area (ω.recs.take ω.synced.toNat) a b).sec
 refine .draw [16, 23] [[0, 1, 2, 3, 4, 5, 6, 7, 8, 9, 10, 11, 12, 13, 14, 15, 16], [17, 18, 19, 20, 21, 22, 23], [24, 25]] mixed (by kernel_rfl) (.g0 (.mv rfl rfl (.mv rfl rfl (.nf rfl rfl rfl fo_185_3 (.kv rfl (.ld rfl ag_3) (.mv rfl rfl (.nf rfl rfl rfl fo_185_1 (.kv rfl (.ld rfl ag_39) (.mv rfl rfl (.nf rfl rfl rfl fo_185_2 (.kv rfl (.ld rfl ag_3) (.kv rfl (.slTo (j := ω.synced) rfl el_39 rfl (by omega) hra) (.mv rfl rfl (.mv rfl rfl (.hh rfl (.c Tryz.func196 [_, _, _, _, _] (rputs_spec y x (.slice arr ω.recs.length crr) ω.synced ω.area ω.count ω.a ω.b ω.doubt ω.area a b (.slice arr ω.synced.toNat crr) (ω.recs.take ω.synced.toNat) δ (strR (.slice arr ω.recs.length crr) ω.recs) (rd_take (by omega) rfl) (by omega) ⟨hct.1, by omega⟩ har (by omega) (by omega) (by omega))) ?_)))))))))))))))
 rintro v L' ⟨rfl, rfl⟩
 refine D.ph (.g0 (.kv rfl (.int rfl rfl rfl) (.mv rfl rfl (.ndec (t := 40) rfl (fun h7_40 => ?_) (fun h7_40 => ?_)))))
 ·refine D.kNT (t := 39) rfl h7_40 (.gz rfl (.gz rfl (.gz rfl (.gz rfl (.gz rfl (.ph (.g0 (.gz rfl (.kv rfl (.pickT rfl rfl) (.pf (.condT rfl (.sm rfl (.cv Tryz.func148 [_] (rdead_spec y x _ _ _ _ _ _ _) ?_)))))))))))))
  refine .an rfl (.rt ?_)
  have hnx : nextZ δ (ω.mark ω.area (ω.recs.take ω.synced.toNat) a b) = ((δ.write ((ω.mark ω.area (ω.recs.take ω.synced.toNat) a b).count % 2) (ω.mark ω.area (ω.recs.take ω.synced.toNat) a b).sec).1, 2) := next_s1 (m := (ω.mark ω.area (ω.recs.take ω.synced.toNat) a b)) h7_40
  have hr : setmZ δ ω a b = ((δ.write ((ω.mark ω.area (ω.recs.take ω.synced.toNat) a b).count % 2) (ω.mark ω.area (ω.recs.take ω.synced.toNat) a b).sec).1, { ω with doubt := true }, 2) := by unfold setmZ; rw [if_neg (by rw [h10]; decide), if_neg (by omega), if_neg (by omega), hnx, if_pos (by show ¬ (2 : Int) = 0; decide)]; rfl
  rw [hr]
  refine .rl (y := y) (x := x) (ω := { ω with doubt := true }) (v := (.slice arr ω.recs.length crr)) ?_
  exact .vv
 refine D.kNF (t := 39) rfl h7_40 (.gv rfl (.move rfl) (.gv rfl (.nilp rfl) (.gv rfl (.fieldAddr rfl fo_185_0) (.gv rfl (.ld rfl ag_26) (.gh (t := 40) rfl rfl rfl (by kernel_rfl) (.c Tryz.func142 [_] (dssync_spec x (δ.write ((ω.mark ω.area (ω.recs.take ω.synced.toNat) a b).count % 2) (ω.mark ω.area (ω.recs.take ω.synced.toNat) a b).sec).1 (by omega))) (by repeat' constructor) ?_)))))
 rintro v L' ⟨rfl, rfl⟩
 refine D.ph (.g0 (.gv rfl (.int rfl rfl rfl) (.kv rfl (.pickF rfl rfl) (.pf (.condN rfl (fun h47 => ?_) (fun h47 => ?_))))))
 ·refine .sm rfl (.cv Tryz.func148 [_] (rdead_spec y x _ _ _ _ _ _ _) ?_)
  refine .an rfl (.rt ?_)
  have hnx : nextZ δ (ω.mark ω.area (ω.recs.take ω.synced.toNat) a b) = ((δ.write ((ω.mark ω.area (ω.recs.take ω.synced.toNat) a b).count % 2) (ω.mark ω.area (ω.recs.take ω.synced.toNat) a b).sec).1.sync.1, 2) := next_s2 (m := (ω.mark ω.area (ω.recs.take ω.synced.toNat) a b)) h7_40 h47
  have hr : setmZ δ ω a b = ((δ.write ((ω.mark ω.area (ω.recs.take ω.synced.toNat) a b).count % 2) (ω.mark ω.area (ω.recs.take ω.synced.toNat) a b).sec).1.sync.1, { ω with doubt := true }, 2) := by unfold setmZ; rw [if_neg (by rw [h10]; decide), if_neg (by omega), if_neg (by omega), hnx, if_pos (by show ¬ (2 : Int) = 0; decide)]; rfl
  rw [hr]
  refine .rl (y := y) (x := x) (ω := { ω with doubt := true }) (v := (.slice arr ω.recs.length crr)) ?_
  exact .vv
 refine .sk (.sm rfl (.nf rfl fo_185_4 (.u (.ld rfl ag_3) (.q (.add rfl rfl (by omega)) rfl (.nf rfl fo_185_4 (.st rfl rfl rfl sz_3 ?_))))))
 refine .nt (.sm rfl (.m rfl (.nf rfl fo_185_5 (.st rfl rfl rfl sz_3 ?_))))
 refine .nt (.sm rfl (.m rfl (.nf rfl fo_185_6 (.st rfl rfl rfl sz_3 ?_))))
 refine .nt (.sr (.an rfl (.ret ?_)))
 have hnx : nextZ δ (ω.mark ω.area (ω.recs.take ω.synced.toNat) a b) = ((δ.write ((ω.mark ω.area (ω.recs.take ω.synced.toNat) a b).count % 2) (ω.mark ω.area (ω.recs.take ω.synced.toNat) a b).sec).1.sync.1, 0) := next_s3 (m := (ω.mark ω.area (ω.recs.take ω.synced.toNat) a b)) h7_40 h47
 have hr : setmZ δ ω a b = ((δ.write ((ω.mark ω.area (ω.recs.take ω.synced.toNat) a b).count % 2) (ω.mark ω.area (ω.recs.take ω.synced.toNat) a b).sec).1.sync.1, { ω with a := a, b := b, count := ω.count + 1 }, 0) := by unfold setmZ; rw [if_neg (by rw [h10]; decide), if_neg (by omega), if_neg (by omega), hnx, if_neg (fun g => g rfl)]
 rw [hr]
 refine .rl (y := y) (x := x) (ω := { ω with a := a, b := b, count := ω.count + 1 }) (v := (.slice arr ω.recs.length crr)) ?_
 exact .vv
theorem rlroom_spec (y x : Nat) (ω : Wl) (δ : Dk) (hn : 2 ≤ δ.now.length ∧ δ.now.length ≤ 32768) (hfit : (laidZ ω.recs).length ≤ 4000000) : Fn Tryz.prog 172 #[vptr y] [rlR y x ω, dsR x δ] fun v L => v = vint (roomZ δ ω) ∧ L = [rlR y x ω, dsR x δ] := by
 refine Fn.intro Tryz.func172 rfl rfl fun F W => ?_
 refine .rlOpen (ω := ω) (by repeat' constructor) fun vr => ?_
 have hh := half_le hn
 refine .sr (.an rfl (.seq (.draw [] [[0, 1, 2, 3, 4, 5, 6, 7, 8, 9, 10, 11, 12, 13, 14, 15]] mixed (by kernel_rfl) (.go [lc y x (vr) (ω.synced) (ω.area) (ω.count) (ω.a) (ω.b) (ω.doubt), strR vr ω.recs, dsR x δ] (by repeat' constructor) (.mv rfl rfl (.nf rfl rfl rfl fo_185_0 (.kv rfl (.ld rfl ag_26) (.m rfl (by kernel_rfl) (.c Tryz.func144 [_] (dshalf_spec x δ hn)) (by repeat' constructor) ?_))))))))
 refine D.kv rfl (.mul rfl rfl (by omega)) (.mv rfl rfl (.nf rfl rfl rfl fo_185_1 (.kv rfl (.ld rfl ag_39) (.m rfl (by kernel_rfl) (.c Tryz.func143 [_] (rsize_spec vr ω.recs (strR vr ω.recs) (fun h hp => slR_rd hp) (by omega))) (by repeat' constructor) ?_))))
 refine D.kv rfl (.sub rfl rfl (by omega)) (.kv rfl (.sub rfl rfl (by omega)) (.kv rfl (.min2 rfl rfl) (.kv rfl (.max2 rfl rfl) (.kv rfl (.assign rfl) (.pf (.ret (.rl (y := y) (x := x) (ω := ω) (v := vr) ?_)))))))
 exact .vv
def rfW (r : Nat) (s : Bs) (at' : Nat) (e : Int) : HP := fun h => ∃ _y : Unit, (at' ≤ s.length ∧ s.length ≤ 70368744177664) ∧ sep [ptc r [vstr s, vint at', vint e] 247] h
def rfR (r : Nat) (st : Rs) : HP := fun h => ∃ y : Bs × (Nat × Int), stW y.1 y.2.1 y.2.2 = st ∧ sep [rfW r y.1 y.2.1 y.2.2] h
section
variable {P : Program} {W : World} {n : Nat} {ds : List Deferred} {E : Env} {L R : List HP} {X : Act → World → Prop}
theorem G.rfOpen {r : Nat} {s : Bs} {k : Nat} {e : Int} (hL : Pick (rfW r s k e) L R) (h : k ≤ s.length → s.length ≤ 70368744177664 → G W n ds E (ptc r [vstr s, vint k, vint e] 247 :: R) X) : G W n ds E L X :=
 G.focus hL (G.open (q := fun _ : Unit => [ptc r [vstr s, vint k, vint e] 247]) (φ := fun _ => k ≤ s.length ∧ s.length ≤ 70368744177664) (fun _ hp => hp) fun _ hy => h hy.1 hy.2)
theorem G.rfFold {r : Nat} (s : Bs) (k : Nat) (e : Int) {l : List Value} (hL : Picks [ptc r l 247] L R) (hl : l = [vstr s, vint k, vint e]) (hk : k ≤ s.length) (hs : s.length ≤ 70368744177664) (h : G W n ds E (rfW r s k e :: R) X) : G W n ds E L X := by
 subst hl
 exact G.fold hL (fun _ hp => ⟨(), ⟨hk, hs⟩, hp⟩) h
theorem Fn.rfUp {f : FuncId} {args : Array Value} {r : Nat} {α : Type} {d : α} {p : Pa α} {v : α → Value} (h : ∀ s k e, Fn P f args [rfW r s k e] fun u L => ∃ k' e', stW s k' e' = (runP d p (stW s k e)).2 ∧ u = v (runP d p (stW s k e)).1 ∧ L = [rfW r s k' e']) (st : Rs) :
  Fn P f args [rfR r st] fun u L => u = v (runP d p st).1 ∧ L = [rfR r (runP d p st).2] := by
 intro F w hs
 obtain ⟨h1, h2, hd, a1, a2, ⟨y, hy, hp⟩, hF⟩ := hs
 subst hy
 have hs' : St ([rfW r y.1 y.2.1 y.2.2] ++ F) w := sep_flat ⟨h1, h2, hd, a1, a2, hp, hF⟩
 refine (h _ _ _ F w hs').mono ?_
 rintro e w' ⟨u, L, ⟨k', e', h3, rfl, rfl⟩, he, hs2, hk⟩
 refine ⟨_, _, ⟨rfl, rfl⟩, he, sep_imp (fun hh hq => ⟨(y.1, (k', e')), h3, hh, fun _ => none, fun _ => .inr rfl, fun _ _ e => e, fun _ _ e => (by cases e), hq, trivial⟩) hs2, hk⟩
theorem Fn.rfEnd {f : FuncId} {args : Array Value} {r : Nat} (h : ∀ s k e, Fn P f args [rfW r s k e] fun u L => ∃ e1, (e1 = 0 ↔ stW s k e = some []) ∧ u = vint e1 ∧ L = [rfW r s k e1]) (st : Rs) :
  Fn P f args [rfR r st] fun u L => ∃ e1, (e1 = 0 ↔ st = some []) ∧ u = vint e1 ∧ ∃ st', L = [rfR r st'] := by
 intro F w hs
 obtain ⟨h1, h2, hd, a1, a2, ⟨y, hy, hp⟩, hF⟩ := hs
 subst hy
 have hs' : St ([rfW r y.1 y.2.1 y.2.2] ++ F) w := sep_flat ⟨h1, h2, hd, a1, a2, hp, hF⟩
 refine (h _ _ _ F w hs').mono ?_
 rintro e w' ⟨u, L, ⟨e1, h3, rfl, rfl⟩, he, hs2, hk⟩
 refine ⟨_, _, ⟨e1, h3, rfl, _, rfl⟩, he, sep_imp (fun hh hq => ⟨(y.1, (y.2.1, e1)), rfl, hh, fun _ => none, fun _ => .inr rfl, fun _ _ e => e, fun _ _ e => (by cases e), hq, trivial⟩) hs2, hk⟩
theorem rfW_up {r : Nat} {s : Bs} {k : Nat} {e : Int} {h : Hp} (hp : sep [rfW r s k e] h) : rfR r (stW s k e) h := ⟨(s, (k, e)), rfl, hp⟩
theorem G.rfUpF {r : Nat} {s : Bs} {k : Nat} {e : Int} {st : Rs} (hL : Pick (rfW r s k e) L R) (hs : stW s k e = st) (h : G W n ds E (rfR r st :: R) X) : G W n ds E L X := by
 subst hs; exact G.fold (.cons hL .nil) (fun _ hp => rfW_up hp) h
theorem G.rfLook {r : Nat} {st : Rs} (hL : Pick (rfR r st) L R) (h : ∀ s k e, stW s k e = st → k ≤ s.length → s.length ≤ 70368744177664 → G W n ds E (ptc r [vstr s, vint k, vint e] 247 :: R) X) : G W n ds E L X :=
 G.focus hL (G.open (q := fun y : Bs × (Nat × Int) => [rfW r y.1 y.2.1 y.2.2]) (φ := fun y : Bs × (Nat × Int) => stW y.1 y.2.1 y.2.2 = st) (fun _ hp => hp) fun y hy => G.rfOpen .here fun h1 h2 => h _ _ _ hy h1 h2)
end
section
variable {P : Program} {E : Env} {L : List HP} {ty : TypeId}
theorem Quiet.remU8 {t t' : TypeId} {x y : Operand} {a b : Int} (hx : ev E x = some (.int .u8 a)) (hy : ev E y = some (.int .u8 b)) (h0 : 0 ≤ a) (hb : 0 < b) :
  Quiet P ⟨none, .binOp .rem t x y t', ty, "", #[], none⟩ E L (.int .u8 (a % b)) := by
 intro ρ w ha _
 have e : a.tmod b = a % b := Int.tmod_eq_emod_of_nonneg h0
 simp [execOp, ha x _ hx, ha y _ hy, eqGuard, binOp, Op.intDiv, Bind.bind, Sem.bind, Pure.pure, Sem.run, show b ≠ 0 by omega, e]
end
theorem sev_mul {k u x : Nat} (hk : k ≤ 9) (hu : u < 128 ^ k) (hx : x < 128) (h9 : k = 9 → x ≤ 1) : IntKind.u64.wrap ((u : Int) + IntKind.u64.wrap ((x : Int) * ((128 ^ k : Nat) : Int))) = ((u + x * 128 ^ k : Nat) : Int) := by
 have hb : x * 128 ^ k < 18446744073709551616 ∧ u + x * 128 ^ k < 18446744073709551616 := by
  rcases Nat.lt_or_ge k 9 with g | g
  ·have h4 : 128 ^ (k + 1) ≤ 128 ^ 9 := Nat.pow_le_pow_right (by decide) (by omega)
   have e9 : (128 : Nat) ^ 9 = 9223372036854775808 := by decide
   have : x * 128 ^ k ≤ 127 * 128 ^ k := Nat.mul_le_mul_right _ (by omega)
   rw [Nat.pow_succ] at h4
   omega
  ·have : k = 9 := by omega
   subst this
   have := h9 rfl
   have e9 : (128 : Nat) ^ 9 = 9223372036854775808 := by decide
   have : x * 128 ^ 9 ≤ 1 * 128 ^ 9 := Nat.mul_le_mul_right _ (by omega)
   omega
 have e1 : (x : Int) * ((128 ^ k : Nat) : Int) = ((x * 128 ^ k : Nat) : Int) := by simp
 rw [e1, u64wrap, u64wrap]
 omega
theorem unit_mul {k : Nat} (hk : k < 9) : IntKind.u64.wrap (((128 ^ k : Nat) : Int) * 128) = ((128 ^ (k + 1) : Nat) : Int) := by
 have h4 : 128 ^ (k + 1) ≤ 128 ^ 9 := Nat.pow_le_pow_right (by decide) (by omega)
 have e9 : (128 : Nat) ^ 9 = 9223372036854775808 := by decide
 rw [u64wrap, Nat.pow_succ]
 rw [Nat.pow_succ] at h4
 omega
section
variable {P : Program} {E : Env} {L : List HP} {ty : TypeId}
theorem Quiet.quoU {t t' : TypeId} {x y : Operand} {a b : Int} (hx : ev E x = some (.int .u64 a)) (hy : ev E y = some (.int .u64 b)) (h0 : 0 ≤ a ∧ a < 18446744073709551616) (hb : 0 < b) :
  Quiet P ⟨none, .binOp .quo t x y t', ty, "", #[], none⟩ E L (.int .u64 (a / b)) := by
 intro ρ w ha _
 have e : a.tdiv b = a / b := Int.tdiv_eq_ediv_of_nonneg h0.1
 have h1 : a / b ≤ a := Int.ediv_le_self b h0.1
 have h2 : 0 ≤ a / b := Int.ediv_nonneg h0.1 (by omega)
 have hw : IntKind.u64.wrap (a / b) = a / b := by rw [u64wrap]; omega
 simp [execOp, ha x _ hx, ha y _ hy, eqGuard, binOp, Op.intDiv, Bind.bind, Sem.bind, Pure.pure, Sem.run, show b ≠ 0 by omega, e, hw]
theorem Quiet.remU {t t' : TypeId} {x y : Operand} {a b : Int} (hx : ev E x = some (.int .u64 a)) (hy : ev E y = some (.int .u64 b)) (h0 : 0 ≤ a) (hb : 0 < b) :
  Quiet P ⟨none, .binOp .rem t x y t', ty, "", #[], none⟩ E L (.int .u64 (a % b)) := by
 intro ρ w ha _
 have e : a.tmod b = a % b := Int.tmod_eq_emod_of_nonneg h0
 simp [execOp, ha x _ hx, ha y _ hy, eqGuard, binOp, Op.intDiv, Bind.bind, Sem.bind, Pure.pure, Sem.run, show b ≠ 0 by omega, e]
end
theorem r1zig_spec (n : Int) (hn : I64 n) : Fn Tryz.prog 195 #[vint n] [] fun v L => v = .int .u64 (zigZ n : Nat) ∧ L = [] := by
 refine Fn.intro Tryz.func195 rfl rfl fun F W => ?_
 refine .sr (.an rfl (.seq (.sm rfl (.ui rfl rfl rfl (.nt (.condD rfl (fun h4 => ?_) (fun h4 => ?_)))))))
 ·refine .sm rfl (.q (.conv rfl Tryz.underlying3 Tryz.underlying202) rfl (.q (.as (v' := .int .u64 (zigZ n : Nat)) (by exact congrArg (Value.int .u64) (by rw [u64wrap, u64wrap]; unfold zigZ; rw [if_pos (by omega)]; omega)) (.int rfl rfl rfl)) rfl (.an rfl (.rt ?_))))
  exact .vv
 refine .sk (.sm rfl (.q (.add rfl rfl (by omega)) rfl (.q (.neg rfl (by omega)) rfl (.q (.conv rfl Tryz.underlying3 Tryz.underlying202) rfl (.ui rfl rfl rfl (.q (.as (v' := .int .u64 (zigZ n : Nat)) (by exact congrArg (Value.int .u64) (by rw [u64wrap, u64wrap, u64wrap]; unfold zigZ; rw [if_neg (by omega)]; omega)) (.int rfl rfl rfl)) rfl (.an rfl (.ret ?_))))))))
 exact .vv
theorem sev_step' {u : Nat} (h : 128 ≤ u) (bs : Bs) : bs ++ [UInt8.ofNat (u % 128 + 128)] ++ sevZ (u / 128) = bs ++ sevZ u := by
 rw [sevZ.eq_1 u, if_neg (by omega), List.append_assoc]; rfl
theorem sev_last' {u : Nat} (h : ¬ 128 ≤ u) : [UInt8.ofNat u] = sevZ u := by
 rw [sevZ.eq_1 u, if_pos (by omega)]
theorem u8_of {u : Nat} (h : u < 256) : Value.int .u8 (IntKind.u8.wrap (u : Int)) = vbyte (UInt8.ofNat u) := by
 have e : IntKind.u8.wrap (u : Int) = (u : Int) := by simp [IntKind.wrap, IntKind.bits, IntKind.signed]; omega
 rw [e]; show Value.int .u8 (u : Int) = .int .u8 ((UInt8.ofNat u).toNat : Int)
 rw [u8_ofNat h]
theorem r1sev_spec (u0 : Nat) (hu : u0 < U64) : Fn Tryz.prog 165 #[.int .u64 u0] [] fun v L => v = vstr (sevZ u0) ∧ L = [] := by
 refine Fn.intro Tryz.func165 rfl rfl fun F W => ?_
 have hs10 := sev_len10 hu
 have h64 : U64 = 18446744073709551616 := rfl
 refine .sr (.an rfl (.seq (.add (slR_nil 5 1) (.region (.an rfl (.seq (.block (.loopK (ι := Nat × Value × Bs) (fun q E => (0, .int .u64 q.1) :: (3, q.2.1) :: E) (fun q => [bytR q.2.1 q.2.2]) (fun q => q.1 ≤ u0 ∧ (∃ a c, q.2.1 = .slice a q.2.2.length c) ∧ q.2.2 ++ sevZ q.1 = sevZ u0) (fun q => q.1) (u0, .slice none 0 0, []) (ts := [2]) (.cons rfl (.nil)) (⟨Nat.le_refl _, ⟨none, 0, rfl⟩, rfl⟩) ⟨rfl, rfl, rfl, trivial⟩ (by repeat' constructor) ?_))))))))
 rintro ⟨u, v, b⟩ ⟨hu0, ⟨av, cv, hv⟩, heq⟩
 dsimp only
 dsimp only at hu0 hv heq
 subst hv
 have hbl := congrArg List.length heq
 rw [List.length_append] at hbl
 have hsl := sev_len u
 refine .seq (.sm rfl (.ui rfl rfl rfl (.nt (.condD rfl (fun h5 => ?_) (fun h5 => ?_)))))
 ·refine .sk (.block (.sm rfl (.m rfl (.q (.to (v' := .int .u64 ((u % 128 : Nat) : Int)) (.remU rfl rfl (by omega) (by decide)) (by rfl)) rfl (.ui rfl rfl rfl (.q (.as (v' := vbyte (UInt8.ofNat (u % 128 + 128))) (by rw [u64wrap, show (((u % 128 : Nat) : Int) + 128) % 18446744073709551616 = ((u % 128 + 128 : Nat) : Int) by omega]; exact u8_of (by omega)) (.conv rfl Tryz.underlying202 Tryz.underlying5)) rfl (.oq (.buildSlice1 (vs := [_]) el_159 ze_5 rfl rfl rfl rfl rfl (by decide)) ?_)))))))
  rintro v L' ⟨b3, rfl, rfl⟩
  refine .oq (.append1 rfl rfl rfl el_159 ze_5 rfl rfl ?c12 ?c13 (Nat.le_refl _) ?c14 (by decide)) ?_
  case c12 => (first | (simp [isCell]; done) | (simp [isCell, setAll, Value.cells]; done))
  case c13 => rfl
  case c14 => omega
  rintro v L' ⟨⟨a3, c3, rfl⟩, rfl⟩
  refine .an rfl (.region (.m rfl (.q (.to (v' := .int .u64 ((u / 128 : Nat) : Int)) (.quoU rfl rfl (by omega) (by decide)) (by rfl)) rfl (.a rfl (.nil (.blk_n (.then_n (.slCast (T := 5) (sz := 1) (m' := (b ++ [(UInt8.ofNat (u % 128 + 128))]).length) (xs' := bysL (b ++ [(UInt8.ofNat (u % 128 + 128))])) (by repeat' constructor) (by simp) (by simp [bysL, Value.cells]) ?_))))))))
  exact .rk ((u / 128, .slice a3 (b.length + 1) c3, b ++ [(UInt8.ofNat (u % 128 + 128))])) (⟨by dsimp only; omega, ⟨a3, c3, by simp⟩, by dsimp only; rw [sev_step' (by omega)]; exact heq⟩) (by dsimp only; omega) ⟨rfl, rfl, rfl, trivial⟩
 refine .exit (.then_e (.then_e (.blk_e (.then_n (.sm rfl (.m rfl (.q (.as (v' := vbyte (UInt8.ofNat u)) (by exact u8_of (by omega)) (.conv rfl Tryz.underlying202 Tryz.underlying5)) rfl (.oq (.buildSlice1 (vs := [_]) el_159 ze_5 rfl rfl rfl rfl rfl (by decide)) ?_))))))))
 rintro v L' ⟨b5, rfl, rfl⟩
 refine .oq (.append1 rfl rfl rfl el_159 ze_5 rfl rfl ?c24 ?c25 (Nat.le_refl _) ?c26 (by decide)) ?_
 case c24 => (first | (simp [isCell]; done) | (simp [isCell, setAll, Value.cells]; done))
 case c25 => rfl
 case c26 => omega
 rintro v L' ⟨⟨a5, c5, rfl⟩, rfl⟩
 refine .an rfl (.seq (.slCast (T := 5) (sz := 1) (m' := (b ++ [(UInt8.ofNat u)]).length) (xs' := bysL (b ++ [(UInt8.ofNat u)])) (by repeat' constructor) (by simp) (by simp [bysL, Value.cells]) ?_))
 have hfin : b ++ [(UInt8.ofNat u)] = sevZ u0 := by rw [sev_last' (by omega)]; exact heq
 refine .region (.m rfl (.q (.bytesBy (cs := b ++ [(UInt8.ofNat u)]) (n := b.length + 1) (p := slR 5 1 (.slice a5 (b.length + 1) c5) (b ++ [(UInt8.ofNat u)]).length (bysL (b ++ [(UInt8.ofNat u)]))) rfl Tryz.underlying159 Tryz.underlying5 Tryz.underlying9 (fun h hp => by rw [show b.length + 1 = (b ++ [(UInt8.ofNat u)]).length by simp] at hp ⊢; exact slR_rd hp) (by repeat' constructor)) rfl (.an rfl (.ret ?_))))
 rw [hfin]
 exact .vv
theorem r1num_spec (n : Int) (hn : I64 n) : Fn Tryz.prog 149 #[vint n] [] fun v L => v = vstr (numB n) ∧ L = [] := by
 refine Fn.intro Tryz.func149 rfl rfl fun F W => ?_
 refine .sr (.an rfl (.sm rfl (.cv Tryz.func195 [_] (r1zig_spec n hn) ?_)))
 refine .cv Tryz.func165 [_] (r1sev_spec (zigZ n) (zig_lt hn)) ?_
 refine .an rfl (.ret ?_)
 exact .vv
theorem r1cnt_spec (n : Nat) (hn : n ≤ 70368744177664) : Fn Tryz.prog 98 #[vint n] [] fun v L => v = vstr (cntB n) ∧ L = [] := by
 refine Fn.intro Tryz.func98 rfl rfl fun F W => ?_
 have hz : n < U64 := by unfold U64; omega
 refine .sr (.an rfl (.sm rfl (.u (.max2 rfl rfl) (.q (.as (v' := .int .u64 (n : Nat)) (by exact congrArg (Value.int .u64) (by rw [u64wrap]; omega)) (.conv rfl Tryz.underlying3 Tryz.underlying202)) rfl (.cv Tryz.func165 [_] (r1sev_spec n hz) ?_)))))
 refine .an rfl (.ret ?_)
 exact .vv
theorem r1txt_spec (s : Bs) (hs : s.length ≤ 70368744100000) : Fn Tryz.prog 99 #[vstr s] [] fun v L => v = vstr (txtB s) ∧ L = [] := by
 refine Fn.intro Tryz.func99 rfl rfl fun F W => ?_
 have hc : (cntB s.length).length ≤ 10 := sev_len10 (by unfold U64; omega)
 refine .sr (.an rfl (.sm rfl (.q (.strlen rfl Tryz.underlying9 rfl) rfl (.cv Tryz.func98 [_] (r1cnt_spec s.length (by omega)) ?_))))
 refine .m rfl (.q (.concat rfl rfl (by omega)) rfl (.an rfl (.ret ?_)))
 exact .vv
theorem rfwrong_spec (r : Nat) (s : Bs) (k : Nat) (e e' : Int) : Fn Tryz.prog 233 #[vptr r, vint e'] [rfW r s k e] fun v L => v = .tuple #[] ∧ L = [rfW r s k (if e = 0 then e' else e)] := by
 refine Fn.intro Tryz.func233 rfl rfl fun F W => ?_
 refine .rfOpen (by repeat' constructor) fun hkl hsz => (.sm rfl (.nf rfl fo_247_2 (.u (.ld rfl ag_60) (.ui rfl rfl rfl (.nt (.condD rfl (fun h8 => ?_) (fun h8 => ?_)))))))
 ·refine .region (.m rfl (.m rfl (.nf rfl fo_247_2 (.st rfl rfl rfl sz_60 ?_))))
  refine .nil (.done_n ?_)
  rw [if_pos h8]
  refine .rfFold (r := r) s (k) (e') (by repeat' constructor) (by first | rfl | (simp only [List.set]; congr; omega)) (by omega) hsz ?_
  exact .vv
 refine .skip (.done_n ?_)
 rw [if_neg h8]
 refine .rfFold (r := r) s (k) (e) (by repeat' constructor) (by first | rfl | (simp only [List.set]; congr; omega)) (by omega) hsz ?_
 exact .vv
theorem rfsevens_spec (r : Nat) (s : Bs) (k : Nat) (e : Int) : Fn Tryz.prog 241 #[vptr r] [rfW r s k e] fun v L => ∃ u m e', SevA s k e u m e' ∧ v = .int .u64 (u : Nat) ∧ L = [rfW r s (k + m) e'] := by
 refine Fn.intro Tryz.func241 rfl rfl fun F W => ?_
 refine .rfOpen (by repeat' constructor) fun hkl hsz => (.sr (.an rfl (.seq (.sr ?_))))
 rcases Decidable.em (e = 0) with he0 | he0
 ·subst he0
  refine .m rfl (.nf rfl fo_247_2 (.u (.ld rfl ag_60) (.q (.as (v' := .bool false) (by rfl) (.int rfl rfl rfl)) rfl (.nt (.condF rfl (.sk (.sr (.an rfl (.sr (.an rfl (.sr (.an rfl (.block (.loopK (ι := Nat × Nat) (fun q E => (5, vint ((q.1 + 1 : Nat) : Int)) :: (3, .int .u64 q.2) :: (4, .int .u64 ((128 ^ q.1 : Nat) : Int)) :: E) (fun q => [ptc r [vstr s, vint k, vint 0] 247]) (fun q => k + q.1 ≤ s.length ∧ q.1 ≤ 9 ∧ q.2 < 128 ^ q.1 ∧ sevP q.1 q.2 (s.drop (k + q.1)) = sevP 0 0 (s.drop k)) (fun q => s.length - q.1) (0, 0) (ts := [0]) (.cons rfl (.nil)) (⟨by dsimp only; omega, by dsimp only; omega, by dsimp only; decide, rfl⟩) ⟨rfl, rfl, rfl, rfl, trivial⟩ (by repeat' constructor) ?_))))))))))))))
  rintro ⟨j, u⟩ ⟨hj, hj9, huj, hsv⟩
  dsimp only
  dsimp only at hj hj9 huj hsv
  refine .seq (.block (.seq (.seq (.draw [] [[0, 1, 2, 3, 4, 5, 6, 7, 8, 9, 10, 11]] mixed (by kernel_rfl) (.g0 (.mv rfl rfl (.nf rfl rfl rfl fo_247_1 (.kv rfl (.ld rfl ag_3) (.mv rfl rfl (.kv rfl (.add rfl rfl (by omega)) (.mv rfl rfl (.nf rfl rfl rfl fo_247_0 (.kv rfl (.ld rfl ag_9) (.kv rfl (.strlen rfl Tryz.underlying9 rfl) (.kv rfl (.int rfl rfl rfl) (.pf (.condD rfl (fun h25 => ?_) (fun h25 => ?_))))))))))))))))))
  ·refine .rfFold (r := r) s (k) (0) (by repeat' constructor) (by first | rfl | (simp only [List.set]; congr; omega)) (by omega) hsz (.sm rfl (.oq (.c Tryz.func233 [_, _] (rfwrong_spec r s k 0 10)) ?_))
   rintro v L' ⟨rfl, rfl⟩; rw [if_pos rfl]
   refine .nt (.sr (.an rfl (.rt (.blk_r (.then_r (.then_r (.blk_r ?_)))))))
   exact .dn rfl rfl ⟨0, 0, 10, .inl ⟨.inr (by rw [← hsv]; exact sevP_out (by omega)), rfl, rfl, by decide⟩, rfl, rfl⟩
  have hlt : k + j < s.length := by omega
  have hxl := s[k + j].toNat_lt
  refine .sk (.seq (.draw [] [[0, 1, 2, 3, 4, 5, 6, 7, 8, 9, 10, 11, 12]] mixed (by kernel_rfl) (.g0 (.mv rfl rfl (.nf rfl rfl rfl fo_247_0 (.kv rfl (.ld rfl ag_9) (.mv rfl rfl (.nf rfl rfl rfl fo_247_1 (.kv rfl (.ld rfl ag_3) (.mv rfl rfl (.kv rfl (.add rfl rfl (by omega)) (.kv rfl (.as (v' := vint ((k + j : Nat) : Int)) (by congr 1; omega) (.sub rfl rfl (by omega))) (.kv rfl (.to (v' := vbyte s[k + j]) (.strIndex rfl rfl Tryz.underlying9 (by omega) (by rw [Int.toNat_natCast]; exact List.getElem?_eq_getElem hlt)) rfl) ?_)))))))))))))
  refine D.kv rfl (.assign rfl) (.pf (.seq (.sm rfl (.ui rfl rfl rfl (.m rfl (.dec (t := 42) rfl (fun h11_42 => ?_) (fun h11_42 => ?_)))))))
  ·refine .kDT (t := 41) rfl h11_42 (.grun (t := 42) rfl rfl rfl (.m rfl (.grun (t := 42) rfl rfl rfl (.ui rfl rfl rfl (.u (.pickT rfl rfl) (.nt (.condD rfl (fun h45 => ?_) (fun h45 => ?_))))))))
   ·refine .rfFold (r := r) s (k) (0) (by repeat' constructor) (by first | rfl | (simp only [List.set]; congr; omega)) (by omega) hsz (.sm rfl (.oq (.c Tryz.func233 [_, _] (rfwrong_spec r s k 0 11)) ?_))
    rintro v L' ⟨rfl, rfl⟩; rw [if_pos rfl]
    refine .nt (.sr (.an rfl (.rt (.blk_r (.then_r (.then_r (.blk_r ?_)))))))
    exact .dn rfl rfl ⟨0, 0, 11, .inl ⟨.inr (by rw [← hsv, sevP_at hlt, if_pos (.inl ⟨by omega, by omega⟩)]), rfl, rfl, by decide⟩, rfl, rfl⟩
   refine .sk (.seq ?_)
   have h9 : j = 9 → s[k + j].toNat ≤ 1 := fun g => (by omega)
   refine .region (.m rfl (.m rfl (.q (.to (v' := .int .u8 ((s[k + j].toNat % 128 : Nat) : Int)) (.remU8 rfl rfl (by omega) (by decide)) (by rfl)) rfl (.q (.as (v' := .int .u64 ((s[k + j].toNat % 128 : Nat) : Int)) (by exact congrArg (Value.int .u64) (by rw [u64wrap]; omega)) (.conv rfl Tryz.underlying5 Tryz.underlying202)) rfl (.m rfl (.ui rfl rfl rfl (.q (.as (v' := .int .u64 ((u + s[k + j].toNat % 128 * 128 ^ j : Nat) : Int)) (by exact congrArg (Value.int .u64) (sev_mul hj9 huj (by omega) (fun g => by have := h9 g; omega))) (.int rfl rfl rfl)) rfl (.an rfl (.sm rfl (.ui rfl rfl rfl (.an rfl (.seq (.sm rfl (.ui rfl rfl rfl (.nt (.condD rfl (fun h58 => ?_) (fun h58 => ?_)))))))))))))))))
   ·have hnb : ¬ badB j s[k + j] := by rintro (⟨g1, g2⟩ | ⟨g1, g2⟩); have := h9 g1; omega; omega
    have hj8 : j < 9 := by rcases Nat.lt_or_ge j 9 with g | g; exact g; exact absurd (h9 (by omega)) (by omega)
    refine .exit (.then_e (.blk_e (.then_n (.region (.m rfl (.q (.as (v' := vint ((j + 1 + 1 : Nat) : Int)) (by congr 1) (.add rfl rfl (by omega))) rfl (.an rfl ?_)))))))
    rw [unit_mul hj8]
    exact .rk ((j + 1, u + s[k + j].toNat % 128 * 128 ^ j)) (⟨by dsimp only; omega, by dsimp only; omega, by dsimp only; rw [Nat.pow_succ]; have := Nat.mul_le_mul_right (128 ^ j) (show s[k + j].toNat % 128 ≤ 127 by omega); omega, by dsimp only; rw [← hsv, sevP_at hlt, if_neg hnb, if_neg (by omega)]; rfl⟩) (by dsimp only; omega) ⟨rfl, rfl, rfl, rfl, trivial⟩
   refine .sk (.seq (.sm rfl (.ui rfl rfl rfl (.m rfl (.dec (t := 61) rfl (fun h17_61 => ?_) (fun h17_61 => ?_))))))
   ·refine .kDT (t := 60) rfl h17_61 (.grun (t := 61) rfl rfl rfl (.m rfl (.grun (t := 61) rfl rfl rfl (.ui rfl rfl rfl (.u (.pickT rfl rfl) (.nt (.condD rfl (fun h64 => ?_) (fun h64 => ?_))))))))
    ·refine .rfFold (r := r) s (k) (0) (by repeat' constructor) (by first | rfl | (simp only [List.set]; congr; omega)) (by omega) hsz (.sm rfl (.oq (.c Tryz.func233 [_, _] (rfwrong_spec r s k 0 11)) ?_))
     rintro v L' ⟨rfl, rfl⟩; rw [if_pos rfl]
     refine .nt (.sr (.an rfl (.rt (.blk_r (.then_r (.then_r (.blk_r ?_)))))))
     exact .dn rfl rfl ⟨0, 0, 11, .inl ⟨.inr (by rw [← hsv, sevP_at hlt, if_pos (.inr ⟨by omega, by omega⟩)]), rfl, rfl, by decide⟩, rfl, rfl⟩
    refine .sk (.seq ?_)
    have hnb : ¬ badB j s[k + j] := by rintro (⟨g1, g2⟩ | ⟨g1, g2⟩); have := h9 g1; omega; omega
    refine .region (.m rfl (.m rfl (.nf rfl fo_247_1 (.u (.ld rfl ag_3) (.m rfl (.q (.add rfl rfl (by omega)) rfl (.nf rfl fo_247_1 (.st rfl rfl rfl sz_3 ?_))))))))
    refine .nt (.sm rfl (.an rfl (.ret (.blk_r (.then_r (.then_r (.blk_r (.rfFold (r := r) s (k + (j + 1)) (0) (by repeat' constructor) (by first | rfl | (simp only [List.set]; congr; omega)) (by omega) hsz ?_))))))))
    exact .dn rfl rfl ⟨_, j + 1, 0, .inr ⟨rfl, rfl, by omega, by rw [← hsv, sevP_at hlt, if_neg hnb, if_pos (by omega)]; rfl⟩, rfl, rfl⟩
   refine .kDF (t := 60) rfl h17_61 (.gk (.gk (.u (.pickF rfl rfl) (.nt (.condF rfl (.sk (.seq ?_)))))))
   have hnb : ¬ badB j s[k + j] := by rintro (⟨g1, g2⟩ | ⟨g1, g2⟩); have := h9 g1; omega; omega
   refine .region (.m rfl (.m rfl (.nf rfl fo_247_1 (.u (.ld rfl ag_3) (.m rfl (.q (.add rfl rfl (by omega)) rfl (.nf rfl fo_247_1 (.st rfl rfl rfl sz_3 ?_))))))))
   refine .nt (.sm rfl (.an rfl (.ret (.blk_r (.then_r (.then_r (.blk_r (.rfFold (r := r) s (k + (j + 1)) (0) (by repeat' constructor) (by first | rfl | (simp only [List.set]; congr; omega)) (by omega) hsz ?_))))))))
   exact .dn rfl rfl ⟨_, j + 1, 0, .inr ⟨rfl, rfl, by omega, by rw [← hsv, sevP_at hlt, if_neg hnb, if_pos (by omega)]; rfl⟩, rfl, rfl⟩
  refine .kDF (t := 41) rfl h11_42 (.gk (.gk (.u (.pickF rfl rfl) (.nt (.condF rfl (.sk (.seq ?_)))))))
  have h9 : j = 9 → s[k + j].toNat ≤ 1 := fun g => absurd g (by omega)
  refine .region (.m rfl (.m rfl (.q (.to (v' := .int .u8 ((s[k + j].toNat % 128 : Nat) : Int)) (.remU8 rfl rfl (by omega) (by decide)) (by rfl)) rfl (.q (.as (v' := .int .u64 ((s[k + j].toNat % 128 : Nat) : Int)) (by exact congrArg (Value.int .u64) (by rw [u64wrap]; omega)) (.conv rfl Tryz.underlying5 Tryz.underlying202)) rfl (.m rfl (.ui rfl rfl rfl (.q (.as (v' := .int .u64 ((u + s[k + j].toNat % 128 * 128 ^ j : Nat) : Int)) (by exact congrArg (Value.int .u64) (sev_mul hj9 huj (by omega) (fun g => by have := h9 g; omega))) (.int rfl rfl rfl)) rfl (.an rfl (.sm rfl (.ui rfl rfl rfl (.an rfl (.seq (.sm rfl (.ui rfl rfl rfl (.nt (.condD rfl (fun h58 => ?_) (fun h58 => ?_)))))))))))))))))
  ·have hnb : ¬ badB j s[k + j] := by rintro (⟨g1, g2⟩ | ⟨g1, g2⟩); have := h9 g1; omega; omega
   have hj8 : j < 9 := by rcases Nat.lt_or_ge j 9 with g | g; exact g; exact absurd (h9 (by omega)) (by omega)
   refine .exit (.then_e (.blk_e (.then_n (.region (.m rfl (.q (.as (v' := vint ((j + 1 + 1 : Nat) : Int)) (by congr 1) (.add rfl rfl (by omega))) rfl (.an rfl ?_)))))))
   rw [unit_mul hj8]
   exact .rk ((j + 1, u + s[k + j].toNat % 128 * 128 ^ j)) (⟨by dsimp only; omega, by dsimp only; omega, by dsimp only; rw [Nat.pow_succ]; have := Nat.mul_le_mul_right (128 ^ j) (show s[k + j].toNat % 128 ≤ 127 by omega); omega, by dsimp only; rw [← hsv, sevP_at hlt, if_neg hnb, if_neg (by omega)]; rfl⟩) (by dsimp only; omega) ⟨rfl, rfl, rfl, rfl, trivial⟩
  refine .sk (.seq (.sm rfl (.ui rfl rfl rfl (.m rfl (.dec (t := 61) rfl (fun h17_61 => ?_) (fun h17_61 => ?_))))))
  ·refine .kDT (t := 60) rfl h17_61 (.grun (t := 61) rfl rfl rfl (.m rfl (.grun (t := 61) rfl rfl rfl (.ui rfl rfl rfl (.u (.pickT rfl rfl) (.nt (.condD rfl (fun h64 => ?_) (fun h64 => ?_))))))))
   ·refine .rfFold (r := r) s (k) (0) (by repeat' constructor) (by first | rfl | (simp only [List.set]; congr; omega)) (by omega) hsz (.sm rfl (.oq (.c Tryz.func233 [_, _] (rfwrong_spec r s k 0 11)) ?_))
    rintro v L' ⟨rfl, rfl⟩; rw [if_pos rfl]
    refine .nt (.sr (.an rfl (.rt (.blk_r (.then_r (.then_r (.blk_r ?_)))))))
    exact .dn rfl rfl ⟨0, 0, 11, .inl ⟨.inr (by rw [← hsv, sevP_at hlt, if_pos (.inr ⟨by omega, by omega⟩)]), rfl, rfl, by decide⟩, rfl, rfl⟩
   refine .sk (.seq ?_)
   have hnb : ¬ badB j s[k + j] := by rintro (⟨g1, g2⟩ | ⟨g1, g2⟩); have := h9 g1; omega; omega
   refine .region (.m rfl (.m rfl (.nf rfl fo_247_1 (.u (.ld rfl ag_3) (.m rfl (.q (.add rfl rfl (by omega)) rfl (.nf rfl fo_247_1 (.st rfl rfl rfl sz_3 ?_))))))))
   refine .nt (.sm rfl (.an rfl (.ret (.blk_r (.then_r (.then_r (.blk_r (.rfFold (r := r) s (k + (j + 1)) (0) (by repeat' constructor) (by first | rfl | (simp only [List.set]; congr; omega)) (by omega) hsz ?_))))))))
   exact .dn rfl rfl ⟨_, j + 1, 0, .inr ⟨rfl, rfl, by omega, by rw [← hsv, sevP_at hlt, if_neg hnb, if_pos (by omega)]; rfl⟩, rfl, rfl⟩
  refine .kDF (t := 60) rfl h17_61 (.gk (.gk (.u (.pickF rfl rfl) (.nt (.condF rfl (.sk (.seq ?_)))))))
  have hnb : ¬ badB j s[k + j] := by rintro (⟨g1, g2⟩ | ⟨g1, g2⟩); have := h9 g1; omega; omega
  refine .region (.m rfl (.m rfl (.nf rfl fo_247_1 (.u (.ld rfl ag_3) (.m rfl (.q (.add rfl rfl (by omega)) rfl (.nf rfl fo_247_1 (.st rfl rfl rfl sz_3 ?_))))))))
  refine .nt (.sm rfl (.an rfl (.ret (.blk_r (.then_r (.then_r (.blk_r (.rfFold (r := r) s (k + (j + 1)) (0) (by repeat' constructor) (by first | rfl | (simp only [List.set]; congr; omega)) (by omega) hsz ?_))))))))
  exact .dn rfl rfl ⟨_, j + 1, 0, .inr ⟨rfl, rfl, by omega, by rw [← hsv, sevP_at hlt, if_neg hnb, if_pos (by omega)]; rfl⟩, rfl, rfl⟩
 refine .m rfl (.nf rfl fo_247_2 (.u (.ld rfl ag_60) (.q (.as (v' := .bool true) (by simp [he0]) (.int rfl rfl rfl)) rfl (.nt (.condT rfl (.sr (.an rfl (.rt (.rfFold (r := r) s (k) (e) (by repeat' constructor) (by first | rfl | (simp only [List.set]; congr; omega)) (by omega) hsz ?_)))))))))
 exact .dn rfl rfl ⟨0, 0, e, .inl ⟨.inl he0, rfl, rfl, he0⟩, rfl, rfl⟩
theorem rfzag_spec (u : Nat) (hu : u < U64) : Fn Tryz.prog 242 #[.int .u64 (u : Nat)] [] fun v L => v = vint (zagZ u) ∧ L = [] := by
 refine Fn.intro Tryz.func242 rfl rfl fun F W => ?_
 have h64 : U64 = 18446744073709551616 := rfl
 refine .sr (.an rfl (.seq (.sm rfl (.q (.to (v' := .int .u64 ((u % 2 : Nat) : Int)) (.remU rfl rfl (by omega) (by decide)) (by rfl)) rfl (.ui rfl rfl rfl (.nt (.condD rfl (fun h5 => ?_) (fun h5 => ?_))))))))
 ·refine .sm rfl (.q (.to (v' := .int .u64 ((u / 2 : Nat) : Int)) (.quoU rfl rfl (by omega) (by decide)) (by rfl)) rfl (.q (.as (v' := vint ((u / 2 : Nat) : Int)) (by rw [i64w (by omega)]) (.conv rfl Tryz.underlying202 Tryz.underlying3)) rfl (.an rfl (.rt ?_))))
  exact .dn rfl rfl ⟨congrArg vint (by unfold zagZ; rw [if_pos (by omega)]), rfl⟩
 refine .sk (.sm rfl (.q (.to (v' := .int .u64 ((u / 2 : Nat) : Int)) (.quoU rfl rfl (by omega) (by decide)) (by rfl)) rfl (.q (.as (v' := vint ((u / 2 : Nat) : Int)) (by rw [i64w (by omega)]) (.conv rfl Tryz.underlying202 Tryz.underlying3)) rfl (.q (.neg rfl (by omega)) rfl (.q (.sub rfl rfl (by omega)) rfl (.an rfl (.ret ?_)))))))
 exact .dn rfl rfl ⟨congrArg vint (by unfold zagZ; rw [if_neg (by omega)]), rfl⟩
theorem rfnumW_spec (r : Nat) (s : Bs) (k : Nat) (e : Int) : Fn Tryz.prog 229 #[vptr r] [rfW r s k e] fun v L => ∃ k' e', stW s k' e' = (runP 0 numP (stW s k e)).2 ∧ v = vint (runP 0 numP (stW s k e)).1 ∧ L = [rfW r s k' e'] := by
 refine Fn.intro Tryz.func229 rfl rfl fun F W => ?_
 refine .sr (.an rfl (.sm rfl (.oq (.c Tryz.func241 [_] (rfsevens_spec r s k e)) ?_)))
 rintro v L' ⟨u, m, e', hA, rfl, rfl⟩; have hu := hA.lt
 refine .an rfl (.sm rfl (.cv Tryz.func242 [_] (rfzag_spec u hu) ?_))
 refine .an rfl (.ret ?_)
 rw [hA.num.2]
 exact .dn rfl rfl ⟨k + m, e', hA.num.1, rfl, rfl⟩
theorem SevA.fine {s : Bs} {k : Nat} {e : Int} {u m : Nat} {e' : Int} (h : SevA s k e u m e') (g : e' ≠ 0) : u = 0 := by
 rcases h with ⟨-, rfl, -⟩ | ⟨-, h, -⟩
 ·rfl
 ·exact absurd h g
theorem rfcountW_spec (r most : Nat) (hm : most ≤ 70368744177664) (s : Bs) (k : Nat) (e : Int) : Fn Tryz.prog 230 #[vptr r, vint most] [rfW r s k e] fun v L => ∃ k' e', k' ≤ s.length ∧ stW s k' e' = (runP 0 (cntP most) (stW s k e)).2 ∧ v = vint ((runP 0 (cntP most) (stW s k e)).1 : Nat) ∧ L = [rfW r s k' e'] := by
 refine Fn.intro Tryz.func230 rfl rfl fun F W => ?_
 refine .rfOpen (by repeat' constructor) fun hkl hsz => (.sr (.an rfl (.sm rfl (.nf rfl fo_247_1 (.u (.ld rfl ag_3) (.a rfl (.nil (.rfFold (r := r) s (k) (e) (by repeat' constructor) (by first | rfl | (simp only [List.set]; congr; omega)) (by omega) hsz (.then_n (.sm rfl (.oq (.c Tryz.func241 [_] (rfsevens_spec r s k e)) ?_)))))))))))
 rintro v L' ⟨u, m, e', hA, rfl, rfl⟩; have hu := hA.lt
 refine .an rfl (.seq (.seq (.rfOpen (by repeat' constructor) fun hkm hsz => (.region (.m rfl (.nf rfl fo_247_2 (.u (.ld rfl ag_60) (.ui rfl rfl rfl (.m rfl (.dec (t := 18) rfl (fun h3_18 => ?_) (fun h3_18 => ?_)))))))))))
 ·refine .kDT (t := 17) rfl h3_18 (.grun (t := 18) rfl rfl rfl (.m rfl (.grun (t := 18) rfl rfl rfl (.m rfl (.grun (t := 18) rfl rfl rfl (.q (.as (v' := vint (most : Nat)) (by rw [Int.max_eq_left (by omega)]) (.max2 rfl rfl)) rfl (.grun (t := 18) rfl rfl rfl (.q (.as (v' := .int .u64 (most : Nat)) (by exact congrArg (Value.int .u64) (by rw [u64wrap]; omega)) (.conv rfl Tryz.underlying3 Tryz.underlying202)) rfl (.grun (t := 18) rfl rfl rfl (.ui rfl rfl rfl (.u (.pickT rfl rfl) (.nt (.condD rfl (fun h24 => ?_) (fun h24 => ?_))))))))))))))
  ·refine .sm rfl (.m rfl (.nf rfl fo_247_1 (.st rfl rfl rfl sz_3 ?_)))
   refine .nil (.rfFold (r := r) s (k) (e') (by repeat' constructor) (by first | rfl | (simp only [List.set]; congr; omega)) (by omega) hsz (.then_n (.sm rfl (.cv Tryz.func233 [_, _] (rfwrong_spec r s k e' 12) ?_))))
   refine .nt (.sr (.an rfl (.rt ?_)))
   rw [hA.cntT (most := most) (by omega)]
   exact .dn rfl rfl ⟨k, _, hkl, st_none (x := 12) (by decide), rfl, rfl⟩
  refine .sk (.seq ?_)
  have hnm : ¬ most < u := by omega
  have hu64 : U64 = 18446744073709551616 := rfl
  refine .region (.m rfl (.q (.as (v' := vint (u : Nat)) (by rw [i64w (by have : u ≤ most := Nat.not_lt.1 hnm; omega)]) (.conv rfl Tryz.underlying202 Tryz.underlying3)) rfl (.an rfl (.ret (.rfFold (r := r) s (k + m) (e') (by repeat' constructor) (by first | rfl | (simp only [List.set]; congr; omega)) (by omega) hsz ?_)))))
  obtain ⟨hc1, hc2⟩ := hA.cntF hnm
  rw [hc2]
  exact .dn rfl rfl ⟨k + m, e', hkm, hc1, rfl, rfl⟩
 refine .kDF (t := 17) rfl h3_18 (.gk (.gk (.gk (.gk (.gk (.u (.pickF rfl rfl) (.nt (.condF rfl (.sk (.seq ?_))))))))))
 have hnm : ¬ most < u := by have := hA.fine h3_18; omega
 have hu64 : U64 = 18446744073709551616 := rfl
 refine .region (.m rfl (.q (.as (v' := vint (u : Nat)) (by rw [i64w (by have : u ≤ most := Nat.not_lt.1 hnm; omega)]) (.conv rfl Tryz.underlying202 Tryz.underlying3)) rfl (.an rfl (.ret (.rfFold (r := r) s (k + m) (e') (by repeat' constructor) (by first | rfl | (simp only [List.set]; congr; omega)) (by omega) hsz ?_)))))
 obtain ⟨hc1, hc2⟩ := hA.cntF hnm
 rw [hc2]
 exact .dn rfl rfl ⟨k + m, e', hkm, hc1, rfl, rfl⟩
theorem st_bad {s : Bs} {k : Nat} {e : Int} (h : ¬ e = 0) : stW s k e = none := if_neg h
theorem txt_bad {most : Nat} {st : Rs} (h : (runP 0 (cntP most) st).2 = none) : (runP [] (txtP most) st).2 = none ∧ (runP [] (txtP most) st).1 = [] := by
  cases st with
  | none => exact ⟨rfl, rfl⟩
  | some q =>
    cases hc : cntP most q with
    | none => have f2 : runP [] (txtP most) (some q) = ([], none) := by unfold runP txtP; dsimp only; rw [hc]
              rw [f2]; exact ⟨rfl, rfl⟩
    | some x => have f : runP 0 (cntP most) (some q) = (x.1, some x.2) := by unfold runP; dsimp only; rw [hc]
                rw [f] at h; cases h
theorem rftextW_spec (r most : Nat) (hm : most ≤ 70368744177664) (s : Bs) (k : Nat) (e : Int) : Fn Tryz.prog 245 #[vptr r, vint most] [rfW r s k e] fun v L => ∃ k' e', stW s k' e' = (runP [] (txtP most) (stW s k e)).2 ∧ v = vstr (runP [] (txtP most) (stW s k e)).1 ∧ L = [rfW r s k' e'] := by
 refine Fn.intro Tryz.func245 rfl rfl fun F W => ?_
 refine .rfOpen (by repeat' constructor) fun hkl hsz => (.sr (.an rfl (.sm rfl (.nf rfl fo_247_1 (.u (.ld rfl ag_3) (.a rfl (.nil (.rfFold (r := r) s (k) (e) (by repeat' constructor) (by first | rfl | (simp only [List.set]; congr; omega)) (by omega) hsz (.then_n (.sm rfl (.m rfl (.oq (.c Tryz.func230 [_, _] (rfcountW_spec r most hm s k e)) ?_))))))))))))
 rintro v L' ⟨k1, e1, hk1, hs1, rfl, rfl⟩; obtain ⟨n, hn⟩ : ∃ n, n = (runP 0 (cntP most) (stW s k e)).1 := ⟨_, rfl⟩; rw [← hn]
 refine .a rfl (.nil ?_)
 have hrun := txt_run hs1 hn hk1
 refine .then_n (.seq (.seq (.rfOpen (by repeat' constructor) fun _ _ => (.region (.m rfl (.nf rfl fo_247_2 (.u (.ld rfl ag_60) (.ui rfl rfl rfl (.nt (.condN rfl (fun h19 => ?_) (fun h19 => ?_)))))))))))
 ·have hst1 := st_bad (s := s) (k := k1) h19
  rw [hs1] at hst1
  obtain ⟨hb1, hb2⟩ := txt_bad hst1
  refine .sr (.an rfl (.rt (.rfFold (r := r) s (k1) (e1) (by repeat' constructor) (by first | rfl | (simp only [List.set]; congr; omega)) (by omega) hsz ?_)))
  rw [hb2]
  exact .dn rfl rfl ⟨k1, e1, (by rw [hb1]; exact st_bad h19), rfl, rfl⟩
 refine .sk (.seq (.seq (.draw [] [[0, 1, 2, 3, 4, 5, 6, 7, 8, 9, 10, 11]] mixed (by kernel_rfl) (.g0 (.mv rfl rfl (.nf rfl rfl rfl fo_247_0 (.kv rfl (.ld rfl ag_9) (.kv rfl (.strlen rfl Tryz.underlying9 rfl) (.mv rfl rfl (.nf rfl rfl rfl fo_247_1 (.kv rfl (.ld rfl ag_3) (.kv rfl (.sub rfl rfl (by omega)) (.mv rfl rfl (.kv rfl (.int rfl rfl rfl) (.pf (.condD rfl (fun h31 => ?_) (fun h31 => ?_)))))))))))))))))
 ·refine .sm rfl (.m rfl (.nf rfl fo_247_1 (.st rfl rfl rfl sz_3 ?_)))
  refine .nil (.rfFold (r := r) s (k) (e1) (by repeat' constructor) (by first | rfl | (simp only [List.set]; congr; omega)) (by omega) hsz (.then_n (.sm rfl (.cv Tryz.func233 [_, _] (rfwrong_spec r s k e1 10) ?_))))
  refine .nt (.sr (.an rfl (.rt ?_)))
  rw [hrun.1 (by omega)]
  exact .dn rfl rfl ⟨k, _, st_none (x := 10) (by decide), rfl, rfl⟩
 obtain ⟨hr1, hr2⟩ := hrun.2 (by omega)
 refine .sk (.seq (.draw [] [[0, 1, 2, 3, 4, 5, 6, 7, 8, 9, 10, 11, 12, 13, 14, 15]] mixed (by kernel_rfl) (.g0 (.mv rfl rfl (.nf rfl rfl rfl fo_247_0 (.kv rfl (.ld rfl ag_9) (.mv rfl rfl (.nf rfl rfl rfl fo_247_1 (.kv rfl (.ld rfl ag_3) (.mv rfl rfl (.nf rfl rfl rfl fo_247_1 (.kv rfl (.ld rfl ag_3) (.mv rfl rfl (.kv rfl (.as (v' := vint ((k1 + n : Nat) : Int)) (by first | rfl | (congr 1; omega)) (.add rfl rfl (by omega))) (.kv rfl (.to (v' := vstr ((s.take (k1 + n)).drop k1)) (.strMid rfl rfl rfl Tryz.underlying9 (by omega)) (by rfl)) (.kv rfl (.assign rfl) (.pf (.sm rfl (.m rfl (.nf rfl fo_247_1 (.u (.ld rfl ag_3) ?_)))))))))))))))))))))
 refine .m rfl (.q (.add rfl rfl (by omega)) rfl (.nf rfl fo_247_1 (.st rfl rfl rfl sz_3 ?_)))
 refine .nt (.sm rfl (.an rfl (.ret (.rfFold (r := r) s (k1 + n) (e1) (by repeat' constructor) (by first | rfl | (simp only [List.set]; congr; omega)) (by omega) hsz ?_))))
 rw [hr2]
 exact .dn rfl rfl ⟨k1 + n, e1, hr1, rfl, rfl⟩
theorem rfendW_spec (r : Nat) (s : Bs) (k : Nat) (e : Int) : Fn Tryz.prog 213 #[vptr r] [rfW r s k e] fun v L => ∃ e1, (e1 = 0 ↔ stW s k e = some []) ∧ v = vint e1 ∧ L = [rfW r s k e1] := by
 refine Fn.intro Tryz.func213 rfl rfl fun F W => ?_
 refine .rfOpen (by repeat' constructor) fun hkl hsz => (.sr (.an rfl (.seq (.seq (.draw [] [[0, 1, 2, 3, 4, 5, 6, 7, 8, 9]] mixed (by kernel_rfl) (.g0 (.mv rfl rfl (.nf rfl rfl rfl fo_247_1 (.kv rfl (.ld rfl ag_3) (.mv rfl rfl (.nf rfl rfl rfl fo_247_0 (.kv rfl (.ld rfl ag_9) (.kv rfl (.strlen rfl Tryz.underlying9 rfl) (.kv rfl (.int rfl rfl rfl) (.pf (.condN rfl (fun h12 => ?_) (fun h12 => ?_)))))))))))))))))
 ·refine .rfFold (r := r) s (k) (e) (by repeat' constructor) (by first | rfl | (simp only [List.set]; congr; omega)) (by omega) hsz (.region (.m rfl (.cv Tryz.func233 [_, _] (rfwrong_spec r s k e 11) ?_)))
  refine .nt (.seq (.rfOpen (by repeat' constructor) fun _ _ => (.region (.m rfl (.nf rfl fo_247_2 (.u (.ld rfl ag_60) (.an rfl (.ret (.rfFold (r := r) s (k) (if e = 0 then 11 else e) (by repeat' constructor) (by first | rfl | (simp only [List.set]; congr; omega)) (by omega) hsz ?_)))))))))
  exact .dn rfl rfl ⟨_, end_T (by omega), rfl, rfl⟩
 refine .sk (.sm rfl (.nf rfl fo_247_2 (.u (.ld rfl ag_60) (.an rfl (.ret (.rfFold (r := r) s (k) (e) (by repeat' constructor) (by first | rfl | (simp only [List.set]; congr; omega)) (by omega) hsz ?_))))))
 exact .dn rfl rfl ⟨_, end_F (by omega), rfl, rfl⟩
theorem rfnum_spec (r : Nat) (st : Rs) : Fn Tryz.prog 229 #[vptr r] [rfR r st] fun v L => v = vint (runP 0 numP st).1 ∧ L = [rfR r (runP 0 numP st).2] := Fn.rfUp (v := vint) (fun s k e => rfnumW_spec r s k e) st
theorem rfcount_spec (r most : Nat) (hm : most ≤ 70368744177664) (st : Rs) : Fn Tryz.prog 230 #[vptr r, vint most] [rfR r st] fun v L => v = vint ((runP 0 (cntP most) st).1 : Nat) ∧ L = [rfR r (runP 0 (cntP most) st).2] := Fn.rfUp (v := fun n : Nat => vint n) (fun s k e => (rfcountW_spec r most hm s k e).mono fun _ _ ⟨k', e', _, h⟩ => ⟨k', e', h⟩) st
theorem rftext_spec (r most : Nat) (hm : most ≤ 70368744177664) (st : Rs) : Fn Tryz.prog 245 #[vptr r, vint most] [rfR r st] fun v L => v = vstr (runP [] (txtP most) st).1 ∧ L = [rfR r (runP [] (txtP most) st).2] := Fn.rfUp (v := vstr) (fun s k e => rftextW_spec r most hm s k e) st
theorem rfend_spec (r : Nat) (st : Rs) : Fn Tryz.prog 213 #[vptr r] [rfR r st] fun v L => ∃ e1, (e1 = 0 ↔ st = some []) ∧ v = vint e1 ∧ ∃ st', L = [rfR r st'] := Fn.rfEnd (fun s k e => rfendW_spec r s k e) st
theorem rfnumR_spec (r : Nat) (st : Rs) : Fn Tryz.prog 229 #[vptr r] [rfR r st] fun v L => v = vint (numR st).1 ∧ L = [rfR r (numR st).2] := rfnum_spec r st
theorem rftxtR_spec (r : Nat) (st : Rs) : Fn Tryz.prog 245 #[vptr r, vint 4096] [rfR r st] fun v L => v = vstr (txtR st).1 ∧ L = [rfR r (txtR st).2] := rftext_spec r 4096 (by decide) st
theorem many_none {α : Type} {f : Rn α} (hf : (f none).2 = none) {st : Rs} : ∀ (k j : Nat), (manyR f j st).2 = none → (manyR f (j + k) st).2 = none
 | 0, _, h => h
 | k + 1, j, h => by
  show (f (manyR f (j + k) st).2).2 = none
  rw [many_none hf k j h]; exact hf
theorem many_stop {α : Type} {f : Rn α} (hf : (f none).2 = none) {st : Rs} {j m : Nat} (hj : j ≤ m) (h : (manyR f j st).2 = none) : (manyR f m st).2 = none := by
 have := many_none hf (m - j) j h
 rwa [show j + (m - j) = m by omega] at this
theorem many_fine {α : Type} {f : Rn α} (hf : (f none).2 = none) {st : Rs} {m : Nat} (h : (manyR f m st).2 ≠ none) : st ≠ none := fun g => h (many_stop (j := 0) hf (Nat.zero_le _) g)
theorem take_set (l : List Int) (k : Nat) (v : Int) : (ints l ++ List.replicate (k + 1) (vint 0)).set (0 + l.length * 1) (vint v) = ints (l ++ [v]) ++ List.replicate k (vint 0) := by
 have hl : (ints l).length = l.length := by simp [ints]
 rw [Nat.zero_add, Nat.mul_one, List.set_append_right _ _ (by omega), hl, Nat.sub_self, List.replicate_succ]
 simp [ints]
theorem r2count_spec (r : Nat) (st : Rs) : Fn Tryz.prog 244 #[vptr r] [rfR r st] fun v L => v = vint ((cntR st).1 : Nat) ∧ L = [rfR r (cntR st).2] := by
 refine Fn.intro Tryz.func244 rfl rfl fun F W => ?_
 refine .sr (.an rfl (.sm rfl (.cv Tryz.func230 [_, _] (rfcount_spec r 256 (by decide) st) ?_)))
 refine .an rfl (.ret ?_)
 exact .vv
theorem r2take_spec (r n : Nat) (st : Rs) (hn : n ≤ 1048576) : Fn Tryz.prog 231 #[vptr r, vint n] [rfR r st] fun v L => ∃ b, v = .slice (some ⟨b, 0, none⟩) n n ∧ L = [rfR r (manyR numR n st).2, ptc b (ints (manyR numR n st).1) 3] := by
 refine Fn.intro Tryz.func231 rfl rfl fun F W => ?_
 refine .sr (.an rfl (.sm rfl (.oq (.make rfl rfl el_32 ze_3 rfl ⟨by simp, by simp; rfl⟩ ?c3) ?_)))
 case c3 => omega
 rintro v L' ⟨bz, rfl, rfl⟩
 refine .a rfl (.nil ?_)
 simp only [Int.toNat_natCast, Nat.mul_one]
 refine .ptCast (b := bz) (l' := ints (manyR numR 0 st).1 ++ List.replicate (n - 0) (vint 0)) (by repeat' constructor) rfl (.then_n (.seq (.sr (.an rfl (.block (.loopK (ι := Nat) (fun q E => (6, vint q) :: E) (fun q => [rfR r (manyR numR q st).2, ptc bz (ints (manyR numR q st).1 ++ List.replicate (n - q) (vint 0)) 3]) (fun q => q ≤ n) (fun q => n - q) (0) (ts := [0, 1, 4, 5]) (.cons rfl (.cons rfl (.cons rfl (.cons rfl (.nil))))) (Nat.zero_le _) ⟨rfl, rfl, rfl, rfl, rfl, trivial⟩ (by repeat' constructor) ?_))))))
 rintro j hj
 refine .seq (.sm rfl (.m rfl (.ui rfl rfl rfl (.nt (.condD rfl (fun h11 => ?_) (fun h11 => ?_))))))
 ·have hj2 : j < n := by omega
  have hml := many_len numR st j
  refine .sk (.seq (.block (.region (.m rfl (.m rfl (.m rfl (.cv Tryz.func229 [_] (rfnumR_spec _ _) ?_)))))))
  refine .q (.indexAddr rfl rfl el_32 (by omega)) rfl (.oq (.store rfl rfl rfl sz_3 ?c16 (nfz0 _ _)) ?_)
  case c16 => simp [ints, hml]; omega
  rintro v L' rfl
  refine .nil (.blk_n (.then_n (.region (.m rfl (.q (.add rfl rfl (by omega)) rfl (.an rfl (.ptCast (b := bz) (l' := ints (manyR numR (j + 1) st).1 ++ List.replicate (n - (j + 1)) (vint 0)) (by repeat' constructor) (by rw [Int.toNat_natCast, show n - j = (n - (j + 1)) + 1 by omega]; have h := take_set (manyR numR j st).1 (n - (j + 1)) (numR (manyR numR j st).2).1; rw [many_len] at h; exact h) ?_)))))))
  exact .rk (j + 1) (by omega) (by omega) ⟨rfl, rfl, rfl, rfl, rfl, trivial⟩
 obtain rfl : j = n := by omega
 refine .ptCast (b := bz) (l' := ints (manyR numR j st).1) (by repeat' constructor) (by simp) (.exit (.then_e (.then_e (.blk_e (.then_n (.sm rfl (.an rfl (.ret ?_))))))))
 exact .dn rfl rfl ⟨bz, rfl, rfl⟩
theorem r2tacls_spec (r : Nat) (st : Rs) : Fn Tryz.prog 246 #[vptr r] [rfR r st] fun v L => ∃ (l : List Ac) (a : Option Addr) (c : Nat), v = .slice a l.length c ∧ l.length ≤ 256 ∧ ((rowsR acR st).2 ≠ none → l = (rowsR acR st).1) ∧ L = [rfR r (rowsR acR st).2, slR 258 2 v l.length (l.flatMap acC)] := by
 refine Fn.intro Tryz.func246 rfl rfl fun F W => ?_
 obtain ⟨m, hm⟩ : ∃ m, m = (cntR st).1 := ⟨_, rfl⟩
 obtain ⟨st1, hst1⟩ : ∃ s, s = (cntR st).2 := ⟨_, rfl⟩
 have hm2 := cntR_le st
 have hrow : rowsR acR st = manyR acR m st1 := by rw [hm, hst1]; rfl
 rw [hrow]
 refine .sr (.an rfl (.seq (.add (slR_nil 258 2) (.region (.an rfl (.sm rfl (.oq (.c Tryz.func244 [_] (r2count_spec r st)) ?_)))))))
 rintro v L' ⟨rfl, rfl⟩; rw [show (cntR st).1 = m from hm.symm, show (cntR st).2 = st1 from hst1.symm]
 refine .an rfl (.seq (.sr (.an rfl (.block (.loopK (ι := Nat × Value) (fun q E => (5, vint q.1) :: (3, q.2) :: E) (fun q => [rfR r (manyR acR q.1 st1).2, slR 258 2 q.2 q.1 ((manyR acR q.1 st1).1.flatMap acC)]) (fun q => q.1 ≤ m ∧ ∃ a c, q.2 = .slice a q.1 c) (fun q => m - q.1) (0, .slice none 0 0) (ts := [0, 2, 4]) (.cons rfl (.cons rfl (.cons rfl (.nil)))) (⟨Nat.zero_le _, none, 0, rfl⟩) ⟨rfl, rfl, rfl, rfl, rfl, trivial⟩ (by repeat' constructor) ?_)))))
 rintro ⟨j, u⟩ ⟨hj, au, cu, hu⟩
 dsimp only
 dsimp only at hj hu
 subst hu
 refine .seq (.seq (.rfLook (r := r) (by repeat' constructor) fun s0 k0 e0 hst0 hk0 hs0 => (.region (.m rfl (.m rfl (.ui rfl rfl rfl (.m rfl (.dec (t := 13) rfl (fun h4_13 => ?_) (fun h4_13 => ?_)))))))))
 ·refine .kDT (t := 12) rfl h4_13 (.grun (t := 13) rfl rfl rfl (.m rfl (.grun (t := 13) rfl rfl rfl (.u (.nilp rfl) (.grun (t := 13) rfl rfl rfl (.u (.fieldAddr rfl fo_247_2) (.grun (t := 13) rfl rfl rfl (.u (.ld rfl ag_60) (.grun (t := 13) rfl rfl rfl (.ui rfl rfl rfl (.u (.pickT rfl rfl) (.nil (.rfFold (r := r) s0 k0 e0 (by repeat' constructor) rfl hk0 hs0 (.rfUpF (r := r) (st := (manyR acR j st1).2) (by repeat' constructor) hst0 (.then_n (.condD rfl (fun h19 => ?_) (fun h19 => ?_)))))))))))))))))
  ·have hj2 : j < m := by omega
   refine .sk (.seq (.block (.sm rfl (.cv Tryz.func229 [_] (rfnumR_spec _ _) ?_))))
   refine .an rfl (.sm rfl (.cv Tryz.func245 [_, _] (rftxtR_spec r _) ?_))
   refine .an rfl (.region (.m rfl (.m rfl (.m rfl (.q (.to (v' := .agg (acC (acR (manyR acR j st1).2).1).toArray) (.build (us := [(0, _), (1, _)]) fl_258 ze_258 rfl rfl (by simp [isCell])) rfl) rfl (.oq (.buildSlice (vs := [_]) el_34 ze_258 rfl rfl rfl rfl (by first | (simp [Value.cells]; done) | (intro v hv; simp only [List.mem_cons, List.not_mem_nil, or_false] at hv; (repeat (first | (subst hv; rfl) | (rcases hv with hv | hv; (subst hv; rfl)))))) (by decide)) ?_))))))
   rintro v L' ⟨b4, rfl, rfl⟩
   refine .oq (.append1 rfl rfl rfl el_34 ze_258 rfl rfl ?c25 ?c26 (Nat.le_refl _) ?c27 (by decide)) ?_
   case c25 => simp only [List.map_cons, List.map_nil, List.flatten_cons, List.flatten_nil, List.append_nil]; simp [Value.cells, acC, isCell]
   case c26 => rfl
   case c27 => omega
   rintro v L' ⟨⟨a5, c5, rfl⟩, rfl⟩
   refine .a rfl (.nil (.blk_n (.then_n (.region (.m rfl (.q (.add rfl rfl (by omega)) rfl (.an rfl (.slCast (T := 258) (sz := 2) (m' := j + 1) (xs' := (manyR acR (j + 1) st1).1.flatMap acC) (by repeat' constructor) (by exact rfl) (by show _ = ((manyR acR j st1).1 ++ [_]).flatMap acC; rw [List.flatMap_append]; simp [Value.cells, acC]) ?_))))))))
   exact .rk ((j + 1, .slice a5 (j + 1) c5)) (⟨by dsimp only; omega, _, _, rfl⟩) (by dsimp only; omega) ⟨rfl, rfl, rfl, rfl, rfl, trivial⟩
  refine .exit (.then_e (.then_e (.blk_e (.then_n (.seq ?_)))))
  have hml := many_len acR st1 j
  have hbad : (manyR acR j st1).2 = none := by rw [← hst0]; exact st_bad h19
  have hfin := many_stop (f := acR) rfl hj hbad
  refine .region (.m rfl (.an rfl (.ret ?_)))
  rw [hfin, hbad]
  exact .dn rfl rfl ⟨(manyR acR j st1).1, au, cu, (by rw [hml]), (by omega), (fun g => absurd rfl g), (by rw [hml])⟩
 refine .kDF (t := 12) rfl h4_13 (.gk (.gk (.gk (.gk (.gk (.u (.pickF rfl rfl) (.nil (.rfFold (r := r) s0 k0 e0 (by repeat' constructor) rfl hk0 hs0 (.rfUpF (r := r) (st := (manyR acR j st1).2) (by repeat' constructor) hst0 (.then_n (.condF rfl (.exit (.then_e (.then_e (.blk_e (.then_n (.seq ?_)))))))))))))))))
 have hml := many_len acR st1 j
 have hjm : j = m := by omega
 subst hjm
 refine .region (.m rfl (.an rfl (.ret ?_)))
 exact .dn rfl rfl ⟨(manyR acR j st1).1, au, cu, (by rw [hml]), (by omega), (fun _ => rfl), (by rw [hml])⟩
theorem r2tpart_spec (r : Nat) (st : Rs) : Fn Tryz.prog 243 #[vptr r] [rfR r st] fun v L => ∃ y : Pt, ((ptR st).2 ≠ none → y.pl = (ptR st).1) ∧ y.acl.length ≤ 256 ∧ isCell y.aclV = true ∧ y.subsV = nilV ∧ v = .agg (ptC y).toArray ∧ L = [rfR r (ptR st).2, aclR y] := by
 refine Fn.intro Tryz.func243 rfl rfl fun F W => ?_
 refine .sr (.oq (.allocA ze_73) ?_)
 rintro v L' ⟨b2, rfl, rfl⟩
 refine .nt (.sr (.q (.to (v' := .agg (ptC ⟨0, [], [], nilV, [], 0, 0, 0, nilV⟩).toArray) (.build (us := []) fl_73 ze_73 rfl rfl (by simp [isCell])) rfl) rfl (.oq (.allocA ze_73) ?_)))
 rintro v L' ⟨b3, rfl, rfl⟩
 refine .oq (.storeA rfl rfl ?c6 sz_73 ?c9 ?c7 (nfz0 _ _)) ?_
 case c6 => decide
 case c9 => rfl
 case c7 => simp [ptC]
 rintro v L' rfl
 refine .nil (.ptCast (b := b3) (l' := ptC ⟨0, [], [], nilV, [], 0, 0, 0, nilV⟩) (by repeat' constructor) (by exact rfl) (.then_n (.sm rfl (.cv Tryz.func229 [_] (rfnumR_spec _ _) ?_))))
 refine .u (.fieldAddr rfl fo_73_0) (.oq (.store rfl rfl rfl sz_3 ?c15 (nfz0 _ _)) ?_)
 case c15 => simp [ptC]
 rintro v L' rfl
 refine .nt (.sm rfl (.cv Tryz.func245 [_, _] (rftxtR_spec r _) ?_))
 refine .u (.fieldAddr rfl fo_73_1) (.oq (.store rfl rfl rfl sz_9 ?c22 (nfz0 _ _)) ?_)
 case c22 => simp [ptC]
 rintro v L' rfl
 refine .nt (.sm rfl (.cv Tryz.func245 [_, _] (rftxtR_spec r _) ?_))
 refine .u (.fieldAddr rfl fo_73_2) (.oq (.store rfl rfl rfl sz_9 ?c29 (nfz0 _ _)) ?_)
 case c29 => simp [ptC]
 rintro v L' rfl
 refine .nt (.sm rfl (.oq (.c Tryz.func246 [_] (r2tacls_spec r _)) ?_))
 rintro v L' ⟨la, aa, ca, rfl, hla, hlr, rfl⟩
 refine .u (.fieldAddr rfl fo_73_3) (.oq (.store rfl rfl rfl sz_34 ?c36 (nfz0 _ _)) ?_)
 case c36 => simp [ptC]
 rintro v L' rfl
 refine .nt (.sm rfl (.oq (.call Tryz.func231 rfl rfl (vs := [_, _]) rfl (r2take_spec r 3 _ (by decide))) ?_))
 rintro v L' ⟨bt, rfl, rfl⟩
 refine .an rfl (.sm rfl (.q (.indexAddr rfl rfl el_32 (by omega)) rfl (.u (.ld rfl ag_3) (.u (.fieldAddr rfl fo_73_4) (.oq (.store rfl rfl rfl sz_3 ?c45 (nfz0 _ _)) ?_)))))
 case c45 => simp [ptC]
 rintro v L' rfl
 refine .nt (.sm rfl (.q (.indexAddr rfl rfl el_32 (by omega)) rfl (.u (.ld rfl ag_3) (.u (.fieldAddr rfl fo_73_5) (.oq (.store rfl rfl rfl sz_3 ?c51 (nfz0 _ _)) ?_)))))
 case c51 => simp [ptC]
 rintro v L' rfl
 refine .nt (.sm rfl (.q (.indexAddr rfl rfl el_32 (by omega)) rfl (.u (.ld rfl ag_3) (.u (.fieldAddr rfl fo_73_6) (.oq (.store rfl rfl rfl sz_60 ?c57 (nfz0 _ _)) ?_)))))
 case c57 => simp [ptC]
 rintro v L' rfl
 refine .nil ?_
 obtain ⟨y, hy⟩ : ∃ y : Pt, y = (⟨(numR st).1, (txtR (numR st).2).1, (txtR (txtR (numR st).2).2).1, .slice aa la.length ca, la, (numR (manyR numR 0 (rowsR acR (txtR (txtR (numR st).2).2).2).2).2).1, (numR (manyR numR 1 (rowsR acR (txtR (txtR (numR st).2).2).2).2).2).1, (numR (manyR numR 2 (rowsR acR (txtR (txtR (numR st).2).2).2).2).2).1, nilV⟩ : Pt) := ⟨_, rfl⟩
 refine .ptCast (b := b3) (l' := ptC y) (by repeat' constructor) (by rw [hy]; exact rfl) (.then_n (.sr (.q (.loadAs (vs := ptC y) rfl ag_73 (by repeat' constructor) (by simp [ptC]) rfl) rfl (.oq (.storeA rfl rfl ?c61 sz_73 ?c64 ?c62 (nfz0 _ _)) ?_))))
 case c61 => exact pt_cells (by rw [hy]; rfl) (by rw [hy]; rfl)
 case c64 => rfl
 case c62 => simp [ptC]
 rintro v L' rfl
 refine .nt (.ret (.ptCast (b := b2) (l' := ptC y) (by repeat' constructor) (by exact rfl) ?_))
 subst hy
 exact .d1 rfl (.cellA rfl ag_73 (by repeat' constructor) (by simp [ptC]) rfl) ⟨(⟨(numR st).1, (txtR (numR st).2).1, (txtR (txtR (numR st).2).2).1, .slice aa la.length ca, la, (numR (manyR numR 0 (rowsR acR (txtR (txtR (numR st).2).2).2).2).2).1, (numR (manyR numR 1 (rowsR acR (txtR (txtR (numR st).2).2).2).2).2).1, (numR (manyR numR 2 (rowsR acR (txtR (txtR (numR st).2).2).2).2).2).1, nilV⟩ : Pt), (fun g => by have h4 := many_fine (f := numR) (m := 3) (st := (rowsR acR (txtR (txtR (numR st).2).2).2).2) rfl g; have h5 := hlr h4; subst h5; rfl), hla, rfl, rfl, rfl, rfl⟩
theorem r2ttxn_spec (r : Nat) (st : Rs) : Fn Tryz.prog 232 #[vptr r] [rfR r st] fun v L => ∃ (y : Pt) (ys : List Pt) (a : Option Addr) (c : Nat), ((rowsR ptR (ptR st).2).2 ≠ none → y.pl = (ptR st).1 ∧ ys.map Pt.pl = (rowsR ptR (ptR st).2).1) ∧ isCell y.aclV = true ∧ (∀ z ∈ ys, isCell z.aclV = true ∧ z.subsV = nilV) ∧ v = .agg (ptC (y.ws (.slice a ys.length c))).toArray ∧ L = [rfR r (rowsR ptR (ptR st).2).2, aclR y, slR 73 8 (.slice a ys.length c) ys.length (ys.flatMap ptC), bigR aclR ys] := by
 refine Fn.intro Tryz.func232 rfl rfl fun F W => ?_
 obtain ⟨st0, hst00⟩ : ∃ s, s = (ptR st).2 := ⟨_, rfl⟩
 obtain ⟨m, hm⟩ : ∃ m, m = (cntR st0).1 := ⟨_, rfl⟩
 obtain ⟨st1, hst1⟩ : ∃ s, s = (cntR st0).2 := ⟨_, rfl⟩
 have hm2 := cntR_le st0
 have hrow : rowsR ptR st0 = manyR ptR m st1 := by rw [hm, hst1]; rfl
 rw [← hst00, hrow]
 refine .sr (.oq (.allocA ze_73) ?_)
 rintro v L' ⟨b2, rfl, rfl⟩
 refine .nt (.sm rfl (.oq (.c Tryz.func243 [_] (r2tpart_spec r st)) ?_))
 rintro v L' ⟨y, hyr, hyl, hyc, hys, rfl, rfl⟩; rw [← hst00] at hyr ⊢
 refine .oq (.allocA ze_73) ?_
 rintro v L' ⟨b3, rfl, rfl⟩
 refine .oq (.storeA rfl rfl ?c8 sz_73 ?c11 ?c9 (nfz0 _ _)) ?_
 case c8 => exact pt_cells hyc (by rw [hys]; rfl)
 case c11 => rfl
 case c9 => simp [ptC]
 rintro v L' rfl
 refine .nil (.ptCast (b := b3) (l' := ptC (y.ws (.slice none 0 0))) (by repeat' constructor) (by rw [show ptC (y.ws (.slice none 0 0)) = ptC y by unfold Pt.ws ptC; rw [hys]]; exact rfl) (.then_n (.sm rfl (.oq (.c Tryz.func244 [_] (r2count_spec r st0)) ?_))))
 rintro v L' ⟨rfl, rfl⟩; rw [show (cntR st0).1 = m from hm.symm, show (cntR st0).2 = st1 from hst1.symm]
 refine .an rfl (.seq (.seq (.add (slR_nil 73 8) (.add (p := bigR aclR []) (fun h => big_nil h) (.region (.an rfl (.block (.loopK (ι := Nat × Value × (List Pt)) (fun q E => (5, vint q.1) :: E) (fun q => [rfR r (manyR ptR q.1 st1).2, ptc b3 (ptC (y.ws q.2.1)) 73, slR 73 8 q.2.1 q.2.2.length (q.2.2.flatMap ptC), bigR aclR q.2.2]) (fun q => q.1 ≤ m ∧ q.2.2.length = q.1 ∧ (∃ a c, q.2.1 = .slice a q.1 c) ∧ ((manyR ptR q.1 st1).2 ≠ none → q.2.2.map Pt.pl = (manyR ptR q.1 st1).1) ∧ ∀ z ∈ q.2.2, isCell z.aclV = true ∧ z.subsV = nilV) (fun q => m - q.1) (0, .slice none 0 0, []) (ts := [0, 2, 3, 4]) (.cons rfl (.cons rfl (.cons rfl (.cons rfl (.nil))))) (⟨Nat.zero_le _, rfl, ⟨none, 0, rfl⟩, (fun _ => rfl), fun z hz => by cases hz⟩) ⟨rfl, rfl, rfl, rfl, rfl, trivial⟩ (by repeat' constructor) ?_))))))))
 rintro ⟨j, u, ys⟩ ⟨hj, hyl2, ⟨au, cu, hu⟩, hyr2, hyc2⟩
 dsimp only
 dsimp only at hj hyl2 hu hyr2 hyc2
 subst hu
 subst hyl2
 refine .seq (.seq (.rfLook (r := r) (by repeat' constructor) fun s0 k0 e0 hst0 hk0 hs0 => (.region (.m rfl (.m rfl (.ui rfl rfl rfl (.m rfl (.dec (t := 14) rfl (fun h4_14 => ?_) (fun h4_14 => ?_)))))))))
 ·refine .kDT (t := 13) rfl h4_14 (.grun (t := 14) rfl rfl rfl (.m rfl (.grun (t := 14) rfl rfl rfl (.u (.nilp rfl) (.grun (t := 14) rfl rfl rfl (.u (.fieldAddr rfl fo_247_2) (.grun (t := 14) rfl rfl rfl (.u (.ld rfl ag_60) (.grun (t := 14) rfl rfl rfl (.ui rfl rfl rfl (.u (.pickT rfl rfl) (.nil (.rfFold (r := r) s0 k0 e0 (by repeat' constructor) rfl hk0 hs0 (.rfUpF (r := r) (st := (manyR ptR ys.length st1).2) (by repeat' constructor) hst0 (.then_n (.condD rfl (fun h20 => ?_) (fun h20 => ?_)))))))))))))))))
  ·have hj2 : ys.length < m := by omega
   refine .sk (.seq (.block (.sm rfl (.oq (.c Tryz.func243 [_] (r2tpart_spec r _)) ?_))))
   rintro v L' ⟨z, hzr, hzl, hzc, hzs, rfl, rfl⟩
   refine .oq (.allocA ze_73) ?_
   rintro v L' ⟨b6, rfl, rfl⟩
   refine .oq (.storeA rfl rfl ?c30 sz_73 ?c33 ?c31 (nfz0 _ _)) ?_
   case c30 => exact pt_cells hzc (by rw [hzs]; rfl)
   case c33 => rfl
   case c31 => simp [ptC]
   rintro v L' rfl
   refine .nil (.ptCast (b := b6) (l' := ptC z) (by repeat' constructor) (by exact rfl) (.then_n (.region (.u (.fieldAddr rfl fo_73_7) (.u (.ld rfl ag_71) (.q (.loadAs (vs := ptC z) rfl ag_73 (by repeat' constructor) (by simp [ptC]) rfl) rfl (.oq (.buildSlice (vs := [_]) el_71 ze_73 rfl rfl rfl rfl (by first | (simp [Value.cells]; done) | (intro v hv; simp only [List.mem_cons, List.not_mem_nil, or_false] at hv; (repeat (first | (subst hv; rfl) | (rcases hv with hv | hv; (subst hv; rfl)))))) (by decide)) ?_)))))))
   rintro v L' ⟨b7, rfl, rfl⟩
   refine .oq (.append1 rfl rfl rfl el_71 ze_73 rfl rfl ?c40 ?c41 (Nat.le_refl _) ?c42 (by decide)) ?_
   case c40 => simp only [List.map_cons, List.map_nil, List.flatten_cons, List.flatten_nil, List.append_nil]; simp only [Value.cells]; intro w hw; exact pt_cells (y := z) hzc (by rw [hzs]; rfl) w (by simpa using hw)
   case c41 => rfl
   case c42 => omega
   rintro v L' ⟨⟨a4, c4, rfl⟩, rfl⟩
   refine .u (.fieldAddr rfl fo_73_7) (.oq (.store rfl rfl rfl sz_71 ?c46 (nfz0 _ _)) ?_)
   case c46 => simp [ptC]
   rintro v L' rfl
   refine .nil (.blk_n (.then_n (.region (.m rfl (.q (.add rfl rfl (by omega)) rfl (.an rfl (.bigAdd (f := aclR) (l := ys) (p := aclR z) z rfl (by repeat' constructor) (.slCast (T := 73) (sz := 8) (m' := (ys ++ [z]).length) (xs' := (ys ++ [z]).flatMap ptC) (by repeat' constructor) (by simp) (by rw [List.flatMap_append]; simp [Value.cells]) (.ptCast (b := b3) (l' := ptC (y.ws (.slice a4 (ys.length + 1) c4))) (by repeat' constructor) (by exact rfl) ?_)))))))))
   exact .rk ((ys.length + 1, .slice a4 (ys.length + 1) c4, ys ++ [z])) (⟨by dsimp only; omega, by simp, ⟨_, _, rfl⟩, (fun g => by show (ys ++ [z]).map Pt.pl = (manyR ptR ys.length st1).1 ++ [_]; have g2 : (manyR ptR ys.length st1).2 ≠ none := (fun g3 => g (by show (ptR (manyR ptR ys.length st1).2).2 = none; rw [g3]; rfl)); rw [List.map_append, hyr2 g2]; have g4 := hzr g; rw [← g4]; rfl), fun w hw => by rcases List.mem_append.1 hw with hw | hw; exact hyc2 w hw; rw [List.mem_singleton] at hw; subst hw; exact ⟨hzc, hzs⟩⟩) (by dsimp only; omega) ⟨rfl, rfl, rfl, rfl, rfl, trivial⟩
  refine .exit (.then_e (.then_e (.blk_e (.then_n (.seq ?_)))))
  have hbad : (manyR ptR ys.length st1).2 = none := by rw [← hst0]; exact st_bad h20
  have hfin := many_stop (f := ptR) rfl hj hbad
  refine .region (.q (.loadAs (vs := ptC (y.ws (.slice au ys.length cu))) rfl ag_73 (by repeat' constructor) (by simp [ptC]) rfl) rfl (.oq (.storeA rfl rfl ?c52 sz_73 ?c55 ?c53 (nfz0 _ _)) ?_))
  case c52 => exact pt_cells hyc rfl
  case c55 => rfl
  case c53 => simp [ptC]
  rintro v L' rfl
  refine .nt (.ret (.ptCast (b := b2) (l' := ptC (y.ws (.slice au ys.length cu))) (by repeat' constructor) (by exact rfl) ?_))
  rw [hfin, hbad]
  exact .d1 rfl (.cellA rfl ag_73 (by repeat' constructor) (by simp [ptC]) rfl) ⟨y, ys, au, cu, (fun g => absurd rfl g), hyc, hyc2, rfl, rfl⟩
 refine .kDF (t := 13) rfl h4_14 (.gk (.gk (.gk (.gk (.gk (.u (.pickF rfl rfl) (.nil (.rfFold (r := r) s0 k0 e0 (by repeat' constructor) rfl hk0 hs0 (.rfUpF (r := r) (st := (manyR ptR ys.length st1).2) (by repeat' constructor) hst0 (.then_n (.condF rfl (.exit (.then_e (.then_e (.blk_e (.then_n (.seq ?_)))))))))))))))))
 have hjm : ys.length = m := by omega
 refine .region (.q (.loadAs (vs := ptC (y.ws (.slice au ys.length cu))) rfl ag_73 (by repeat' constructor) (by simp [ptC]) rfl) rfl (.oq (.storeA rfl rfl ?c59 sz_73 ?c62 ?c60 (nfz0 _ _)) ?_))
 case c59 => exact pt_cells hyc rfl
 case c62 => rfl
 case c60 => simp [ptC]
 rintro v L' rfl
 refine .nt (.ret (.ptCast (b := b2) (l' := ptC (y.ws (.slice au ys.length cu))) (by repeat' constructor) (by exact rfl) ?_))
 rw [← hjm]
 exact .d1 rfl (.cellA rfl ag_73 (by repeat' constructor) (by simp [ptC]) rfl) ⟨y, ys, au, cu, (fun g => ⟨hyr (fun g2 => g (by rw [hst1, g2] ; exact many_stop (f := ptR) (j := 0) rfl (Nat.zero_le _) rfl)), hyr2 g⟩), hyc, hyc2, rfl, rfl⟩
theorem fill_e4 (z s x : Int) (y : Pt) (l : List Pt) : Instr.fill (fun i => [(0, 1), (1, 1), (2, 1), (3, 8)].toArray[i]?) ([.int .i64 0, .int .i64 0, .int .i64 0, .int .i64 0, .string (bs []), .string (bs []), .slice none 0 0, .int .i64 0, .int .i64 0, .int .i64 0, .slice none 0 0] : List Value).toArray [(0, vint z), (1, vint s), (2, vint x), (3, .agg (ptC y).toArray)] = some (enC ⟨z, s, x, y, l⟩).toArray := by kernel_rfl
theorem r2tent_spec (r : Nat) (st : Rs) : Fn Tryz.prog 212 #[vptr r] [rfR r st] fun v L => ∃ e : En, ((enR st).2 ≠ none → e.pl = (enR st).1) ∧ EnK e ∧ v = .agg (enC e).toArray ∧ L = [rfR r (enR st).2, entR e] := by
 refine Fn.intro Tryz.func212 rfl rfl fun F W => ?_
 refine .sr (.oq (.allocA ze_75) ?_)
 rintro v L' ⟨b2, rfl, rfl⟩
 refine .nt (.sm rfl (.oq (.c Tryz.func231 [_, _] (r2take_spec r 3 st (by decide))) ?_))
 rintro v L' ⟨bt, rfl, rfl⟩
 refine .an rfl (.sm rfl (.oq (.c Tryz.func232 [_] (r2ttxn_spec r _)) ?_))
 rintro v L' ⟨y, ys, sa, sc, hyr, hyc, hyc2, rfl, rfl⟩
 refine .oq (.allocA ze_73) ?_
 rintro v L' ⟨b4, rfl, rfl⟩
 refine .oq (.storeA rfl rfl ?c11 sz_73 ?c14 ?c12 (nfz0 _ _)) ?_
 case c11 => exact pt_cells hyc rfl
 case c14 => rfl
 case c12 => simp [ptC]
 rintro v L' rfl
 refine .nil (.ptCast (b := b4) (l' := ptC (y.ws (.slice sa ys.length sc))) (by repeat' constructor) (by exact rfl) (.then_n (.seq ?_)))
 have hek : EnK (⟨(numR (manyR numR 0 st).2).1, (numR (manyR numR 1 st).2).1, (numR (manyR numR 2 st).2).1, y.ws (.slice sa ys.length sc), ys⟩ : En) := ⟨⟨hyc, rfl⟩, hyc2⟩
 refine .draw [11] [[0, 1, 2, 3, 4, 5, 6, 7, 8, 9, 10, 11]] mixed (by kernel_rfl) (.g0 (.mv rfl rfl (.kv rfl (.indexAddr rfl rfl el_32 (by omega)) (.kv rfl (.ld rfl ag_3) (.mv rfl rfl (.kv rfl (.indexAddr rfl rfl el_32 (by omega)) (.kv rfl (.ld rfl ag_3) (.mv rfl rfl (.kv rfl (.indexAddr rfl rfl el_32 (by omega)) (.kv rfl (.ld rfl ag_3) (.kv rfl (.loadAs (vs := ptC (y.ws (.slice sa ys.length sc))) rfl ag_73 (by repeat' constructor) (by simp [ptC]) rfl) (.kv rfl (.to (v' := .agg (enC (⟨(numR (manyR numR 0 st).2).1, (numR (manyR numR 1 st).2).1, (numR (manyR numR 2 st).2).1, y.ws (.slice sa ys.length sc), ys⟩ : En)).toArray) (.buildN (pl := [(0, 1), (1, 1), (2, 1), (3, 8)]) (us := [(0, vint (numR (manyR numR 0 st).2).1), (1, vint (numR (manyR numR 1 st).2).1), (2, vint (numR (manyR numR 2 st).2).1), (3, .agg (ptC (y.ws (.slice sa ys.length sc))).toArray)]) (cells := enC (⟨(numR (manyR numR 0 st).2).1, (numR (manyR numR 1 st).2).1, (numR (manyR numR 2 st).2).1, y.ws (.slice sa ys.length sc), ys⟩ : En)) Tryz.underlying75 (by kernel_rfl) ze_75 rfl (fill_e4 _ _ _ _ _)) rfl) ?_))))))))))))
 refine D.hh rfl (.storeA rfl rfl ?c24 sz_75 ?c27 ?c25 (nfz0 _ _)) ?_
 case c24 => exact hek.cells
 case c27 => rfl
 case c25 => simp [enC, ptC]
 rintro v L' rfl
 refine D.pf (.ret (.ptCast (b := b2) (l' := enC (⟨(numR (manyR numR 0 st).2).1, (numR (manyR numR 1 st).2).1, (numR (manyR numR 2 st).2).1, y.ws (.slice sa ys.length sc), ys⟩ : En)) (by repeat' constructor) (by exact rfl) (.fold (p := entR (⟨(numR (manyR numR 0 st).2).1, (numR (manyR numR 1 st).2).1, (numR (manyR numR 2 st).2).1, y.ws (.slice sa ys.length sc), ys⟩ : En)) (q := [aclR y, slR 73 8 (.slice sa ys.length sc) ys.length (ys.flatMap ptC), bigR aclR ys]) (by repeat' constructor) (fun _ hp => hp) ?_)))
 exact .d1 rfl (.cellA rfl ag_75 (by repeat' constructor) (by simp [enC, ptC]) rfl) ⟨_, (fun g => by obtain ⟨g1, g2⟩ := hyr g; unfold En.pl; dsimp only; rw [g2]; rw [show (y.ws (.slice sa ys.length sc)).pl = y.pl from rfl, g1]; rfl), hek, rfl, rfl⟩
theorem r2get_spec (s : Bs) (hs : s.length ≤ 2147483648) : Fn Tryz.prog 173 #[vstr s] [] fun v L => ∃ e er, GotZ s e er ∧ v = .tuple #[.agg (enC e).toArray, vint er] ∧ L = [entR e] := by
 refine Fn.intro Tryz.func173 rfl rfl fun F W => ?_
 refine .sr (.oq (.allocA ze_75) ?_)
 rintro v L' ⟨b2, rfl, rfl⟩
 refine .an rfl (.sm rfl (.q (.to (v' := .agg [vstr s, vint 0, vint 0].toArray) (.build (us := [(0, _)]) fl_247 ze_247 rfl rfl (by simp [isCell])) rfl) rfl (.oq (.box rfl) ?_)))
 rintro v L' ⟨r, rfl, rfl⟩
 refine .an rfl (.seq (.rfFold (r := r) s 0 0 (by repeat' constructor) rfl (Nat.zero_le _) (by omega) (.rfUpF (r := r) (st := some s) (by repeat' constructor) rfl (.region (.m rfl (.oq (.c Tryz.func212 [_] (r2tent_spec r (some s))) ?_))))))
 rintro v L' ⟨e, hpl, hek, rfl, rfl⟩
 refine .oq (.allocA ze_75) ?_
 rintro v L' ⟨b5, rfl, rfl⟩
 refine .oq (.storeA rfl rfl ?c12 sz_75 ?c15 ?c13 (nfz0 _ _)) ?_
 case c12 => exact hek.cells
 case c15 => rfl
 case c13 => simp [enC, ptC]
 rintro v L' rfl
 refine .nil (.ptCast (b := b5) (l' := enC e) (by repeat' constructor) (by exact rfl) (.then_n (.seq (.sm rfl (.oq (.c Tryz.func213 [_] (rfend_spec r _)) ?_)))))
 rintro v L' ⟨e1, he1, rfl, st', rfl⟩
 refine .ui rfl rfl rfl (.nt (.condN rfl (fun h13 => ?_) (fun h13 => ?_)))
 ·refine .sr (.q (.to (v' := .agg (enC en0).toArray) (.buildN (pl := [(0, 1), (1, 1), (2, 1), (3, 8)]) (us := []) (cells := enC en0) Tryz.underlying75 (by kernel_rfl) ze_75 rfl rfl) rfl) rfl (.oq (.storeA rfl rfl ?c21 sz_75 ?c24 ?c22 (nfz0 _ _)) ?_))
  case c21 => decide
  case c24 => rfl
  case c22 => simp [enC, ptC]
  rintro v L' rfl
  refine .a rfl (.nil (.ptCast (b := b2) (l' := enC en0) (by repeat' constructor) (by exact rfl) (.add entR_0 (.then_n (.rt ?_)))))
  exact .d2 rfl (.cellA rfl ag_75 (by repeat' constructor) (by simp [enC, ptC]) rfl) (.tmp rfl) ⟨en0, 120, .inr ⟨rfl, get_bad (fun g => h13 (he1.2 g)), rfl⟩, rfl, rfl⟩
 refine .sk (.sr (.q (.loadAs (vs := enC e) rfl ag_75 (by repeat' constructor) (by simp [enC, ptC]) rfl) rfl (.oq (.storeA rfl rfl ?c28 sz_75 ?c31 ?c29 (nfz0 _ _)) ?_)))
 case c28 => exact hek.cells
 case c31 => rfl
 case c29 => simp [enC, ptC]
 rintro v L' rfl
 refine .a rfl (.nil (.ptCast (b := b2) (l' := enC e) (by repeat' constructor) (by exact rfl) (.then_n (.ret ?_))))
 exact .d2 rfl (.cellA rfl ag_75 (by repeat' constructor) (by simp [enC, ptC]) rfl) (.tmp rfl) ⟨e, 0, .inl ⟨rfl, (by rw [hpl (by rw [he1.1 h13]; exact fun g => by cases g)]; exact get_ok (he1.1 h13)), hek⟩, rfl, rfl⟩
theorem ac_cell {l : List Ac} {i k : Nat} (hi : i < l.length) (hk : k < 2) : (l.flatMap acC)[i * 2 + k]? = (acC l[i])[k]? := fm_cell (f := acC) (sz := 2) (fun _ _ => rfl) hi hk
theorem nums_len {ns : List Int} (h : ∀ n ∈ ns, I64 n) : (ns.flatMap numB).length ≤ ns.length * 10 := by
 induction ns with
 | nil => simp
 | cons n ns ih =>
  have h1 := ih (fun x hx => h x (List.mem_cons_of_mem _ hx))
  have h2 := numB_len (h n (List.mem_cons_self ..))
  rw [List.flatMap_cons, List.length_append, List.length_cons]; omega
theorem r2nums_spec (va : Value) (ns : List Int) (p : HP) (hp : ∀ h : Hp, p h → rdS 1 h va ns.length (ints ns)) (hi : ∀ n ∈ ns, I64 n) (hl : ns.length ≤ 2147483648) : Fn Tryz.prog 97 #[va] [p] fun v L => v = vstr (ns.flatMap numB) ∧ L = [p] := by
 refine Fn.intro Tryz.func97 rfl rfl fun F W => ?_
 have hnl := nums_len hi
 refine .rdAny (p := p) hp (by repeat' constructor) fun aa ca e _ => ?_
 subst e
 refine .sr (.an rfl (.sr (.an rfl (.seq (.sr (.an rfl (.block (.loopK (ι := Nat × Bs) (fun q E => (4, vint q.1) :: (3, vstr q.2) :: E) (fun q => []) (fun q => q.1 ≤ ns.length ∧ q.2 = (ns.take q.1).flatMap numB) (fun q => ns.length - q.1) (0, []) (ts := [0, 2]) (.cons rfl (.cons rfl (.nil))) (⟨Nat.zero_le _, rfl⟩) ⟨rfl, rfl, rfl, rfl, trivial⟩ (by repeat' constructor) ?_))))))))
 rintro ⟨i, t⟩ ⟨hj, ht⟩
 dsimp only
 dsimp only at hj ht
 have hft := fm_take numB ns i
 rw [← ht] at hft
 refine .seq (.sm rfl (.m rfl (.q (.slen rfl Tryz.underlying32 rfl) rfl (.ui rfl rfl rfl (.nt (.condD rfl (fun h8 => ?_) (fun h8 => ?_)))))))
 ·have hi2 : i < ns.length := by omega
  have h64 := hi _ (List.getElem_mem hi2)
  have hb10 := numB_len h64
  refine .rdShape (p := p) hp (by repeat' constructor) (by omega) fun ba oa e => ?_
  subst e
  refine .sk (.seq (.block (.region (.m rfl (.m rfl (.m rfl (.q (.indexAddr rfl rfl el_32 (by omega)) rfl (.q (.loadEl (p := p) (i := i * 1) (v := vint ns[i]) rfl ag_3 (by repeat' constructor) hp (by rw [Nat.mul_one]; simp [ints, hi2])) rfl (.cv Tryz.func149 [_] (r1num_spec ns[i] h64) ?_)))))))))
  refine .q (.concat rfl rfl (by omega)) rfl (.a rfl (.nil (.blk_n (.then_n (.region (.m rfl (.q (.add rfl rfl (by omega)) rfl (.an rfl ?_))))))))
  exact .rk ((i + 1, t ++ numB ns[i])) (⟨by dsimp only; omega, by dsimp only; rw [fm_step numB hi2, ht]⟩) (by dsimp only; omega) ⟨rfl, rfl, rfl, rfl, trivial⟩
 have hie : i = ns.length := by omega
 have hfin : t = ns.flatMap numB := by rw [ht, hie, List.take_length]
 subst hfin
 refine .exit (.then_e (.then_e (.blk_e (.then_n (.sm rfl (.an rfl (.ret ?_)))))))
 exact .vv
theorem r2acls_spec (va : Value) (l : List Ac) (p : HP) (hp : ∀ h : Hp, p h → rdS 2 h va l.length (l.flatMap acC)) (hi : ∀ a ∈ l, AcI a) (hl : (aclB l).length ≤ 70368744100000) (hn : l.length ≤ 1048576) : Fn Tryz.prog 205 #[va] [p] fun v L => v = vstr (aclB l) ∧ L = [p] := by
 refine Fn.intro Tryz.func205 rfl rfl fun F W => ?_
 refine .rdAny (p := p) hp (by repeat' constructor) fun aa ca e _ => ?_
 subst e
 have hll : (aclB l).length = (cntB l.length).length + (l.flatMap acB).length := by unfold aclB; rw [List.length_append]
 refine .sr (.an rfl (.sm rfl (.q (.slen rfl Tryz.underlying34 rfl) rfl (.cv Tryz.func98 [_] (r1cnt_spec l.length (by omega)) ?_))))
 refine .an rfl (.seq (.sr (.an rfl (.block (.loopK (ι := Nat × Bs) (fun q E => (4, vint q.1) :: (3, vstr q.2) :: E) (fun q => []) (fun q => q.1 ≤ l.length ∧ q.2 = cntB l.length ++ (l.take q.1).flatMap acB) (fun q => l.length - q.1) (0, cntB l.length) (ts := [0, 2]) (.cons rfl (.cons rfl (.nil))) (⟨Nat.zero_le _, by simp⟩) ⟨rfl, rfl, rfl, rfl, trivial⟩ (by repeat' constructor) ?_)))))
 rintro ⟨i, t⟩ ⟨hj, ht⟩
 dsimp only
 dsimp only at hj ht
 have htl : t.length = (cntB l.length).length + ((l.take i).flatMap acB).length := by rw [ht, List.length_append]
 refine .seq (.sm rfl (.m rfl (.q (.slen rfl Tryz.underlying34 rfl) rfl (.ui rfl rfl rfl (.nt (.condD rfl (fun h11 => ?_) (fun h11 => ?_)))))))
 ·have hi2 : i < l.length := by omega
  have hai := hi _ (List.getElem_mem hi2)
  have hfs := fm_stepL acB hi2
  have hab : (acB l[i]).length = (numB l[i].1).length + (txtB l[i].2).length := by unfold acB; rw [List.length_append]
  have htx : (txtB l[i].2).length = (cntB l[i].2.length).length + l[i].2.length := by unfold txtB; rw [List.length_append]
  have hn64 := hai.n
  refine .rdShape (p := p) hp (by repeat' constructor) (by omega) fun ba oa e => ?_
  subst e
  refine .sk (.seq (.block (.draw [] [[0, 1, 2, 3, 4, 5, 6, 7, 8, 9, 10, 11, 12, 13, 14, 15]] mixed (by kernel_rfl) (.go [p] (by repeat' constructor) (.mv rfl rfl (.mv rfl rfl (.mv rfl rfl (.kv rfl (.indexAddr rfl rfl el_34 (by omega)) (.kv rfl (.fieldAddr rfl fo_258_0) (.kv rfl (.loadRd (sz := 2) (j := i * 2 + 0) (p := p) (v := vint l[i].1) rfl ag_3 (by repeat' constructor) hp (by simp) ((ac_cell (k := 0) hi2 (by decide)).trans rfl)) (.m rfl (by kernel_rfl) (.c Tryz.func149 [_] (r1num_spec l[i].1 ?hn17)) (by repeat' constructor) ?_)))))))))))
  case hn17 => exact hn64
  refine D.kv rfl (.concat rfl rfl (by omega)) (.mv rfl rfl (.mv rfl rfl (.kv rfl (.indexAddr rfl rfl el_34 (by omega)) (.kv rfl (.fieldAddr rfl fo_258_1) (.kv rfl (.loadRd (sz := 2) (j := i * 2 + 1) (p := p) (v := vstr l[i].2) rfl ag_9 (by repeat' constructor) hp (by simp; omega) ((ac_cell (k := 1) hi2 (by decide)).trans rfl)) (.m rfl (by kernel_rfl) (.c Tryz.func99 [_] (r1txt_spec l[i].2 ?hb26)) (by repeat' constructor) ?_))))))
  case hb26 => omega
  refine D.kv rfl (.concat rfl rfl (by rw [List.length_append]; omega)) (.kv rfl (.assign rfl) (.ph (.fin (.blk_n (.then_n (.region (.m rfl (.q (.add rfl rfl (by omega)) rfl (.an rfl ?_)))))))))
  exact .rk ((i + 1, t ++ numB l[i].1 ++ txtB l[i].2)) (⟨by dsimp only; omega, by dsimp only; rw [fm_step acB hi2, ht]; unfold acB; simp only [List.append_assoc]⟩) (by dsimp only; omega) ⟨rfl, rfl, rfl, rfl, trivial⟩
 have hie : i = l.length := by omega
 have hfin : t = aclB l := by rw [ht, hie, List.take_length]; rfl
 subst hfin
 refine .exit (.then_e (.then_e (.blk_e (.then_n (.sm rfl (.an rfl (.ret ?_)))))))
 exact .vv
theorem r2part_spec (y : Pt) (p : HP) (hy : PtW p y) (hl : (ptB y).length ≤ 70368744100000) (hn : y.acl.length ≤ 1048576) : Fn Tryz.prog 188 #[.agg (ptC y).toArray] [p] fun v L => v = vstr (ptB y) ∧ L = [p] := by
 refine Fn.intro Tryz.func188 rfl rfl fun F W => ?_
 have hpl := ptB_len y
 have hiy := hy.i
 refine .sr (.oq (.box rfl) ?_)
 rintro v L' ⟨b1, rfl, rfl⟩
 refine .a rfl (.nil (.ptCast (b := b1) (l' := ptC y) (by repeat' constructor) (by exact rfl) (.then_n (.seq (.draw [21, 22] [[0, 1, 2, 3, 4, 5, 6, 7, 8, 9, 10, 11, 12, 13, 14, 15, 16, 17, 18, 19, 20, 21, 22], [23, 24]] mixed (by kernel_rfl) (.go [ptc b1 _ _, p] (by repeat' constructor) (.k rfl (.fieldAddr rfl fo_73_0) (.k rfl (.ld rfl ag_3) (.m rfl (by kernel_rfl) (.c Tryz.func149 [_] (r1num_spec y.kind hiy.kind)) (by repeat' constructor) ?_)))))))))
 refine D.k rfl (.fieldAddr rfl fo_73_1) (.k rfl (.ld rfl ag_9) (.m rfl (by kernel_rfl) (.c Tryz.func99 [_] (r1txt_spec y.path (by omega))) (by repeat' constructor) ?_))
 refine D.k rfl (.concat rfl rfl (by simp only [List.length_append, txtB] at *; omega)) (.k rfl (.fieldAddr rfl fo_73_2) (.k rfl (.ld rfl ag_9) (.m rfl (by kernel_rfl) (.c Tryz.func99 [_] (r1txt_spec y.data (by omega))) (by repeat' constructor) ?_)))
 refine D.k rfl (.concat rfl rfl (by simp only [List.length_append, txtB] at *; omega)) (.k rfl (.fieldAddr rfl fo_73_3) (.k rfl (.ld rfl ag_34) (.m rfl (by kernel_rfl) (.c Tryz.func205 [_] (r2acls_spec y.aclV y.acl p hy.acl hiy.acl (by omega) hn)) (by repeat' constructor) ?_)))
 refine D.k rfl (.concat rfl rfl (by simp only [List.length_append, txtB] at *; omega)) (.kv rfl (.fieldAddr rfl fo_73_4) (.kv rfl (.ld rfl ag_3) (.kv rfl (.fieldAddr rfl fo_73_5) (.kv rfl (.ld rfl ag_3) (.kv rfl (.fieldAddr rfl fo_73_6) (.kv rfl (.ld rfl ag_60) (.hh rfl (.buildSlice1 (vs := [_, _, _]) el_32 ze_3 rfl rfl rfl rfl rfl (by decide)) ?_)))))))
 rintro v L' ⟨b2, rfl, rfl⟩
 refine D.hh rfl (.call Tryz.func97 rfl rfl (vs := [_]) rfl (r2nums_spec _ [y.own, y.num, y.err] (ptc b2 (ints [y.own, y.num, y.err]) 3) (fun h hp => slR_rd (slR_pt hp rfl)) (fun n hn => by simp only [List.mem_cons, List.not_mem_nil, or_false] at hn; rcases hn with rfl | rfl | rfl; exact hiy.own; exact hiy.num; exact hiy.err) (by simp))) ?_
 rintro v L' ⟨rfl, rfl⟩
 refine D.ph (.g0 (.kv rfl (.concat rfl rfl (by simp only [List.length_append, txtB] at *; omega)) (.kv rfl (.assign rfl) (.pf (.ret ?_)))))
 have hr : numB y.kind ++ txtB y.path ++ txtB y.data ++ aclB y.acl ++ [y.own, y.num, y.err].flatMap numB = ptB y := by unfold ptB; simp only [List.append_assoc]
 rw [hr]
 exact .vv
theorem r2txn_spec (y : Pt) (l : List Pt) (p : HP) (hy : PtW p y) (hs : ∀ h : Hp, p h → rdS 8 h y.subsV l.length (l.flatMap ptC)) (hi : ∀ z ∈ l, PtW p z ∧ z.acl.length ≤ 1048576) (hl : (ptB y).length + (subsB l).length ≤ 70368744100000) (hn : y.acl.length ≤ 1048576) (hln : l.length ≤ 1048576) : Fn Tryz.prog 130 #[.agg (ptC y).toArray] [p] fun v L => v = vstr (ptB y ++ subsB l) ∧ L = [p] := by
 refine Fn.intro Tryz.func130 rfl rfl fun F W => ?_
 have hsl : (subsB l).length = (cntB l.length).length + (l.flatMap ptB).length := by unfold subsB; rw [List.length_append]
 obtain ⟨sv, hsv⟩ : ∃ sv, y.subsV = sv := ⟨_, rfl⟩
 rw [hsv] at hs
 refine .rdAny (p := p) hs (by repeat' constructor) fun aa ca e _ => ?_
 subst e
 have hyc : ptC y = [vint y.kind, vstr y.path, vstr y.data, y.aclV, vint y.own, vint y.num, vint y.err, .slice aa l.length ca] := by unfold ptC; rw [hsv]
 refine .sr (.oq (.box rfl) ?_)
 rintro v L' ⟨b1, rfl, rfl⟩
 refine .a rfl (.nil (.ptCast (b := b1) (l' := ptC y) (by repeat' constructor) (by exact rfl) (.then_n (.seq (.draw [] [[0, 1, 2, 3, 4, 5, 6, 7]] mixed (by kernel_rfl) (.go [ptc b1 _ _, p] (by repeat' constructor) (.kv rfl (.loadAs (vs := ptC y) rfl ag_73 (by repeat' constructor) (by simp [ptC]) rfl) (.m rfl (by kernel_rfl) (.c Tryz.func188 [_] (r2part_spec y p hy (by omega) hn)) (by repeat' constructor) ?_))))))))
 refine D.kv rfl (.fieldAddr rfl fo_73_7) (.kv rfl (.load rfl ag_71 (by repeat' constructor) (by rw [hyc]; rfl)) (.kv rfl (.slen rfl Tryz.underlying71 rfl) (.m rfl (by kernel_rfl) (.c Tryz.func98 [_] (r1cnt_spec l.length (by omega))) (by repeat' constructor) ?_)))
 refine D.kv rfl (.concat rfl rfl (by omega)) (.kv rfl (.assign rfl) (.pf (.seq (.sr (.an rfl (.block (.loopK (ι := Nat × Bs) (fun q E => (4, vint q.1) :: (3, vstr q.2) :: E) (fun q => []) (fun q => q.1 ≤ l.length ∧ q.2 = ptB y ++ cntB l.length ++ (l.take q.1).flatMap ptB) (fun q => l.length - q.1) (0, ptB y ++ cntB l.length) (ts := [1, 2]) (.cons rfl (.cons rfl (.nil))) (⟨Nat.zero_le _, by simp⟩) ⟨rfl, rfl, rfl, rfl, trivial⟩ (by repeat' constructor) ?_)))))))
 rintro ⟨i, t⟩ ⟨hj, ht⟩
 dsimp only
 dsimp only at hj ht
 have htl : t.length = (ptB y).length + (cntB l.length).length + ((l.take i).flatMap ptB).length := by rw [ht, List.length_append, List.length_append]
 refine .seq (.sm rfl (.u (.fieldAddr rfl fo_73_7) (.q (.load rfl ag_71 (by repeat' constructor) (by rw [hyc]; rfl)) rfl (.q (.slen rfl Tryz.underlying71 rfl) rfl (.ui rfl rfl rfl (.nt (.condD rfl (fun h16 => ?_) (fun h16 => ?_))))))))
 ·have hi2 : i < l.length := by omega
  have hfs := fm_stepL ptB hi2
  obtain ⟨hz1, hz2⟩ := hi _ (List.getElem_mem hi2)
  refine .rdShape (p := p) hs (by repeat' constructor) (by omega) fun ba oa e => ?_
  subst e
  refine .sk (.seq (.block (.region (.m rfl (.u (.fieldAddr rfl fo_73_7) (.q (.load rfl ag_71 (by repeat' constructor) (by rw [hyc]; rfl)) rfl (.m rfl (.q (.indexAddr rfl rfl el_71 (by omega)) rfl (.q (.loadRdA (sz := 8) (j := i * 8) (k := 8) (p := p) (vs := ptC l[i]) rfl ag_73 (by repeat' constructor) hs (by simp) (by omega) (by omega) (flatMap_at (f := ptC) (sz := 8) (fun _ _ => rfl) hi2)) rfl (.cv Tryz.func188 [_] (r2part_spec l[i] p hz1 (by omega) hz2) ?_))))))))))
  refine .q (.concat rfl rfl (by omega)) rfl (.a rfl (.nil (.blk_n (.then_n (.region (.m rfl (.q (.add rfl rfl (by omega)) rfl (.an rfl ?_))))))))
  exact .rk ((i + 1, t ++ ptB l[i])) (⟨by dsimp only; omega, by dsimp only; rw [fm_step ptB hi2, ht]; simp only [List.append_assoc]⟩) (by dsimp only; omega) ⟨rfl, rfl, rfl, rfl, trivial⟩
 have hie : i = l.length := by omega
 have hfin : t = ptB y ++ subsB l := by rw [ht, hie, List.take_length, List.append_assoc]; rfl
 subst hfin
 refine .exit (.then_e (.then_e (.blk_e (.then_n (.sm rfl (.an rfl (.ret ?_)))))))
 exact .vv
theorem r2put_spec (e : En) (p : HP) (he : EnL p e) : Fn Tryz.prog 83 #[.agg (enC e).toArray] [p] fun v L => v = vstr (enB e) ∧ L = [p] := by
 refine Fn.intro Tryz.func83 rfl rfl fun F W => ?_
 have hel := enB_len e
 have hle := he.len
 have hie := he.w.i
 refine .sr (.oq (.box rfl) ?_)
 rintro v L' ⟨b1, rfl, rfl⟩
 refine .a rfl (.nil (.ptCast (b := b1) (l' := enC e) (by repeat' constructor) (by exact rfl) (.then_n (.seq (.draw [6, 7] [[0, 1, 2, 3, 4, 5, 8, 9, 6, 7], [10, 11, 12]] mixed (by kernel_rfl) (.go [ptc b1 _ _, p] (by repeat' constructor) (.kv rfl (.fieldAddr rfl fo_75_0) (.kv rfl (.ld rfl ag_3) (.kv rfl (.fieldAddr rfl fo_75_1) (.kv rfl (.ld rfl ag_3) (.kv rfl (.fieldAddr rfl fo_75_2) (.kv rfl (.ld rfl ag_3) (.k rfl (.fieldAddr rfl fo_75_3) (.k rfl (.loadAs (vs := ptC e.x) rfl ag_73 (by repeat' constructor) (by simp [enC, ptC]) rfl) (.hh rfl (.buildSlice1 (vs := [_, _, _]) el_32 ze_3 rfl rfl rfl rfl rfl (by decide)) ?_)))))))))))))))
 rintro v L' ⟨b2, rfl, rfl⟩
 refine D.hh rfl (.call Tryz.func97 rfl rfl (vs := [_]) rfl (r2nums_spec _ [e.zx, e.ses, e.xid] (ptc b2 (ints [e.zx, e.ses, e.xid]) 3) (fun h hp => slR_rd (slR_pt hp rfl)) (fun n hn => by simp only [List.mem_cons, List.not_mem_nil, or_false] at hn; rcases hn with rfl | rfl | rfl; exact hie.zx; exact hie.ses; exact hie.xid) (by simp))) ?_
 rintro v L' ⟨rfl, rfl⟩
 refine D.ph (.go [ptc b1 _ _, p] (by repeat' constructor) (.m rfl (by kernel_rfl) (.c Tryz.func130 [_] (r2txn_spec e.x e.subs p he.w.x he.w.subs (fun z hz => ⟨he.w.sub hz, he.few.2.2 z hz⟩) (by omega) he.few.2.1 he.few.1)) (by repeat' constructor) ?_))
 refine D.kv rfl (.concat rfl rfl (by simp only [List.length_append, txtB] at *; omega)) (.kv rfl (.assign rfl) (.pf (.ret ?_)))
 have hr : [e.zx, e.ses, e.xid].flatMap numB ++ (ptB e.x ++ subsB e.subs) = enB e := by unfold enB; simp only [List.append_assoc]
 rw [hr]
 exact .vv
theorem txtR_le (st : Rs) : (txtR st).1.length ≤ 4096 := by
 unfold txtR runP
 split
 ·exact Nat.zero_le _
 ·split
  ·rename_i x hx; exact (txt_form hx).2
  ·exact Nat.zero_le _
theorem many_all {α : Type} {f : Rn α} {Q : α → Prop} (h : ∀ st, Q (f st).1) : ∀ (n : Nat) (st : Rs), ∀ x ∈ (manyR f n st).1, Q x
 | 0, _, x, hx => by cases hx
 | n + 1, st, x, hx => by
  rcases List.mem_append.1 (show x ∈ (manyR f n st).1 ++ [(f (manyR f n st).2).1] from hx) with hx | hx
  ·exact many_all h n st x hx
  ·rw [List.mem_singleton] at hx; subst hx; exact h _
theorem rows_all {α : Type} {f : Rn α} {Q : α → Prop} (h : ∀ st, Q (f st).1) (st : Rs) : (rowsR f st).1.length ≤ 256 ∧ ∀ x ∈ (rowsR f st).1, Q x := by
 refine ⟨?_, many_all h _ _⟩
 show (manyR f (cntR st).1 (cntR st).2).1.length ≤ 256
 rw [many_len]; exact cntR_le st
def AcG (a : Ac) : Prop := I64 a.1 ∧ a.2.length ≤ 4096
structure PtG (y : Pt) : Prop where
 kind : I64 y.kind
 own : I64 y.own
 num : I64 y.num
 err : I64 y.err
 path : y.path.length ≤ 4096
 data : y.data.length ≤ 4096
 many : y.acl.length ≤ 256
 acl : ∀ a ∈ y.acl, AcG a
structure EnG (e : En) : Prop where
 zx : I64 e.zx
 ses : I64 e.ses
 xid : I64 e.xid
 x : PtG e.x
 many : e.subs.length ≤ 256
 subs : ∀ y ∈ e.subs, PtG y
theorem acR_G (st : Rs) : AcG (acR st).1 := ⟨numR_i64 _, txtR_le _⟩
theorem ptR_G (st : Rs) : PtG (ptR st).1 :=
 ⟨numR_i64 _, numR_i64 _, numR_i64 _, numR_i64 _, txtR_le _, txtR_le _, (rows_all acR_G _).1, (rows_all acR_G _).2⟩
theorem enR_G (st : Rs) : EnG (enR st).1 := ⟨numR_i64 _, numR_i64 _, numR_i64 _, ptR_G _, (rows_all ptR_G _).1, (rows_all ptR_G _).2⟩
theorem getZ_G {s : Bs} {e : En} (h : getZ s = some e) : EnG e := by
 unfold getZ getR at h
 split at h
 ·rename_i q hq; cases h
  have := enR_G (some s)
  rw [hq] at this; exact this
 ·cases h
theorem PtG.of {y : Pt} (h : PtG y.pl) : PtG y := ⟨h.kind, h.own, h.num, h.err, h.path, h.data, h.many, h.acl⟩
theorem EnG.of {e : En} (h : EnG e.pl) : EnG e := by
 refine ⟨h.zx, h.ses, h.xid, h.x.of, by have := h.many; unfold En.pl at this; rw [List.length_map] at this; exact this, fun y hy => (h.subs y.pl ?_).of⟩
 show y.pl ∈ e.subs.map Pt.pl
 exact List.mem_map_of_mem hy
section
variable {W : World} {n : Nat} {ds : List Deferred} {E : Env} {L R : List HP} {X : Act → World → Prop}
end
theorem get_enB {s : Bs} {e : En} (h : getZ s = some e.pl) : enB e = s := by
 rw [← enB_pl]; exact (get_form h).1.symm
structure EsOf (es : List En) (Λ : Lg) : Prop where
 b : es.map enB = Λ.ents
 z : es.map (·.zx) = Λ.zxs
 n : es.length ≤ 1048576
 k : ∀ e ∈ es, EnK e ∧ EnG e
abbrev gc9 (y w : Nat) (base : Int) (snap : Bs) (sl : Value) (acc cur : Int) (db : Bool) : HP := ptc y [vptr w, vint base, vstr snap, sl, vint acc, vint cur, .bool db] 64
abbrev es9 (sl : Value) (es : List En) : HP := slR 75 11 sl es.length (es.flatMap enC)
def rgR (y w : Nat) (Λ : Lg) : HP := fun h => ∃ q : (Option Addr × Nat) × List En, EsOf q.2 Λ ∧ sep [gc9 y w Λ.base Λ.snap (.slice q.1.1 q.2.length q.1.2) Λ.acc Λ.cur Λ.doubt, es9 (.slice q.1.1 q.2.length q.1.2) q.2, bigR entR q.2] h
section
variable {W : World} {n : Nat} {ds : List Deferred} {E : Env} {L R : List HP} {X : Act → World → Prop}
theorem G.rgOpen {y w : Nat} {Λ : Lg} (hL : Pick (rgR y w Λ) L R) (h : ∀ (a : Option Addr) (c : Nat) (es : List En), EsOf es Λ → G W n ds E (gc9 y w Λ.base Λ.snap (.slice a es.length c) Λ.acc Λ.cur Λ.doubt :: es9 (.slice a es.length c) es :: bigR entR es :: R) X) : G W n ds E L X :=
 G.focus hL (G.open (q := fun q : (Option Addr × Nat) × List En => [gc9 y w Λ.base Λ.snap (.slice q.1.1 q.2.length q.1.2) Λ.acc Λ.cur Λ.doubt, es9 (.slice q.1.1 q.2.length q.1.2) q.2, bigR entR q.2]) (φ := fun q : (Option Addr × Nat) × List En => EsOf q.2 Λ) (fun _ hp => hp) fun q hq => h q.1.1 q.1.2 q.2 hq)
theorem G.rgFold {y w : Nat} {l xs : List Value} {sl : Value} {m : Nat} (Λ : Lg) (a : Option Addr) (c : Nat) (es : List En) (hL : Picks [ptc y l 64, slR 75 11 sl m xs, bigR entR es] L R) (hE : EsOf es Λ)
  (h1 : l = [vptr w, vint Λ.base, vstr Λ.snap, .slice a es.length c, vint Λ.acc, vint Λ.cur, .bool Λ.doubt]) (h2 : sl = .slice a es.length c) (h3 : m = es.length) (h4 : xs = es.flatMap enC) (h : G W n ds E (rgR y w Λ :: R) X) : G W n ds E L X := by
 subst h1; subst h2; subst h3; subst h4
 exact G.fold hL (fun _ hp => ⟨((a, c), es), hE, hp⟩) h
theorem G.rg {y w : Nat} {l xs : List Value} {sl : Value} {m : Nat} (Λ : Lg) (a : Option Addr) (c : Nat) (es : List En) (hE : EsOf es Λ) (h : G W n ds E (rgR y w Λ :: R) X) (hL : Picks [ptc y l 64, slR 75 11 sl m xs, bigR entR es] L R := by repeat' constructor) (h1 : l = [vptr w, vint Λ.base, vstr Λ.snap, .slice a es.length c, vint Λ.acc, vint Λ.cur, .bool Λ.doubt] := by exact rfl) (h2 : sl = .slice a es.length c := by exact rfl) (h3 : m = es.length := by exact rfl) (h4 : xs = es.flatMap enC := by exact rfl) : G W n ds E L X := G.rgFold Λ a c es hL hE h1 h2 h3 h4 h
end
theorem zx_back {e e' : En} (h : getZ (enB e) = some e') (hz : I64 e.zx) : e'.zx = e.zx := by
 unfold getZ getR at h
 split at h
 ·rename_i q hq
  cases h
  have e1 : (enR (some (enB e))).1.zx = (numR (some (enB e))).1 := rfl
  rw [hq] at e1
  have e2 : enB e = numB e.zx ++ (numB e.ses ++ (numB e.xid ++ (ptB e.x ++ subsB e.subs))) := by
   unfold enB; simp only [List.flatMap_cons, List.flatMap_nil, List.append_nil, List.append_assoc]
  rw [e2, numR_back hz] at e1
  exact e1
 ·cases h
theorem EsOf.lastF {es : List En} {Λ : Lg} (h : EsOf es Λ) : lastF Λ.base (es.map (·.zx)) = lastZ Λ := by rw [h.z]; rfl
theorem EsOf.len {es : List En} {Λ : Lg} (h : EsOf es Λ) : es.length = Λ.ents.length := by have := congrArg List.length h.b; rw [List.length_map] at this; exact this
theorem EsOf.nil {Λ : Lg} (h : Λ.ents = []) (hz : Λ.zxs = []) : EsOf [] Λ := ⟨h.symm, hz.symm, Nat.zero_le _, fun _ h => by cases h⟩
theorem EsOf.keep {es : List En} {Λ : Lg} (h : EsOf es Λ) {e : En} {s : Bs} (hs : enB e = s) (hk : EnK e) (hg : EnG e) (hn : es.length < 1048576) : EsOf (es ++ [e]) (Λ.keep s e.zx) := by
 refine ⟨?_, ?_, by rw [List.length_append, List.length_singleton]; omega, fun x hx => ?_⟩
 ·rw [List.map_append, h.b, List.map_singleton, hs]; rfl
 ·rw [List.map_append, h.z, List.map_singleton]; rfl
 ·rcases List.mem_append.1 hx with hx | hx
  ·exact h.k x hx
  ·rw [List.mem_singleton] at hx; subst hx; exact ⟨hk, hg⟩
theorem getZ_of {s : Bs} {e : En} {er : Int} (h : GotZ s e er) (h0 : er = 0) : getZ s = some e.pl ∧ enB e = s ∧ EnK e ∧ EnG e := by
 rcases h with ⟨-, h1, h2⟩ | ⟨h1, -⟩
 ·exact ⟨h1, get_enB h1, h2, (getZ_G h1).of⟩
 ·rw [h1] at h0; cases h0
theorem getZ_no {s : Bs} {e : En} {er : Int} (h : GotZ s e er) (h0 : ¬ er = 0) : getZ s = none := by
 rcases h with ⟨h1, -⟩ | ⟨-, h2, -⟩
 ·exact absurd h1 h0
 ·exact h2
theorem keep_eq {a b base : Int} {sn s : Bs} {es : List En} {ge : En} (hs : enB ge = s) : (⟨a, b, base, sn, es.map enB, es.map (·.zx), false⟩ : Lg).keep s ge.zx = ⟨a, b, base, sn, (es ++ [ge]).map enB, (es ++ [ge]).map (·.zx), false⟩ := by
 unfold Lg.keep; rw [List.map_append, List.map_append, List.map_singleton, List.map_singleton, hs]
theorem esOf_self {a b base : Int} {sn : Bs} {es : List En} {db : Bool} (hn : es.length ≤ 1048576) (hk : ∀ e ∈ es, EnK e ∧ EnG e) : EsOf es ⟨a, b, base, sn, es.map enB, es.map (·.zx), db⟩ := ⟨rfl, rfl, hn, hk⟩
theorem lastF_at {es : List En} {base : Int} {i : Nat} (h : i + 1 = es.length) : lastF base (es.map (·.zx)) = (es[i]'(by omega)).zx := by
 unfold lastF
 rw [List.getLast?_eq_getElem?, List.length_map, show es.length - 1 = i by omega, List.getElem?_map, List.getElem?_eq_getElem (by omega)]; rfl
theorem lastF_nil {es : List En} {base : Int} (h : es.length = 0) : lastF base (es.map (·.zx)) = base := by
 rw [List.eq_nil_of_length_eq_zero h]; rfl
theorem r9head_spec (base : Int) (snap : Bs) (hb : I64 base) (hs : snap.length ≤ 2147483648) : Fn Tryz.prog 89 #[vint base, vstr snap] [] fun v L => ∃ b c, v = .slice (some ⟨b, 0, none⟩) (headL base snap).length c ∧ L = [strR v (headL base snap)] := by
 refine Fn.intro Tryz.func89 rfl rfl fun F W => ?_
 have hz : (numB base).length ≤ 10 := sev_len10 (zig_lt hb)
 have hc10 : (cntB snap.length).length ≤ 10 := sev_len10 (by unfold U64; omega)
 refine .sr (.an rfl (.sm rfl (.cv Tryz.func149 [_] (r1num_spec base hb) ?_)))
 refine .m rfl (.q (.strlen rfl Tryz.underlying9 rfl) rfl (.cv Tryz.func98 [_] (r1cnt_spec snap.length (by omega)) ?_))
 refine .q (.concat rfl rfl (by omega)) rfl (.oq (.buildSlice1 (vs := [_]) el_39 ze_9 rfl rfl rfl rfl rfl (by decide)) ?_)
 rintro v L' ⟨b4, rfl, rfl⟩
 refine .a rfl (.nil (.slMake (b := b4) (n := 1) (c := 1) (xs := strs [headB base snap.length]) (by repeat' constructor) (by decide) (by simp) rfl (.then_n (.seq (.block (.loopK (ι := Bs × Value × (List Bs)) (fun q E => (1, vstr q.1) :: (5, q.2.1) :: E) (fun q => [strR q.2.1 q.2.2]) (fun q => q.2.2 ++ chunkL q.1 = headL base snap ∧ q.2.2.length + q.1.length ≤ 1 + snap.length ∧ ∃ b c, q.2.1 = .slice (some ⟨b, 0, none⟩) q.2.2.length c) (fun q => q.1.length) (snap, .slice (some ⟨b4, 0, none⟩) 1 1, [headB base snap.length]) (ts := [4]) (.cons rfl (.nil)) (⟨rfl, by dsimp only [List.length_cons, List.length_nil]; omega, b4, 1, rfl⟩) ⟨rfl, rfl, rfl, trivial⟩ (by repeat' constructor) ?_))))))
 rintro ⟨t, u, l⟩ ⟨hl, hlt, bu, cu, hu⟩
 dsimp only
 dsimp only at hl hlt hu
 subst hu
 refine .seq (.sm rfl (.u (.strne rfl rfl) (.nt (.condN rfl (fun h15 => ?_) (fun h15 => ?_)))))
 ·have ht : 0 < t.length := List.length_pos_iff.2 (by simpa using h15)
  refine .sk (.block (.sm rfl (.q (.strlen rfl Tryz.underlying9 rfl) rfl (.q (.as (v' := vint ((min 4000 t.length : Nat) : Int)) (by congr 1; omega) (.min2 rfl rfl)) rfl (.an rfl (.sm rfl (.m rfl (.m rfl (.q (.to (v' := vstr (t.take 4000)) (.strTo rfl rfl Tryz.underlying9 (by omega)) (by simp only [Int.toNat_natCast, take_min])) rfl (.oq (.buildSlice1 (vs := [_]) el_39 ze_9 rfl rfl rfl rfl rfl (by decide)) ?_))))))))))
  rintro v L' ⟨b8, rfl, rfl⟩
  refine .oq (.shaped1 (k := l.length + 1) ?hk22 (.append1 rfl rfl rfl el_39 ze_9 rfl rfl ?h123 ?h224 (Nat.le_refl _) ?h325 (by decide))) ?_
  case hk22 => omega
  case h123 => (first | (simp [isCell]; done) | (simp [isCell, setAll, Value.cells]; done))
  case h224 => rfl
  case h325 => omega
  rintro v L' ⟨b7, c7, rfl, rfl⟩
  refine .an rfl (.region (.m rfl (.m rfl (.q (.to (v' := vstr (t.drop 4000)) (.strFrom rfl rfl Tryz.underlying9 (by omega)) (by simp only [Int.toNat_natCast, drop_min])) rfl (.a rfl (.nil (.blk_n (.then_n (.slCast (T := 9) (sz := 1) (m' := (l ++ [t.take 4000]).length) (xs' := strs (l ++ [t.take 4000])) (by repeat' constructor) (by simp) (by simp [strs, Value.cells]) ?_)))))))))
  exact .rk ((t.drop 4000, .slice (some ⟨b7, 0, none⟩) (l.length + 1) c7, l ++ [t.take 4000])) (⟨by dsimp only; rw [List.append_assoc, List.singleton_append, ← chunk_cons h15]; exact hl, by dsimp only; rw [List.length_append, List.length_drop, List.length_singleton]; omega, b7, c7, by simp⟩) (by dsimp only; rw [List.length_drop]; omega) ⟨rfl, rfl, rfl, trivial⟩
 have ht : t = [] := by simpa using h15
 subst ht
 rw [chunk_nil', List.append_nil] at hl
 subst hl
 refine .exit (.then_e (.then_e (.blk_e (.then_n (.sm rfl (.an rfl (.ret ?_)))))))
 exact .dn rfl rfl ⟨_, _, rfl, rfl⟩
theorem r9records_spec (base : Int) (snap : Bs) (va : Value) (l : List En) (p : HP) (hb : I64 base) (hs : snap.length ≤ 65536) (hp : ∀ h : Hp, p h → rdS 11 h va l.length (l.flatMap enC)) (hx : ∀ e ∈ l, EnL p e) (hn : l.length ≤ 1048576) : Fn Tryz.prog 207 #[vint base, vstr snap, va] [p] fun v L => ∃ b c, v = .slice (some ⟨b, 0, none⟩) (headL base snap ++ l.map enB).length c ∧ L = [p, strR v (headL base snap ++ l.map enB)] := by
 refine Fn.intro Tryz.func207 rfl rfl fun F W => ?_
 have hhl := headL_len base snap hs
 refine .rdAny (p := p) hp (by repeat' constructor) fun aa ca e _ => ?_
 subst e
 refine .sr (.an rfl (.sm rfl (.m rfl (.oq (.c Tryz.func89 [_, _] (r9head_spec base snap hb (by omega))) ?_))))
 rintro v L' ⟨bh, ch, rfl, rfl⟩
 refine .an rfl (.seq (.sr (.an rfl (.block (.slCast (T := 9) (sz := 1) (m' := (headL base snap ++ (l.take 0).map enB).length) (xs' := strs (headL base snap ++ (l.take 0).map enB)) (by repeat' constructor) (by simp) (by simp) (.loopK (ι := Nat × Value) (fun q E => (8, vint q.1) :: (7, q.2) :: E) (fun q => [strR q.2 (headL base snap ++ (l.take q.1).map enB)]) (fun q => q.1 ≤ l.length ∧ ∃ b c, q.2 = .slice (some ⟨b, 0, none⟩) (headL base snap ++ (l.take q.1).map enB).length c) (fun q => l.length - q.1) (0, .slice (some ⟨bh, 0, none⟩) (headL base snap).length ch) (ts := [2, 6]) (.cons rfl (.cons rfl (.nil))) (⟨Nat.zero_le _, bh, ch, by simp⟩) ⟨rfl, rfl, rfl, rfl, trivial⟩ (by repeat' constructor) ?_))))))
 rintro ⟨i, u⟩ ⟨hi, bu, cu, hu⟩
 dsimp only
 dsimp only at hi hu
 subst hu
 refine .seq (.sm rfl (.m rfl (.q (.slen rfl Tryz.underlying33 rfl) rfl (.ui rfl rfl rfl (.nt (.condD rfl (fun h15 => ?_) (fun h15 => ?_)))))))
 ·have hi2 : i < l.length := by omega
  refine .rdShape (p := p) hp (by repeat' constructor) (by omega) fun ba oa e => ?_
  subst e
  have htk : (l.take i).length = i := by rw [List.length_take]; omega
  refine .sk (.seq (.block (.region (.m rfl (.m rfl (.m rfl (.q (.indexAddr rfl rfl el_33 (by omega)) rfl (.q (.loadRdA (sz := 11) (j := i * 11) (k := 11) (p := p) (vs := enC l[i]) rfl ag_75 (by repeat' constructor) hp (by simp) (by omega) (by omega) (flatMap_at (f := enC) (sz := 11) (fun _ _ => rfl) (by omega))) rfl (.cv Tryz.func83 [_] (r2put_spec l[i] p (hx _ (List.getElem_mem hi2))) ?_)))))))))
  refine .oq (.buildSlice1 (vs := [_]) el_39 ze_9 rfl rfl rfl rfl rfl (by decide)) ?_
  rintro v L' ⟨b8, rfl, rfl⟩
  refine .oq (.shaped1 (k := (headL base snap ++ (l.take i).map enB).length + 1) ?hk20 (.append1 rfl rfl rfl el_39 ze_9 rfl rfl ?h121 ?h222 (Nat.le_refl _) ?h323 (by decide))) ?_
  case hk20 => omega
  case h121 => (first | (simp [isCell]; done) | (simp [isCell, setAll, Value.cells]; done))
  case h222 => rfl
  case h323 => rw [List.length_append, List.length_map, htk]; omega
  rintro v L' ⟨b7, c7, rfl, rfl⟩
  refine .a rfl (.nil (.blk_n (.then_n (.region (.m rfl (.q (.add rfl rfl (by omega)) rfl (.an rfl (.slCast (T := 9) (sz := 1) (m' := (headL base snap ++ (l.take (i + 1)).map enB).length) (xs' := strs (headL base snap ++ (l.take (i + 1)).map enB)) (by repeat' constructor) (by rw [List.take_succ_eq_append_getElem hi2]; simp only [List.map_append, List.length_append, List.length_map, List.length_singleton, List.map_singleton]; omega) (by rw [List.take_succ_eq_append_getElem hi2]; unfold strs; simp only [List.map_append, List.map_singleton, List.append_assoc]) ?_))))))))
  exact .rk ((i + 1, .slice (some ⟨b7, 0, none⟩) ((headL base snap ++ (l.take i).map enB).length + 1) c7)) (⟨by dsimp only; omega, b7, c7, by dsimp only; rw [List.take_succ_eq_append_getElem hi2]; simp only [List.map_append, List.length_append, List.length_map, List.length_singleton, List.map_singleton]; congr 1⟩) (by dsimp only; omega) ⟨rfl, rfl, rfl, rfl, trivial⟩
 have hie : i = l.length := by omega
 subst hie
 rw [List.take_length]
 refine .exit (.then_e (.then_e (.blk_e (.then_n (.sm rfl (.an rfl (.ret ?_)))))))
 exact .dn rfl rfl ⟨_, _, rfl, rfl⟩
theorem r9met_spec (y w : Nat) (base : Int) (snap : Bs) (sl : Value) (acc cur : Int) (db : Bool) (e : Int) : Fn Tryz.prog 167 #[vptr y, vint e] [gc9 y w base snap sl acc cur db] fun v L => v = vint (metE e) ∧ L = [gc9 y w base snap sl acc cur (if e = 2 then true else db)] := by
 refine Fn.intro Tryz.func167 rfl rfl fun F W => ?_
 refine .sr (.an rfl (.seq (.sm rfl (.nt (.block (.sr (.ui rfl rfl rfl (.an rfl (.condD rfl (fun h6 => ?_) (fun h6 => ?_))))))))))
 ·refine .sm rfl (.nf rfl fo_64_6 (.st rfl rfl rfl sz_4 ?_))
  refine .nt (.sr (.an rfl (.ret (.blk_r (.then_r ?_)))))
  have he : metE e = 2 := by unfold metE; rw [if_neg (by omega)]; exact h6
  rw [he, if_pos h6]
  exact .vv
 refine .seq (.sr (.ui rfl rfl rfl (.an rfl (.dec (t := 11) rfl (fun h11 => ?_) (fun h11 => ?_)))))
 ·refine .condT rfl (.sk (.condT rfl (.sr (.an rfl (.ret (.blk_r (.then_r ?_)))))))
  have he : metE e = 83 := by unfold metE; rw [if_pos (by omega)]
  rw [he, if_neg h6]
  exact .vv
 refine .condF rfl (.region (.ui rfl rfl rfl (.an rfl (.dec (t := 11) rfl (fun h11 => ?_) (fun h11 => ?_)))))
 ·refine .condT rfl (.sr (.an rfl (.ret (.blk_r (.then_r ?_)))))
  have he : metE e = 83 := by unfold metE; rw [if_pos (by omega)]
  rw [he, if_neg h6]
  exact .vv
 refine .condF rfl (.skip (.blk_n (.then_n (.sm rfl (.an rfl (.ret ?_))))))
 have he : metE e = e := by unfold metE; rw [if_neg (by omega)]
 rw [he, if_neg h6]
 exact .vv
theorem r9last_spec (y w : Nat) (base : Int) (snap : Bs) (a : Option Addr) (c : Nat) (acc cur : Int) (db : Bool) (es : List En) (hn : es.length ≤ 1048576) : Fn Tryz.prog 29 #[vptr y] [gc9 y w base snap (.slice a es.length c) acc cur db, es9 (.slice a es.length c) es] fun v L => v = vint (lastF base (es.map (·.zx))) ∧ L = [gc9 y w base snap (.slice a es.length c) acc cur db, es9 (.slice a es.length c) es] := by
 refine Fn.intro Tryz.func29 rfl rfl fun F W => ?_
 refine .sr (.an rfl (.seq (.sm rfl (.nf rfl fo_64_3 (.u (.ld rfl ag_33) (.q (.slen rfl Tryz.underlying33 rfl) rfl (.ui rfl rfl rfl (.nt (.condD rfl (fun h8 => ?_) (fun h8 => ?_))))))))))
 ·refine .sm rfl (.nf rfl fo_64_1 (.u (.ld rfl ag_3) (.an rfl (.rt ?_))))
  exact .dn rfl rfl ⟨by rw [lastF_nil (by omega)], rfl⟩
 refine .sk (.seq ?_)
 obtain ⟨i, hi⟩ : ∃ i, i + 1 = es.length := ⟨es.length - 1, by omega⟩
 refine .slShape (v := .slice a es.length c) (by repeat' constructor) (by omega) fun ba c1 e m _ => ?_
 simp only [Value.slice.injEq, true_and] at e
 obtain ⟨rfl, rfl⟩ := e
 refine .draw [] [[0, 1, 2, 3, 4, 5, 6, 7, 8, 9, 10, 11, 12, 13]] mixed (by kernel_rfl) (.g0 (.mv rfl rfl (.nf rfl rfl rfl fo_64_3 (.kv rfl (.ld rfl ag_33) (.mv rfl rfl (.nf rfl rfl rfl fo_64_3 (.kv rfl (.ld rfl ag_33) (.kv rfl (.slen rfl Tryz.underlying33 rfl) (.kv rfl (.as (v' := vint (i : Nat)) (by congr 1; omega) (.sub rfl rfl (by omega))) (.kv rfl (.indexAddr rfl rfl el_33 (by omega)) (.kv rfl (.fieldAddr rfl fo_75_0) (.kv rfl (.loadRd (sz := 11) (j := i * 11 + 0) (p := es9 (.slice (some ⟨ba, 0, none⟩) es.length c) es) (v := vint (es[i]'(by omega)).zx) rfl ag_3 (by repeat' constructor) (fun h hp => slR_rd hp) (by simp) ((en_cell (k := 0) (by omega) (by decide)).trans rfl)) (.kv rfl (.assign rfl) (.pf (.ret ?_)))))))))))))))
 exact .dn rfl rfl ⟨by rw [lastF_at hi], rfl⟩
theorem r4format_spec (x : Nat) (δ : Dk) (hA : δ.acts + 10 < 4611686018427387904) : Fn Tryz.prog 87 #[vptr x] [dsR x δ] fun v L => ((formatZ δ).2 = none ∧ v = .tuple #[.pointer none, vint 2] ∧ L = [dsR x (formatZ δ).1]) ∨
    ((formatZ δ).2 = some newW ∧ ∃ w, v = .tuple #[vptr w, vint 0] ∧ L = [dsR x (formatZ δ).1, rlR w x newW]) := by
 refine Fn.intro Tryz.func87 rfl rfl fun F W => ?_
 have k1 := write_keeps δ 0 zs
 have k2 := write_keeps (δ.write 0 zs).1 1 mark1.sec
 refine .sr (.a rfl (.an rfl (.seq (.sm rfl (.q (.ptreq rfl rfl Tryz.underlying26) rfl (.nt (.condF rfl (.sk (.seq (.seq (.add (slR_nil 9 1) (.region (.m rfl (.cv Tryz.func84 [] (zeros_spec) ?_))))))))))))))
 refine .cv Tryz.func140 [_, _, _] (dswrite_spec x δ 0 zs (by omega)) ?_
 refine .ui rfl rfl rfl (.m rfl (.ndec (t := 10) rfl (fun h3_10 => ?_) (fun h3_10 => ?_)))
 ·refine .kNT (t := 9) rfl h3_10 (.gk (.gk (.gk (.gk (.u (.pickT rfl rfl) (.m rfl (.gk (.gk (.gk (.u (.pickT rfl rfl) (.nt (.condT rfl (.sr (.a rfl (.an rfl (.rt ?_))))))))))))))))
  have hF : formatZ δ = ((fmtZ δ 1).1, none) := by unfold formatZ; rw [if_pos (show (fmtZ δ 1).2 ≠ 0 from h3_10)]
  rw [hF]
  exact .dn rfl rfl (.inl ⟨rfl, rfl, rfl⟩)
 refine .kNF (t := 9) rfl h3_10 (.grun (t := 10) rfl rfl rfl (.m rfl (.grun (t := 10) rfl rfl rfl (.oq (.c Tryz.func141 [_, _, _, _, _] (rmark4_spec 1 0 0 0 (.slice none 0 0) [] (strR (.slice none 0 0) []) (fun h hp => slR_rd hp) (by decide) (by decide) (by decide) (by decide) (by decide))) ?_))))
 rintro v L' ⟨rfl, rfl⟩; rw [show (⟨1, 0, ((laidZ []).length : Nat), (([] : List Bs).length : Nat), 0, 0⟩ : Mk) = mark1 from rfl]
 refine .grun (t := 10) rfl rfl rfl (.cv Tryz.func140 [_, _, _] (dswrite_spec x (δ.write 0 zs).1 1 mark1.sec (by omega)) ?_)
 refine .grun (t := 10) rfl rfl rfl (.ui rfl rfl rfl (.u (.pickF rfl rfl) (.m rfl (.ndec (t := 16) rfl (fun h3_16 => ?_) (fun h3_16 => ?_)))))
 ·refine .kNT (t := 14) rfl h3_16 (.kNT (t := 15) rfl h3_16 (.gk (.gk (.gk (.u (.pickT rfl rfl) (.nt (.condT rfl (.sr (.a rfl (.an rfl (.rt ?_)))))))))))
  have hF : formatZ δ = ((fmtZ δ 2).1, none) := by unfold formatZ; rw [if_neg (fun g => g (show (fmtZ δ 1).2 = 0 from h3_10)), if_pos (show (fmtZ δ 2).2 ≠ 0 from h3_16)]
  rw [hF]
  exact .dn rfl rfl (.inl ⟨rfl, rfl, rfl⟩)
 refine .kNF (t := 14) rfl h3_16 (.kNF (t := 15) rfl h3_16 (.grun (t := 16) rfl rfl rfl (.m rfl (.grun (t := 16) rfl rfl rfl (.cv Tryz.func142 [_] (dssync_spec x ((δ.write 0 zs).1.write 1 mark1.sec).1 (by omega)) ?_)))))
 refine .grun (t := 16) rfl rfl rfl (.ui rfl rfl rfl (.u (.pickF rfl rfl) (.nt (.condN rfl (fun h20 => ?_) (fun h20 => ?_)))))
 ·refine .sr (.a rfl (.an rfl (.rt ?_)))
  have hF : formatZ δ = ((fmtZ δ 3).1, none) := by unfold formatZ; rw [if_neg (fun g => g (show (fmtZ δ 1).2 = 0 from h3_10)), if_neg (fun g => g (show (fmtZ δ 2).2 = 0 from h3_16)), if_pos (show (fmtZ δ 3).2 ≠ 0 from h20)]
  rw [hF]
  exact .dn rfl rfl (.inl ⟨rfl, rfl, rfl⟩)
 refine .sk (.sm rfl (.q (.to (v' := .agg [vptr x, .slice none 0 0, vint 0, vint 0, vint 1, vint 0, vint 0, .bool false].toArray) (.build (us := [(0, _), (4, _)]) fl_185 ze_185 rfl rfl (by simp [isCell])) rfl) rfl (.oq (.box rfl) ?_)))
 rintro v L' ⟨w, rfl, rfl⟩
 refine .a rfl (.an rfl (.ret ?_))
 have hF : formatZ δ = ((fmtZ δ 3).1, some newW) := by unfold formatZ; rw [if_neg (fun g => g (show (fmtZ δ 1).2 = 0 from h3_10)), if_neg (fun g => g (show (fmtZ δ 2).2 = 0 from h3_16)), if_neg (fun g => g (show (fmtZ δ 3).2 = 0 from h20))]
 rw [hF]
 refine .rlFold (y := w) (x := x) (ω := newW) (v := .slice none 0 0) (by repeat' constructor) rfl rfl rfl ?_
 exact .dn rfl rfl (.inr ⟨rfl, w, rfl, rfl⟩)
/- not in this seat -/
/- not in this seat: r4open_spec -/
theorem r9format_spec (x : Nat) (δ : Dk) (hA : δ.acts + 10 < 4611686018427387904) (hI : WlI (formatZ δ).1 newW) (hI1 : WlI (lgF1 δ).1 (lgF1 δ).2.1) (hab : (0 ≤ (lgF1 δ).2.1.a ∧ (lgF1 δ).2.1.a ≤ 9223372036854775807) ∧ (0 ≤ (lgF1 δ).2.1.b ∧ (lgF1 δ).2.1.b ≤ 9223372036854775807)) : Fn Tryz.prog 49 #[vptr x] [dsR x δ] fun v L => ((lgFormat δ).2 = none ∧ v = .tuple #[.pointer none, vint 2] ∧ L = [dsR x (lgFormat δ).1]) ∨
    (∃ ω y w, (lgFormat δ).2 = some ω ∧ v = .tuple #[vptr y, vint 0] ∧ L = [rgR y w lg0, rlR w x ω, dsR x (lgFormat δ).1]) := by
 refine Fn.intro Tryz.func49 rfl rfl fun F W => ?_
 refine .sr (.a rfl (.an rfl (.seq (.sm rfl (.q (.ptreq rfl rfl Tryz.underlying26) rfl (.nt (.condF rfl (.sk (.sm rfl (.oq (.c Tryz.func87 [_] (r4format_spec x δ hA)) ?_))))))))))
 rintro v L' (⟨hf, rfl, rfl⟩ | ⟨hf, w, rfl, rfl⟩)
 ·refine .m rfl (.u (.extract rfl rfl) (.u (.extract rfl rfl) (.a rfl (.an rfl (.seq (.sm rfl (.q (.as (v' := .bool true) (by rfl) (.int rfl rfl rfl)) rfl (.m rfl (.gk (.gk (.gk (.gk (.gk (.gk (.u (.pickT rfl rfl) (.m rfl (.gk (.gk (.gk (.u (.pickT rfl rfl) (.nt (.condT rfl (.sr (.a rfl (.an rfl (.rt ?_))))))))))))))))))))))))))
  have hr : lgFormat δ = ((formatZ δ).1, none) := by unfold lgFormat; rw [ if_pos (by rw [hf]; rfl)]
  rw [hr]
  exact .dn rfl rfl (.inl ⟨rfl, rfl, rfl⟩)
 refine .m rfl (.u (.extract rfl rfl) (.u (.extract rfl rfl) (.a rfl (.an rfl (.seq (.sm rfl (.q (.as (v' := .bool false) (by rfl) (.int rfl rfl rfl)) rfl (.m rfl (.grun (t := 15) rfl rfl rfl (.m rfl (.grun (t := 15) rfl rfl rfl (.oq (.c Tryz.func89 [_, _] (r9head_spec 0 [] (by decide) (by decide))) ?_))))))))))))
 rintro v L' ⟨ba, ca, rfl, rfl⟩; rw [show headL 0 [] = [headB 0 0] from rfl]; dsimp only [List.length_cons, List.length_nil]
 refine .grun (t := 15) rfl rfl rfl (.q (.indexAddr rfl rfl el_39 (by omega)) rfl (.grun (t := 15) rfl rfl rfl (.q (.loadEl (p := strR (.slice (some ⟨ba, 0, none⟩) (0 + 1) ca) [headB 0 0]) (i := 0) (v := vstr (headB 0 0)) rfl ag_9 (by repeat' constructor) (fun h hp => slR_rd hp) rfl) rfl (.grun (t := 15) rfl rfl rfl (.oq (.c Tryz.func88 [_, _] (rappend_spec w x newW (formatZ δ).1 (headB 0 0) hI (by rw [hd00]; decide))) ?_)))))
 rintro v L' ⟨rfl, rfl⟩; rw [show appendZ (formatZ δ).1 newW (headB 0 0) = lgF1 δ from rfl]
 refine .grun (t := 15) rfl rfl rfl (.ui rfl rfl rfl (.u (.pickF rfl rfl) (.m rfl (.ndec (t := 23) rfl (fun h4_23 => ?_) (fun h4_23 => ?_)))))
 ·refine .kNT (t := 21) rfl h4_23 (.kNT (t := 22) rfl h4_23 (.gk (.gk (.gk (.u (.pickT rfl rfl) (.nt (.condT rfl (.sr (.a rfl (.an rfl (.rt ?_)))))))))))
  have hr : lgFormat δ = ((lgF1 δ).1, none) := by unfold lgFormat; rw [if_neg (by rw [hf]; decide),  if_pos h4_23]
  rw [hr]
  exact .dn rfl rfl (.inl ⟨rfl, rfl, rfl⟩)
 refine .kNF (t := 21) rfl h4_23 (.kNF (t := 22) rfl h4_23 (.grun (t := 23) rfl rfl rfl (.m rfl (.grun (t := 23) rfl rfl rfl (.oq (.c Tryz.func90 [_] (rlsync_spec w x (lgF1 δ).2.1 (lgF1 δ).1 hI1 hab)) ?_)))))
 rintro v L' ⟨rfl, rfl⟩; rw [show syncZ (lgF1 δ).1 (lgF1 δ).2.1 = lgF2 δ from rfl]
 refine .grun (t := 23) rfl rfl rfl (.ui rfl rfl rfl (.u (.pickF rfl rfl) (.nt (.condN rfl (fun h27 => ?_) (fun h27 => ?_)))))
 ·refine .sr (.a rfl (.an rfl (.rt ?_)))
  have hr : lgFormat δ = ((lgF2 δ).1, none) := by unfold lgFormat; rw [if_neg (by rw [hf]; decide), if_neg (fun g => g h4_23),  if_pos h27]
  rw [hr]
  exact .dn rfl rfl (.inl ⟨rfl, rfl, rfl⟩)
 refine .sk (.sm rfl (.q (.to (v' := .agg [vptr w, vint 0, vstr [], .slice none 0 0, vint 0, vint 0, .bool false].toArray) (.build (us := [(0, _)]) fl_64 ze_64 rfl rfl (by simp [isCell])) rfl) rfl (.oq (.box rfl) ?_)))
 rintro v L' ⟨y, rfl, rfl⟩
 refine .a rfl (.an rfl (.ret ?_))
 have hr : lgFormat δ = ((lgF2 δ).1, some (lgF2 δ).2.1) := by unfold lgFormat; rw [if_neg (by rw [hf]; decide), if_neg (fun g => g h4_23),  if_neg (fun g => g h27)]
 rw [hr]
 refine .add (slR_nil 75 11) (.add (p := bigR entR []) (fun h => big_nil h) (.rg (y := y) (w := w) lg0 none 0 [] (EsOf.nil rfl rfl) ?_))
 exact .dn rfl rfl (.inr ⟨_, y, w, rfl, rfl, rfl⟩)
set_option maxHeartbeats 2000000 in
theorem r9read_spec (w x : Nat) (ω : Wl) (hl : ω.recs.length ≤ 1048576) (hs : ∀ s ∈ ω.recs, s.length ≤ 1073741824) (ha : I64 ω.a) (hb : I64 ω.b) : Fn Tryz.prog 209 #[vptr w] [rlR w x ω] fun v L => (openLZ ω = none ∧ v = .tuple #[.pointer none, .bool false] ∧ L = [rlR w x ω]) ∨ (∃ Λ y, openLZ ω = some Λ ∧ v = .tuple #[vptr y, .bool true] ∧ L = [rlR w x ω, rgR y w Λ]) := by
 refine Fn.intro Tryz.func209 rfl rfl fun F W => ?_
 refine .rlOpen (ω := ω) (by repeat' constructor) fun vr => (.slAny (v := vr) (by repeat' constructor) fun ar cr e hsl => ?_)
 subst e
 refine .sr (.a rfl (.an rfl (.seq (.draw [10] [[0, 1, 2, 3, 4, 5, 6, 7, 8, 9, 10], [11]] mixed (by kernel_rfl) (.g0 (.mv rfl rfl (.mv rfl rfl (.nf rfl rfl rfl fo_185_5 (.kv rfl (.ld rfl ag_3) (.mv rfl rfl (.nf rfl rfl rfl fo_185_6 (.kv rfl (.ld rfl ag_3) (.kv rfl (.to (v' := .agg [vptr w, vint 0, vstr [], .slice none 0 0, vint ω.a, vint ω.b, .bool false].toArray) (.build (us := [(0, _), (4, _), (5, _)]) fl_64 ze_64 rfl rfl (by simp [isCell])) rfl) (.hh rfl (.box rfl) ?_))))))))))))))
 rintro v L' ⟨y, rfl, rfl⟩
 refine D.ph (.g0 (.kv rfl (.assign rfl) (.ph (.fin (.ptCast (b := y) (l' := [vptr w, vint 0, vstr [], .slice none 0 0, vint ω.a, vint ω.b, .bool false]) (by repeat' constructor) (by exact rfl) (.then_n (.seq (.seq (.draw [] [[0, 1, 2, 3, 4, 5, 6, 7, 8, 9, 10, 11, 12, 13, 14, 15, 16, 17, 18, 19, 20, 21, 22, 23]] mixed (by kernel_rfl) (.g0 (.mv rfl rfl (.nf rfl rfl rfl fo_185_1 (.kv rfl (.ld rfl ag_39) (.kv rfl (.slen rfl Tryz.underlying39 rfl) (.kv rfl (.int rfl rfl rfl) (.mv rfl rfl (.dec (t := 29) rfl (fun h2_29 => ?_) (fun h2_29 => ?_))))))))))))))))))
 ·refine D.kDT (t := 28) rfl h2_29 (.gz rfl (.gz rfl (.gz rfl (.gz rfl (.gz rfl (.kv rfl (.pickT rfl rfl) (.mv rfl rfl (.gz rfl (.gz rfl (.gz rfl (.gz rfl (.gz rfl (.gz rfl (.gz rfl (.gz rfl (.gz rfl (.kv rfl (.pickT rfl rfl) (.pf (.condT rfl (.sr (.a rfl (.an rfl (.rt (.rlFold (y := w) (x := x) (ω := ω) (v := .slice ar ω.recs.length cr) (by repeat' constructor) rfl rfl rfl ?_))))))))))))))))))))))))
  exact .dn rfl rfl (.inl ⟨(by unfold openLZ; split; rfl; rw [List.eq_nil_of_length_eq_zero (by omega : ω.recs.length = 0)]; rfl), rfl, rfl⟩)
 refine D.kDF (t := 28) rfl h2_29 (.gv rfl (.move rfl) (.gv rfl (.nilp rfl) (.gv rfl (.fieldAddr rfl fo_185_5) (.gv rfl (.ld rfl ag_3) (.gv rfl (.int rfl rfl rfl) (.kv rfl (.pickF rfl rfl) (.mv rfl rfl (.dec (t := 36) rfl (fun h2_36 => ?_) (fun h2_36 => ?_)))))))))
 ·refine D.kDT (t := 34) rfl h2_36 (.kDT (t := 35) rfl h2_36 (.gz rfl (.gz rfl (.gz rfl (.gz rfl (.gz rfl (.gz rfl (.gz rfl (.gz rfl (.gz rfl (.kv rfl (.pickT rfl rfl) (.pf (.condT rfl (.sr (.a rfl (.an rfl (.rt (.rlFold (y := w) (x := x) (ω := ω) (v := .slice ar ω.recs.length cr) (by repeat' constructor) rfl rfl rfl ?_))))))))))))))))))
  exact .dn rfl rfl (.inl ⟨(by unfold openLZ; rw [if_pos (by first | exact .inl (by omega) | exact .inr (by omega))]), rfl, rfl⟩)
 refine D.kDF (t := 34) rfl h2_36 (.kDF (t := 35) rfl h2_36 (.gv rfl (.move rfl) (.gv rfl (.nilp rfl) (.gv rfl (.fieldAddr rfl fo_185_6) (.gv rfl (.ld rfl ag_3) (.gv rfl (.move rfl) (.gv rfl (.nilp rfl) (.gv rfl (.fieldAddr rfl fo_185_5) (.gv rfl (.ld rfl ag_3) (.gv rfl (.int rfl rfl rfl) (.kv rfl (.pickF rfl rfl) (.pf (.condD rfl (fun h46 => ?_) (fun h46 => ?_))))))))))))))
 ·refine .sr (.a rfl (.an rfl (.rt (.rlFold (y := w) (x := x) (ω := ω) (v := .slice ar ω.recs.length cr) (by repeat' constructor) rfl rfl rfl ?_))))
  exact .dn rfl rfl (.inl ⟨(by unfold openLZ; rw [if_pos (by first | exact .inl (by omega) | exact .inr (by omega))]), rfl, rfl⟩)
 refine .sk (.seq (.slShape (v := (.slice ar ω.recs.length cr)) (by repeat' constructor) (by omega) fun br c1 e m _ => ?_))
 simp only [Value.slice.injEq, true_and] at e
 obtain ⟨rfl, rfl⟩ := e
 have hpc : openLZ ω = lparseZ ω.a ω.b ω.recs := by unfold openLZ; rw [if_neg (by omega)]
 rw [parse_cons (by omega)] at hpc
 have hs0 : (ω.recs.getD 0 []).length ≤ 1073741824 := by rw [List.getD_eq_getElem?_getD, List.getElem?_eq_getElem (by omega)]; exact hs _ (List.getElem_mem _)
 refine .region (.m rfl (.nf rfl fo_185_1 (.u (.ld rfl ag_39) (.q (.indexAddr rfl rfl el_39 (by omega)) rfl (.q (.loadEl (p := strR (.slice (some ⟨br, 0, none⟩) ω.recs.length cr) ω.recs) (i := 0) (v := vstr (ω.recs.getD 0 [])) rfl ag_9 (by repeat' constructor) (fun h hp => slR_rd hp) (by have hil : 0 < ω.recs.length := (by omega); simp [strs, List.getD_eq_getElem?_getD, hil])) rfl ?_)))))
 refine .q (.to (v' := .agg [vstr (ω.recs.getD 0 []), vint 0, vint 0].toArray) (.build (us := [(0, _)]) fl_247 ze_247 rfl rfl (by simp [isCell])) rfl) rfl (.oq (.box rfl) ?_)
 rintro v L' ⟨r, rfl, rfl⟩
 refine .a rfl (.nil (.rfFold (r := r) (ω.recs.getD 0 []) 0 0 (by repeat' constructor) rfl (Nat.zero_le _) (by omega) (.rfUpF (r := r) (st := some (ω.recs.getD 0 [])) (by repeat' constructor) rfl (.then_n (.sm rfl (.m rfl (.cv Tryz.func229 [_] (rfnumR_spec r _) ?_)))))))
 refine .nf rfl fo_64_1 (.st rfl rfl rfl sz_3 ?_)
 refine .nil (.ptCast (b := y) (l' := [vptr w, vint (numR (some (ω.recs.getD 0 []))).1, vstr [], .slice none 0 0, vint ω.a, vint ω.b, .bool false]) (by repeat' constructor) (by exact rfl) (.then_n (.sm rfl (.oq (.call Tryz.func230 rfl rfl (vs := [_, _]) rfl (rfcount_spec r 65536 (by decide) _)) ?_))))
 rintro v L' ⟨rfl, rfl⟩; rw [show runP 0 (cntP 65536) (numR (some (ω.recs.getD 0 []))).2 = cntX (numR (some (ω.recs.getD 0 []))).2 from rfl]
 refine .an rfl (.seq (.sm rfl (.oq (.c Tryz.func213 [_] (rfend_spec r _)) ?_)))
 rintro v L' ⟨e1, he1, rfl, st', rfl⟩
 refine .ui rfl rfl rfl (.m rfl (.ndec (t := 65) rfl (fun h7_65 => ?_) (fun h7_65 => ?_)))
 ·refine .kNT (t := 64) rfl h7_65 (.gk (.gk (.gk (.gk (.gk (.u (.pickT rfl rfl) (.nt (.condT rfl (.sr (.a rfl (.an rfl (.rt (.rlFold (y := w) (x := x) (ω := ω) (v := .slice (some ⟨br, 0, none⟩) ω.recs.length cr) (by repeat' constructor) rfl rfl rfl ?_)))))))))))))
  exact .dn rfl rfl (.inl ⟨(by rw [hpc, lh_bad (fun g => h7_65 (he1.2 g))]), rfl, rfl⟩)
 refine .kNF (t := 64) rfl h7_65 (.grun (t := 65) rfl rfl rfl (.m rfl (.grun (t := 65) rfl rfl rfl (.u (.nilp rfl) (.grun (t := 65) rfl rfl rfl (.u (.fieldAddr rfl fo_64_1) (.grun (t := 65) rfl rfl rfl (.u (.ld rfl ag_3) (.grun (t := 65) rfl rfl rfl (.ui rfl rfl rfl (.u (.pickF rfl rfl) (.nt (.condD rfl (fun h71 => ?_) (fun h71 => ?_))))))))))))))
 ·refine .sr (.a rfl (.an rfl (.rt (.rlFold (y := w) (x := x) (ω := ω) (v := .slice (some ⟨br, 0, none⟩) ω.recs.length cr) (by repeat' constructor) rfl rfl rfl ?_))))
  exact .dn rfl rfl (.inl ⟨(by rw [hpc, lh_ok (he1.1 (by simpa using h7_65))]; exact if_pos (by omega)), rfl, rfl⟩)
 have hI0 := numR_i64 (some (ω.recs.getD 0 []))
 have hn0 := cntX_le (numR (some (ω.recs.getD 0 []))).2
 rw [lh_ok (he1.1 (by simpa using h7_65))] at hpc
 generalize hbase : (numR (some (ω.recs.getD 0 []))).1 = base at *
 generalize hmany : (cntX (numR (some (ω.recs.getD 0 []))).2).1 = many at *
 dsimp only at hpc
 rw [if_neg (by omega)] at hpc
 refine .sk (.sr (.an rfl (.seq (.block (.loopK (ι := Nat × Bs) (fun q E => (7, vint q.1) :: E) (fun q => [gc9 y w base q.2 (.slice none 0 0) ω.a ω.b false, lc w x (.slice (some ⟨br, 0, none⟩) ω.recs.length cr) ω.synced ω.area ω.count ω.a ω.b ω.doubt, strR (.slice (some ⟨br, 0, none⟩) ω.recs.length cr) ω.recs]) (fun q => q.1 ≤ ω.recs.length ∧ openLZ ω = restZ ω.a ω.b base (snapZ many q.2 (ω.recs.drop q.1)) ∧ q.2.length ≤ many) (fun q => ω.recs.length - q.1) (1, []) (ts := [0, 4, 6]) (.cons rfl (.cons rfl (.cons rfl (.nil)))) (⟨by dsimp only; omega, hpc, Nat.zero_le _⟩) ⟨rfl, rfl, rfl, rfl, trivial⟩ (by repeat' constructor) ?_)))))
 rintro ⟨i, sn⟩ ⟨hi, hpz, hsn⟩
 dsimp only
 dsimp only at hi hpz hsn
 refine .seq (.sm rfl (.nf rfl fo_64_2 (.u (.ld rfl ag_9) (.q (.strlen rfl Tryz.underlying9 rfl) rfl (.m rfl (.ui rfl rfl rfl (.nt (.condD rfl (fun h78 => ?_) (fun h78 => ?_)))))))))
 ·refine .sk (.block (.sm rfl (.m rfl (.nf rfl fo_64_2 (.u (.ld rfl ag_9) (.q (.strlen rfl Tryz.underlying9 rfl) rfl (.q (.sub rfl rfl (by omega)) rfl (.q (.as (v' := vint ((min 4000 (many - sn.length) : Nat) : Int)) (by congr 1; omega) (.min2 rfl rfl)) rfl (.an rfl (.seq (.sm rfl (.m rfl (.nf rfl fo_185_1 (.u (.ld rfl ag_39) (.q (.slen rfl Tryz.underlying39 rfl) rfl (.ui rfl rfl rfl (.m rfl (.dec (t := 94) rfl (fun h12_94 => ?_) (fun h12_94 => ?_)))))))))))))))))))
  ·refine .kDT (t := 93) rfl h12_94 (.gk (.gk (.gk (.gk (.gk (.gk (.gk (.gk (.gk (.gk (.u (.pickT rfl rfl) (.nt (.condT rfl (.sr (.a rfl (.an rfl (.rt (.blk_r (.then_r (.blk_r (.then_r (.rlFold (y := w) (x := x) (ω := ω) (v := .slice (some ⟨br, 0, none⟩) ω.recs.length cr) (by repeat' constructor) rfl rfl rfl ?_))))))))))))))))))))))
   exact .dn rfl rfl (.inl ⟨(by rw [hpz, List.drop_eq_nil_of_le (by omega), snap_none (by omega)]; rfl), rfl, rfl⟩)
  refine .kDF (t := 93) rfl h12_94 (.grun (t := 94) rfl rfl rfl (.m rfl (.grun (t := 94) rfl rfl rfl (.u (.nilp rfl) (.grun (t := 94) rfl rfl rfl (.u (.fieldAddr rfl fo_185_1) (.grun (t := 94) rfl rfl rfl (.u (.ld rfl ag_39) (.grun (t := 94) rfl rfl rfl (.m rfl (.grun (t := 94) rfl rfl rfl (.q (.indexAddr rfl rfl el_39 (by omega)) rfl (.grun (t := 94) rfl rfl rfl (.q (.loadEl (p := strR (.slice (some ⟨br, 0, none⟩) ω.recs.length cr) ω.recs) (i := i * 1) (v := vstr (ω.recs.getD i [])) rfl ag_9 (by repeat' constructor) (fun h hp => slR_rd hp) (by have hil : i < ω.recs.length := (by omega); simp [strs, List.getD_eq_getElem?_getD, hil])) rfl ?_))))))))))))))
  refine .grun (t := 94) rfl rfl rfl (.q (.strlen rfl Tryz.underlying9 rfl) rfl (.grun (t := 94) rfl rfl rfl (.m rfl (.grun (t := 94) rfl rfl rfl (.ui rfl rfl rfl (.u (.pickF rfl rfl) (.nt (.condN rfl (fun h105 => ?_) (fun h105 => ?_)))))))))
  ·refine .sr (.a rfl (.an rfl (.rt (.blk_r (.then_r (.blk_r (.then_r (.rlFold (y := w) (x := x) (ω := ω) (v := .slice (some ⟨br, 0, none⟩) ω.recs.length cr) (by repeat' constructor) rfl rfl rfl ?_))))))))
   exact .dn rfl rfl (.inl ⟨(by rw [hpz, drop_cons (by omega), snap_bad (by omega) (by omega)]; rfl), rfl, rfl⟩)
  refine .sk (.seq (.draw [15] [[0, 1, 2, 3, 4, 5, 6, 7, 8, 9, 10, 11, 12, 13, 14, 15]] mixed (by kernel_rfl) (.g0 (.mv rfl rfl (.mv rfl rfl (.nf rfl rfl rfl fo_64_2 (.kv rfl (.ld rfl ag_9) (.mv rfl rfl (.nf rfl rfl rfl fo_185_1 (.kv rfl (.ld rfl ag_39) (.mv rfl rfl (.kv rfl (.indexAddr rfl rfl el_39 (by omega)) (.kv rfl (.loadEl (p := strR (.slice (some ⟨br, 0, none⟩) ω.recs.length cr) ω.recs) (i := i * 1) (v := vstr (ω.recs.getD i [])) rfl ag_9 (by repeat' constructor) (fun h hp => slR_rd hp) (by have hil : i < ω.recs.length := (by omega); simp [strs, List.getD_eq_getElem?_getD, hil])) ?_)))))))))))))
  refine D.kv rfl (.concat rfl rfl (by omega)) (.nf rfl rfl rfl fo_64_2 (.hh rfl (.store rfl rfl rfl sz_9 ?c126 (nfz0 _ _)) ?_))
  case c126 => simp
  rintro v L' rfl
  refine D.pf (.region (.m rfl (.q (.add rfl rfl (by omega)) rfl (.a rfl (.nil (.blk_n (.then_n (.ptCast (b := y) (l' := [vptr w, vint base, vstr (sn ++ ω.recs.getD i []), .slice none 0 0, vint ω.a, vint ω.b, .bool false]) (by repeat' constructor) (by exact rfl) ?_))))))))
  exact .rk ((i + 1, sn ++ ω.recs.getD i [])) (⟨by dsimp only; omega, by dsimp only; rw [hpz, drop_cons (by omega), snap_step (by omega) (by omega)], by dsimp only; rw [List.length_append]; omega⟩) (by dsimp only; omega) ⟨rfl, rfl, rfl, rfl, trivial⟩
 refine .exit (.then_e (.then_e (.blk_e (.then_n (.seq (.seq ?_))))))
 rw [snap_done (by omega)] at hpz
 refine .add (slR_nil 75 11) (.add (p := bigR entR []) (fun h => big_nil h) (.region (.m rfl (.an rfl (.block (.loopK (ι := Nat × Value × (List En)) (fun q E => (9, vint q.1) :: E) (fun q => [gc9 y w base sn q.2.1 ω.a ω.b false, slR 75 11 q.2.1 q.2.2.length (q.2.2.flatMap enC), bigR entR q.2.2, lc w x (.slice (some ⟨br, 0, none⟩) ω.recs.length cr) ω.synced ω.area ω.count ω.a ω.b ω.doubt, strR (.slice (some ⟨br, 0, none⟩) ω.recs.length cr) ω.recs]) (fun q => q.1 ≤ ω.recs.length ∧ q.2.2.length ≤ 200 ∧ (∃ a c, q.2.1 = .slice a q.2.2.length c) ∧ (∀ e ∈ q.2.2, EnK e ∧ EnG e) ∧ openLZ ω = entsZ ⟨ω.a, ω.b, base, sn, q.2.2.map enB, q.2.2.map (·.zx), false⟩ (ω.recs.drop q.1)) (fun q => ω.recs.length - q.1) (i, .slice none 0 0, []) (ts := [0, 4]) (.cons rfl (.cons rfl (.nil))) (⟨hi, by dsimp only; decide, ⟨none, 0, rfl⟩, fun e he => (by cases he), hpz⟩) ⟨rfl, rfl, rfl, trivial⟩ (by repeat' constructor) ?_))))))
 rintro ⟨j, u, es⟩ ⟨hj, hel, ⟨au, cu, hu⟩, hek, hpe⟩
 dsimp only
 dsimp only at hj hel hu hek hpe
 subst hu
 refine .seq (.sm rfl (.m rfl (.nf rfl fo_185_1 (.u (.ld rfl ag_39) (.q (.slen rfl Tryz.underlying39 rfl) rfl (.ui rfl rfl rfl (.nt (.condD rfl (fun h130 => ?_) (fun h130 => ?_)))))))))
 ·have hsl2 : (ω.recs.getD j []).length ≤ 1073741824 := by rw [List.getD_eq_getElem?_getD, List.getElem?_eq_getElem (by omega)]; exact hs _ (List.getElem_mem _)
  refine .sk (.seq (.block (.sm rfl (.nf rfl fo_185_1 (.u (.ld rfl ag_39) (.m rfl (.q (.indexAddr rfl rfl el_39 (by omega)) rfl (.q (.loadEl (p := strR (.slice (some ⟨br, 0, none⟩) ω.recs.length cr) ω.recs) (i := j * 1) (v := vstr (ω.recs.getD j [])) rfl ag_9 (by repeat' constructor) (fun h hp => slR_rd hp) (by have hil : j < ω.recs.length := (by omega); simp [strs, List.getD_eq_getElem?_getD, hil])) rfl ?_))))))))
  refine .oq (.c Tryz.func173 [_] (r2get_spec (ω.recs.getD j []) (by omega))) ?_
  rintro v L' ⟨ge, er, hge, rfl, rfl⟩
  refine .m rfl (.u (.extract rfl rfl) (.u (.extract rfl rfl) (.oq (.allocA ze_75) ?_)))
  rintro v L' ⟨b10, rfl, rfl⟩
  refine .oq (.storeA rfl rfl ?c152 sz_75 ?c155 ?c153 (nfz0 _ _)) ?_
  case c152 => exact hge.cells
  case c155 => rfl
  case c153 => simp [enC, ptC]
  rintro v L' rfl
  refine .a rfl (.nil (.ptCast (b := b10) (l' := enC ge) (by repeat' constructor) (by exact rfl) (.then_n (.seq (.seq (.draw [] [[0, 1, 2, 3, 4, 5, 6, 7, 8, 9, 10, 11, 12, 13, 14, 15, 16]] mixed (by kernel_rfl) (.go [ptc b10 _ _, ptc y _ _, slR 75 11 _ es.length _] (by repeat' constructor) (.mv rfl rfl (.kv rfl (.int rfl rfl rfl) (.mv rfl rfl (.ndec (t := 146) rfl (fun h20_146 => ?_) (fun h20_146 => ?_))))))))))))
  ·refine D.kNT (t := 145) rfl h20_146 (.gz rfl (.gz rfl (.gz rfl (.gz rfl (.gz rfl (.kv rfl (.pickT rfl rfl) (.mv rfl rfl (.gz rfl (.gz rfl (.gz rfl (.gz rfl (.gz rfl (.gz rfl (.kv rfl (.pickT rfl rfl) (.pf (.condT rfl (.sr (.a rfl (.an rfl (.rt (.blk_r (.then_r (.then_r (.blk_r (.then_r (.rlFold (y := w) (x := x) (ω := ω) (v := .slice (some ⟨br, 0, none⟩) ω.recs.length cr) (by repeat' constructor) rfl rfl rfl ?_))))))))))))))))))))))))))
   exact .dn rfl rfl (.inl ⟨(by rw [hpe, drop_cons (by omega), ents_none (getZ_no hge h20_146)]), rfl, rfl⟩)
  obtain ⟨hgz, hge2, hgk, hgg⟩ := getZ_of hge h20_146
  refine D.kNF (t := 145) rfl h20_146 (.gv rfl (.fieldAddr rfl fo_75_0) (.gv rfl (.ld rfl ag_3) (.gv rfl (.move rfl) (.gm (t := 146) rfl rfl rfl (by kernel_rfl) (.c Tryz.func29 [_] (r9last_spec y w base sn au cu ω.a ω.b false es (by omega))) (by repeat' constructor) ?_))))
  refine D.gv rfl (.int rfl rfl rfl) (.kv rfl (.pickF rfl rfl) (.mv rfl rfl (.dec (t := 153) rfl (fun h20_153 => ?_) (fun h20_153 => ?_))))
  ·refine D.kDT (t := 151) rfl h20_153 (.kDT (t := 152) rfl h20_153 (.gz rfl (.gz rfl (.gz rfl (.gz rfl (.gz rfl (.gz rfl (.kv rfl (.pickT rfl rfl) (.pf (.condT rfl (.sr (.a rfl (.an rfl (.rt (.blk_r (.then_r (.then_r (.blk_r (.then_r (.rlFold (y := w) (x := x) (ω := ω) (v := .slice (some ⟨br, 0, none⟩) ω.recs.length cr) (by repeat' constructor) rfl rfl rfl ?_))))))))))))))))))))
   exact .dn rfl rfl (.inl ⟨(by rw [hpe, drop_cons (by omega), ents_bad hgz (by first | exact .inl h20_153 | exact .inr (by show (es.map enB).length = 200; rw [List.length_map]; omega))]), rfl, rfl⟩)
  refine D.kDF (t := 151) rfl h20_153 (.kDF (t := 152) rfl h20_153 (.gv rfl (.move rfl) (.gv rfl (.nilp rfl) (.gv rfl (.fieldAddr rfl fo_64_3) (.gv rfl (.ld rfl ag_33) (.gv rfl (.slen rfl Tryz.underlying33 rfl) (.gv rfl (.int rfl rfl rfl) (.kv rfl (.pickF rfl rfl) (.pf (.condD rfl (fun h160 => ?_) (fun h160 => ?_)))))))))))
  ·refine .sr (.a rfl (.an rfl (.rt (.blk_r (.then_r (.then_r (.blk_r (.then_r (.rlFold (y := w) (x := x) (ω := ω) (v := .slice (some ⟨br, 0, none⟩) ω.recs.length cr) (by repeat' constructor) rfl rfl rfl ?_)))))))))
   exact .dn rfl rfl (.inl ⟨(by rw [hpe, drop_cons (by omega), ents_bad hgz (by first | exact .inl h20_153 | exact .inr (by show (es.map enB).length = 200; rw [List.length_map]; omega))]), rfl, rfl⟩)
  refine .sk (.draw [6, 7, 10] [[0, 1, 2, 3, 4, 5, 6, 7], [8, 9, 10]] mixed (by kernel_rfl) (.go [ptc b10 _ _, ptc y _ _] (by repeat' constructor) (.k rfl (.move rfl) (.k rfl (.move rfl) (.k rfl (.nilp rfl) (.k rfl (.fieldAddr rfl fo_64_3) (.k rfl (.ld rfl ag_33) (.kv rfl (.loadAs (vs := enC ge) rfl ag_75 (by repeat' constructor) (by simp [enC, ptC]) rfl) (.hh rfl (.buildSlice (vs := [_]) el_33 ze_75 rfl rfl rfl rfl (by first | (simp [Value.cells]; done) | (intro v hv; simp only [List.mem_cons, List.not_mem_nil, or_false] at hv; (repeat (first | (subst hv; rfl) | (rcases hv with hv | hv; (subst hv; rfl)))))) (by decide)) ?_)))))))))
  rintro v L' ⟨b8, rfl, rfl⟩
  refine D.hh rfl (.append1 rfl rfl rfl el_33 ze_75 rfl rfl ?c187 ?c188 (Nat.le_refl _) ?c189 (by decide)) ?_
  case c187 => simp only [List.map_cons, List.map_nil, List.flatten_cons, List.flatten_nil, List.append_nil]; simp only [Value.cells]; intro z hz; exact hgk.cells z (by simpa using hz)
  case c188 => rfl
  case c189 => omega
  rintro v L' ⟨⟨a22, c22, rfl⟩, rfl⟩
  refine D.ph (.g0 (.nf rfl rfl rfl fo_64_3 (.hh rfl (.store rfl rfl rfl sz_33 ?c194 (nfz0 _ _)) ?_)))
  case c194 => simp
  rintro v L' rfl
  refine D.ph (.fin (.blk_n (.then_n (.region (.m rfl (.q (.add rfl rfl (by omega)) rfl (.an rfl (.bigAdd (f := entR) (l := es) (p := entR ge) ge rfl (by repeat' constructor) (.slCast (T := 75) (sz := 11) (m' := (es ++ [ge]).length) (xs' := (es ++ [ge]).flatMap enC) (by repeat' constructor) (by simp) (by rw [List.flatMap_append]; simp [Value.cells]) (.ptCast (b := y) (l' := [vptr w, vint base, vstr sn, .slice a22 (es.length + 1) c22, vint ω.a, vint ω.b, .bool false]) (by repeat' constructor) (by exact rfl) ?_))))))))))
  exact .rk ((j + 1, .slice a22 (es.length + 1) c22, es ++ [ge])) (⟨by dsimp only; omega, by dsimp only; rw [List.length_append, List.length_singleton]; omega, ⟨a22, c22, by simp⟩, fun e he => by rcases List.mem_append.1 he with he | he; exact hek e he; rw [List.mem_singleton] at he; subst he; exact ⟨hgk, hgg⟩, by dsimp only; rw [hpe, drop_cons (by omega), ents_step hgz (by rintro (g1 | g1); exact h20_153 g1; have g2 : (es.map enB).length = 200 := g1; rw [List.length_map] at g2; omega), show ge.pl.zx = ge.zx from rfl, keep_eq hge2]⟩) (by dsimp only; omega) ⟨rfl, rfl, rfl, trivial⟩
 refine .exit (.then_e (.then_e (.blk_e (.then_n (.sm rfl (.a rfl (.an rfl (.ret (.rlFold (y := w) (x := x) (ω := ω) (v := .slice (some ⟨br, 0, none⟩) ω.recs.length cr) (by repeat' constructor) rfl rfl rfl (.rg (y := y) (w := w) ⟨ω.a, ω.b, base, sn, es.map enB, es.map (·.zx), false⟩ au cu es (esOf_self (by omega) hek) ?_))))))))))
 exact .dn rfl rfl (.inr ⟨_, y, (by rw [hpe, List.drop_eq_nil_of_le (by omega)]; rfl), rfl, rfl⟩)
theorem marks_pos {Λ : Lg} (hb : 0 < Λ.base) (h : ∀ z ∈ Λ.zxs, z ≠ 0) : marksZ Λ = wantF (Λ.base :: Λ.zxs) := by
 unfold marksZ
 rw [List.foldl_cons, mk_new (by omega) (.inl rfl), marks_fold _ _ _ h, List.nil_append]
def wantW (Λ : Lg) (i : Nat) : List Int := if i = 0 ∧ Λ.base = 0 then wantF Λ.zxs else wantF ((Λ.base :: Λ.zxs).drop i)
theorem wantW_0 {Λ : Lg} (h : LgW Λ) : wantW Λ 0 = marksZ Λ := by
 unfold wantW
 have hb := h.base
 have hg := h.rows.gt
 by_cases g : Λ.base = 0
 ·rw [if_pos ⟨rfl, g⟩, marks_want g (fun z hz => by have := hg z hz; omega)]
 ·rw [if_neg (fun q => g q.2), marks_pos (by omega) (fun z hz => by have := hg z hz; omega), List.drop_zero]
theorem wantW_end {Λ : Lg} {i : Nat} (h : (Λ.base :: Λ.zxs).length ≤ i) : wantW Λ i = [] := by
 unfold wantW
 rw [if_neg (by rintro ⟨g, -⟩; rw [List.length_cons] at h; omega), List.drop_eq_nil_of_le h]; rfl
theorem wantW_go {Λ : Lg} (h : LgW Λ) {i : Nat} (hi : i < (Λ.base :: Λ.zxs).length) : wantW Λ i = (if (Λ.base :: Λ.zxs).getD i 0 > 0 ∧ (i + 1 = (Λ.base :: Λ.zxs).length ∨ ¬ (Λ.base :: Λ.zxs).getD (i + 1) 0 / 4294967296 = (Λ.base :: Λ.zxs).getD i 0 / 4294967296) then [(Λ.base :: Λ.zxs).getD i 0] else []) ++ wantW Λ (i + 1) := by
 have hb := h.base
 have e1 : wantW Λ (i + 1) = wantF ((Λ.base :: Λ.zxs).drop (i + 1)) := by unfold wantW; rw [if_neg (by rintro ⟨g, -⟩; omega)]
 rw [e1]
 by_cases g : i = 0 ∧ Λ.base = 0
 ·obtain ⟨rfl, g⟩ := g
  unfold wantW
  rw [if_pos ⟨rfl, g⟩, if_neg (by rintro ⟨q, -⟩; have e : (Λ.base :: Λ.zxs).getD 0 0 = Λ.base := rfl; omega)]
  rfl
 ·have hp : (Λ.base :: Λ.zxs).getD i 0 > 0 := by
   cases i with
   | zero => show Λ.base > 0; have : Λ.base ≠ 0 := fun q => g ⟨rfl, q⟩; omega
   | succ i =>
    rw [List.length_cons] at hi
    have := pos_at h (i := i) (by omega)
    show Λ.zxs.getD i 0 > 0; omega
  unfold wantW
  rw [if_neg g, want_step hi]
  by_cases q : i + 1 = (Λ.base :: Λ.zxs).length ∨ ¬ (Λ.base :: Λ.zxs).getD (i + 1) 0 / 4294967296 = (Λ.base :: Λ.zxs).getD i 0 / 4294967296
  ·rw [if_pos q, if_pos ⟨hp, q⟩]
  ·rw [if_neg q, if_neg (fun r => q r.2)]
theorem zx_take {es : List En} {base : Int} {i : Nat} (h : i < es.length) : base :: (es.take (i + 1)).map (·.zx) = (base :: (es.take i).map (·.zx)) ++ [es[i].zx] := by
 rw [List.take_succ_eq_append_getElem h, List.map_append, List.map_singleton]; rfl
/- not in this seat -/
/- not in this seat -/
theorem r9marks_spec (y w : Nat) (Λ : Lg) (a : Option Addr) (c : Nat) (es : List En) (hE : EsOf es Λ) (hW : LgW Λ) : Fn Tryz.prog 104 #[vptr y] [gc9 y w Λ.base Λ.snap (.slice a es.length c) Λ.acc Λ.cur Λ.doubt, es9 (.slice a es.length c) es] fun v L => ∃ a2 c2, v = .slice a2 (marksZ Λ).length c2 ∧ L = [gc9 y w Λ.base Λ.snap (.slice a es.length c) Λ.acc Λ.cur Λ.doubt, es9 (.slice a es.length c) es, intR (.slice a2 (marksZ Λ).length c2) (marksZ Λ)] := by
 refine Fn.intro Tryz.func104 rfl rfl fun F W => ?_
 have hn := hE.n
 have hW0 := wantW_0 hW
 refine .sr (.an rfl (.sm rfl (.nf rfl fo_64_1 (.u (.ld rfl ag_3) (.oq (.buildSlice1 (vs := [_]) el_32 ze_3 rfl rfl rfl rfl rfl (by decide)) ?_)))))
 rintro v L' ⟨b3, rfl, rfl⟩
 refine .a rfl (.nil (.slMake (b := b3) (n := 1) (c := 1) (xs := ints [Λ.base]) (by repeat' constructor) (by decide) (by simp) rfl (.then_n (.seq (.sr (.an rfl (.block (.loopK (ι := Nat × Value) (fun q E => (4, vint q.1) :: (3, q.2) :: E) (fun q => [gc9 y w Λ.base Λ.snap (.slice a es.length c) Λ.acc Λ.cur Λ.doubt, es9 (.slice a es.length c) es, slR 3 1 q.2 (q.1 + 1) (ints (Λ.base :: (es.take q.1).map (·.zx)))]) (fun q => q.1 ≤ es.length ∧ ∃ b c, q.2 = .slice (some ⟨b, 0, none⟩) (q.1 + 1) c) (fun q => es.length - q.1) (0, .slice (some ⟨b3, 0, none⟩) 1 1) (ts := [0, 2]) (.cons rfl (.cons rfl (.nil))) (⟨Nat.zero_le _, b3, 1, rfl⟩) ⟨rfl, rfl, rfl, rfl, trivial⟩ (by repeat' constructor) ?_))))))))
 rintro ⟨i, u⟩ ⟨hi, bu, cu, hu⟩
 dsimp only
 dsimp only at hi hu
 subst hu
 refine .seq (.sm rfl (.m rfl (.nf rfl fo_64_3 (.u (.ld rfl ag_33) (.q (.slen rfl Tryz.underlying33 rfl) rfl (.ui rfl rfl rfl (.nt (.condD rfl (fun h19 => ?_) (fun h19 => ?_)))))))))
 ·have hi2 : i < es.length := by omega
  refine .slShape (T := 75) (v := .slice a es.length c) (by repeat' constructor) (by omega) fun be c1 e m _ => ?_
  simp only [Value.slice.injEq, true_and] at e
  obtain ⟨rfl, rfl⟩ := e
  refine .sk (.seq (.block (.region (.m rfl (.m rfl (.nf rfl fo_64_3 (.u (.ld rfl ag_33) (.m rfl (.q (.indexAddr rfl rfl el_33 (by omega)) rfl (.u (.fieldAddr rfl fo_75_0) (.q (.loadRd (sz := 11) (j := i * 11 + 0) (p := es9 (.slice (some ⟨be, 0, none⟩) es.length c) es) (v := vint es[i].zx) rfl ag_3 (by repeat' constructor) (fun h hp => slR_rd hp) (by simp) ((en_cell (k := 0) hi2 (by decide)).trans rfl)) rfl (.oq (.buildSlice1 (vs := [_]) el_32 ze_3 rfl rfl rfl rfl rfl (by decide)) ?_))))))))))))
  rintro v L' ⟨b5, rfl, rfl⟩
  refine .oq (.shaped1 (k := i + 1 + 1) ?hk27 (.append1 rfl rfl rfl el_32 ze_3 rfl rfl ?h128 ?h229 (Nat.le_refl _) ?h330 (by decide))) ?_
  case hk27 => omega
  case h128 => (first | (simp [isCell]; done) | (simp [isCell, setAll, Value.cells]; done))
  case h229 => rfl
  case h330 => omega
  rintro v L' ⟨b7, c7, rfl, rfl⟩
  refine .a rfl (.nil (.blk_n (.then_n (.region (.m rfl (.q (.add rfl rfl (by omega)) rfl (.an rfl (.slCast (T := 3) (sz := 1) (m' := i + 1 + 1) (xs' := ints (Λ.base :: (es.take (i + 1)).map (·.zx))) (by repeat' constructor) rfl (by rw [zx_take hi2]; simp [ints, Value.cells]) ?_))))))))
  exact .rk ((i + 1, .slice (some ⟨b7, 0, none⟩) (i + 1 + 1) c7)) (⟨by dsimp only; omega, b7, c7, rfl⟩) (by dsimp only; omega) ⟨rfl, rfl, rfl, rfl, trivial⟩
 have hie : i = es.length := by omega
 obtain ⟨all, hall⟩ : ∃ all, Λ.base :: Λ.zxs = all := ⟨_, rfl⟩
 have hal : all.length = i + 1 := by rw [← hall, List.length_cons, ← hE.z, List.length_map]; omega
 refine .slCast (T := 3) (sz := 1) (m' := all.length) (xs' := ints all) (by repeat' constructor) (by rw [hal]) (by rw [hie, List.take_length, ← hall, hE.z]) ?_
 rw [← hal]
 obtain ⟨b3, c3, hb3⟩ : ∃ b c, (bu, cu) = (b, c) := ⟨_, _, rfl⟩
 obtain ⟨rfl, rfl⟩ := Prod.mk.injEq .. ▸ hb3
 refine .exit (.then_e (.then_e (.blk_e (.then_n (.sr (.an rfl (.seq (.seq (.add (slR_nil 3 1) (.region (.an rfl (.block (.loopK (ι := Nat × Value × (List Int)) (fun q E => (6, vint q.1) :: (5, q.2.1) :: E) (fun q => [gc9 y w Λ.base Λ.snap (.slice a es.length c) Λ.acc Λ.cur Λ.doubt, es9 (.slice a es.length c) es, intR (.slice (some ⟨bu, 0, none⟩) all.length cu) all, intR q.2.1 q.2.2]) (fun q => q.1 ≤ all.length ∧ q.2.2 ++ wantW Λ q.1 = marksZ Λ ∧ q.2.2.length ≤ q.1 ∧ ∃ a c, q.2.1 = .slice a q.2.2.length c) (fun q => all.length - q.1) (0, .slice none 0 0, []) (ts := [2, 3]) (.cons rfl (.cons rfl (.nil))) (⟨Nat.zero_le _, hW0, Nat.zero_le _, none, 0, rfl⟩) ⟨rfl, rfl, rfl, rfl, trivial⟩ (by repeat' constructor) ?_)))))))))))))
 rintro ⟨j, u, out⟩ ⟨hj, hout, hol, ao, co, hu⟩
 dsimp only
 dsimp only at hj hout hol hu
 subst hu
 refine .seq (.sm rfl (.m rfl (.q (.slen rfl Tryz.underlying32 rfl) rfl (.ui rfl rfl rfl (.nt (.condD rfl (fun h36 => ?_) (fun h36 => ?_)))))))
 ·have hj2 : j < all.length := by omega
  have hgo := wantW_go hW (i := j) (by rw [hall]; exact hj2)
  rw [hall] at hgo
  refine .sk (.seq (.block (.seq (.draw [] [[0, 1, 2, 3, 4, 5, 6, 7, 8, 9, 10, 11, 12, 13, 14, 15, 16, 17, 18, 19]] mixed (by kernel_rfl) (.g0 (.mv rfl rfl (.kv rfl (.add rfl rfl (by omega)) (.mv rfl rfl (.kv rfl (.slen rfl Tryz.underlying32 rfl) (.kv rfl (.int rfl rfl rfl) (.mv rfl rfl (.dec (t := 44) rfl (fun h10_44 => ?_) (fun h10_44 => ?_)))))))))))))
  ·refine D.kDT (t := 43) rfl h10_44 (.gz rfl (.gz rfl (.gz rfl (.gz rfl (.gz rfl (.gz rfl (.gz rfl (.gz rfl (.gz rfl (.gz rfl (.gz rfl (.gz rfl (.kv rfl (.pickT rfl rfl) (.kv rfl (.assign rfl) (.pf (.sm rfl (.m rfl (.q (.indexAddr rfl rfl el_32 (by omega)) rfl (.q (.loadEl (p := intR (.slice (some ⟨bu, 0, none⟩) all.length cu) all) (i := j * 1) (v := vint (all.getD (j) 0)) rfl ag_3 (by repeat' constructor) (fun h hp => slR_rd hp) (by have hil : j < all.length := (by omega); rw [Nat.mul_one]; simp [ints, List.getD_eq_getElem?_getD, hil])) rfl ?_)))))))))))))))))))
   refine .ui rfl rfl rfl (.m rfl (.dec (t := 63) rfl (fun h11_63 => ?_) (fun h11_63 => ?_)))
   ·refine .kDT (t := 62) rfl h11_63 (.grun (t := 63) rfl rfl rfl (.m rfl (.u (.pickT rfl rfl) (.nt (.condT rfl (.region (.m rfl (.m rfl (.m rfl (.q (.indexAddr rfl rfl el_32 (by omega)) rfl (.q (.loadEl (p := intR (.slice (some ⟨bu, 0, none⟩) all.length cu) all) (i := j * 1) (v := vint (all.getD (j) 0)) rfl ag_3 (by repeat' constructor) (fun h hp => slR_rd hp) (by have hil : j < all.length := (by omega); rw [Nat.mul_one]; simp [ints, List.getD_eq_getElem?_getD, hil])) rfl ?_)))))))))))
    refine .oq (.buildSlice1 (vs := [_]) el_32 ze_3 rfl rfl rfl rfl rfl (by decide)) ?_
    rintro v L' ⟨b12, rfl, rfl⟩
    refine .oq (.append1 rfl rfl rfl el_32 ze_3 rfl rfl ?c59 ?c60 (Nat.le_refl _) ?c61 (by decide)) ?_
    case c59 => (first | (simp [isCell]; done) | (simp [isCell, setAll, Value.cells]; done))
    case c60 => rfl
    case c61 => omega
    rintro v L' ⟨⟨a12, c12, rfl⟩, rfl⟩
    refine .a rfl (.nil (.blk_n (.then_n (.region (.m rfl (.q (.add rfl rfl (by omega)) rfl (.an rfl (.slCast (T := 3) (sz := 1) (m' := (out ++ [all.getD j 0]).length) (xs' := ints (out ++ [all.getD j 0])) (by repeat' constructor) (by simp) (by simp [ints, Value.cells]) ?_))))))))
    exact .rk ((j + 1, .slice a12 (out.length + 1) c12, out ++ [all.getD j 0])) (⟨by dsimp only; omega, by dsimp only; rw [hgo, if_pos ⟨h11_63, (.inl (by omega))⟩, ← List.append_assoc] at hout; exact hout, by dsimp only; rw [List.length_append, List.length_singleton]; omega, a12, c12, by simp⟩) (by dsimp only; omega) ⟨rfl, rfl, rfl, rfl, trivial⟩
   refine .kDF (t := 62) rfl h11_63 (.gk (.u (.pickF rfl rfl) (.nt (.condF rfl (.skip (.blk_n (.then_n (.region (.m rfl (.q (.add rfl rfl (by omega)) rfl (.an rfl ?_)))))))))))
   exact .rk ((j + 1, .slice ao out.length co, out)) (⟨by dsimp only; omega, by dsimp only; rw [hgo, if_neg (by exact fun g => h11_63 g.1), List.nil_append] at hout; exact hout, by dsimp only; omega, ao, co, rfl⟩) (by dsimp only; omega) ⟨rfl, rfl, rfl, rfl, trivial⟩
  refine D.kDF (t := 43) rfl h10_44 (.gv rfl (.move rfl) (.gv rfl (.move rfl) (.gv rfl (.as (v' := vint ((j + 1 : Nat) : Int)) (by congr 1) (.add rfl rfl (by omega))) (.gv rfl (.indexAddr rfl rfl el_32 (by omega)) (.gv rfl (.loadEl (p := intR (.slice (some ⟨bu, 0, none⟩) all.length cu) all) (i := (j + 1) * 1) (v := vint (all.getD ((j + 1)) 0)) rfl ag_3 (by repeat' constructor) (fun h hp => slR_rd hp) (by have hil : (j + 1) < all.length := (by omega); rw [Nat.mul_one]; simp [ints, List.getD_eq_getElem?_getD, hil])) ?_)))))
  refine D.gv rfl (.as (v' := vint (all.getD (j + 1) 0 / 4294967296)) (by exact shr32 _) (.shr rfl rfl (by first | decide | omega))) (.gv rfl (.move rfl) (.gv rfl (.move rfl) (.gv rfl (.indexAddr rfl rfl el_32 (by omega)) (.gv rfl (.loadEl (p := intR (.slice (some ⟨bu, 0, none⟩) all.length cu) all) (i := j * 1) (v := vint (all.getD (j) 0)) rfl ag_3 (by repeat' constructor) (fun h hp => slR_rd hp) (by have hil : j < all.length := (by omega); rw [Nat.mul_one]; simp [ints, List.getD_eq_getElem?_getD, hil])) ?_))))
  refine D.gv rfl (.as (v' := vint (all.getD j 0 / 4294967296)) (by exact shr32 _) (.shr rfl rfl (by first | decide | omega))) (.gv rfl (.int rfl rfl rfl) (.kv rfl (.pickF rfl rfl) (.kv rfl (.assign rfl) (.pf (.sm rfl (.m rfl (.q (.indexAddr rfl rfl el_32 (by omega)) rfl (.q (.loadEl (p := intR (.slice (some ⟨bu, 0, none⟩) all.length cu) all) (i := j * 1) (v := vint (all.getD (j) 0)) rfl ag_3 (by repeat' constructor) (fun h hp => slR_rd hp) (by have hil : j < all.length := (by omega); rw [Nat.mul_one]; simp [ints, List.getD_eq_getElem?_getD, hil])) rfl ?_))))))))
  refine .ui rfl rfl rfl (.m rfl (.dec (t := 63) rfl (fun h11_63 => ?_) (fun h11_63 => ?_)))
  ·refine .kDT (t := 62) rfl h11_63 (.grun (t := 63) rfl rfl rfl (.m rfl (.u (.pickT rfl rfl) (.nt (.condN rfl (fun h65 => ?_) (fun h65 => ?_))))))
   ·refine .region (.m rfl (.m rfl (.m rfl (.q (.indexAddr rfl rfl el_32 (by omega)) rfl (.q (.loadEl (p := intR (.slice (some ⟨bu, 0, none⟩) all.length cu) all) (i := j * 1) (v := vint (all.getD (j) 0)) rfl ag_3 (by repeat' constructor) (fun h hp => slR_rd hp) (by have hil : j < all.length := (by omega); rw [Nat.mul_one]; simp [ints, List.getD_eq_getElem?_getD, hil])) rfl ?_)))))
    refine .oq (.buildSlice1 (vs := [_]) el_32 ze_3 rfl rfl rfl rfl rfl (by decide)) ?_
    rintro v L' ⟨b12, rfl, rfl⟩
    refine .oq (.append1 rfl rfl rfl el_32 ze_3 rfl rfl ?c93 ?c94 (Nat.le_refl _) ?c95 (by decide)) ?_
    case c93 => (first | (simp [isCell]; done) | (simp [isCell, setAll, Value.cells]; done))
    case c94 => rfl
    case c95 => omega
    rintro v L' ⟨⟨a12, c12, rfl⟩, rfl⟩
    refine .a rfl (.nil (.blk_n (.then_n (.region (.m rfl (.q (.add rfl rfl (by omega)) rfl (.an rfl (.slCast (T := 3) (sz := 1) (m' := (out ++ [all.getD j 0]).length) (xs' := ints (out ++ [all.getD j 0])) (by repeat' constructor) (by simp) (by simp [ints, Value.cells]) ?_))))))))
    exact .rk ((j + 1, .slice a12 (out.length + 1) c12, out ++ [all.getD j 0])) (⟨by dsimp only; omega, by dsimp only; rw [hgo, if_pos ⟨h11_63, (.inr (by first | exact h65 | simpa using h65))⟩, ← List.append_assoc] at hout; exact hout, by dsimp only; rw [List.length_append, List.length_singleton]; omega, a12, c12, by simp⟩) (by dsimp only; omega) ⟨rfl, rfl, rfl, rfl, trivial⟩
   refine .skip (.blk_n (.then_n (.region (.m rfl (.q (.add rfl rfl (by omega)) rfl (.an rfl ?_))))))
   exact .rk ((j + 1, .slice ao out.length co, out)) (⟨by dsimp only; omega, by dsimp only; rw [hgo, if_neg (by rintro ⟨-, g | g⟩; exact h10_44 (by omega); exact g (by simpa using h65)), List.nil_append] at hout; exact hout, by dsimp only; omega, ao, co, rfl⟩) (by dsimp only; omega) ⟨rfl, rfl, rfl, rfl, trivial⟩
  refine .kDF (t := 62) rfl h11_63 (.gk (.u (.pickF rfl rfl) (.nt (.condF rfl (.skip (.blk_n (.then_n (.region (.m rfl (.q (.add rfl rfl (by omega)) rfl (.an rfl ?_)))))))))))
  exact .rk ((j + 1, .slice ao out.length co, out)) (⟨by dsimp only; omega, by dsimp only; rw [hgo, if_neg (by exact fun g => h11_63 g.1), List.nil_append] at hout; exact hout, by dsimp only; omega, ao, co, rfl⟩) (by dsimp only; omega) ⟨rfl, rfl, rfl, rfl, trivial⟩
 have hje : j = all.length := by omega
 have hend := wantW_end (Λ := Λ) (i := j) (by rw [hall]; omega)
 rw [hend, List.append_nil] at hout
 subst hout
 refine .exit (.then_e (.then_e (.blk_e (.then_n (.sm rfl (.an rfl (.ret ?_)))))))
 exact .dn rfl rfl ⟨ao, co, rfl, rfl⟩
section
variable {W : World} {n : Nat} {ds : List Deferred} {E : Env} {L R : List HP} {X : Act → World → Prop}
end
/- not in this seat -/
/- not in this seat -/
/- not in this seat -/
/- not in this seat -/
/- not in this seat -/
/- not in this seat -/
/- not in this seat -/
/- not in this seat -/
/- not in this seat: r9ent2_spec -/
theorem met_gc {y w : Nat} {sl : Value} (Λ : Lg) (e : Int) : gc9 y w Λ.base Λ.snap sl Λ.acc Λ.cur (if e = 2 then true else Λ.doubt) = gc9 y w (Λ.met e).base (Λ.met e).snap sl (Λ.met e).acc (Λ.met e).cur (Λ.met e).doubt := by
 unfold Lg.met
 by_cases h : e = 2
 ·rw [if_pos h, if_pos h]
 ·rw [if_neg h, if_neg h]
theorem EsOf.met {es : List En} {Λ : Lg} (h : EsOf es Λ) (e : Int) : EsOf es (Λ.met e) := by
 obtain ⟨h1, h2, h3, h4⟩ := h
 unfold Lg.met
 split
 ·exact ⟨h1, h2, h3, h4⟩
 ·exact ⟨h1, h2, h3, h4⟩
theorem EsOf.acc {es : List En} {Λ : Lg} (h : EsOf es Λ) (n : Int) : EsOf es (Λ.setAcc n) := ⟨h.b, h.z, h.n, h.k⟩
theorem EsOf.cur {es : List En} {Λ : Lg} (h : EsOf es Λ) (n : Int) : EsOf es (Λ.setCur n) := ⟨h.b, h.z, h.n, h.k⟩
theorem EsOf.cut {es : List En} {Λ : Lg} (h : EsOf es Λ) (n : Nat) : EsOf (es.take n) ⟨Λ.acc, Λ.cur, Λ.base, Λ.snap, Λ.ents.take n, Λ.zxs.take n, Λ.doubt⟩ :=
 ⟨by rw [List.map_take, h.b], by rw [List.map_take, h.z], by have := h.n; rw [List.length_take]; omega, fun e he => h.k e (List.mem_of_mem_take he)⟩
theorem idx_at : ∀ {l : List Int} {i : Nat} {z : Int} (h : i < l.length), l[i] = z → (∀ j (hj : j < i) (h2 : j < l.length), l[j] ≠ z) → l.idxOf z = i
 | x :: l, 0, z, _, hz, _ => by
  have : x = z := hz
  subst this; exact List.idxOf_cons_self
 | x :: l, i + 1, z, h, hz, hb => by
  have h0 : x ≠ z := hb 0 (by omega) (by simp)
  have ih := idx_at (l := l) (i := i) (z := z) (by simpa using h) (by simpa using hz) (fun j hj h2 => hb (j + 1) (by omega) (by simpa using h2))
  rw [List.idxOf_cons, ih, show (x == z) = false from by simpa using h0]; rfl
 | [], _, _, h, _, _ => by simp at h
theorem big_tk {α : Type} {f : α → HP} : ∀ {l : List α} (n : Nat) {h : Hp}, bigR f l h → bigR f (l.take n) h
 | [], n, h, hp => by rw [List.take_nil]; exact big_nil h
 | x :: l, 0, h, hp => big_nil h
 | x :: l, n + 1, h, hp => by
  obtain ⟨h1, h2, a, b, c, q1, q2⟩ := big_cons hp
  rw [List.take_succ_cons]
  obtain ⟨h3, h4, a', b', c', q3, -⟩ := q2
  have q4 := big_tk n q3
  exact big_of_cons ⟨h1, h2, a, b, c, q1, h3, h4, a', b', c', q4, trivial⟩
theorem slen_of {v : Value} {a : Option Addr} {n c : Nat} (h : v = .slice a n c) : slen v = n := by rw [h]; rfl
theorem r9fits_spec (e : En) (p : HP) (he : EnX p e) : Fn Tryz.prog 171 #[.agg (enC e).toArray] [p] fun v L => v = .bool (fitsE e) ∧ L = [p] := by
 obtain ⟨sV, hsV⟩ : ∃ sV, e.x.subsV = sV := ⟨_, rfl⟩
 have hs : ∀ h : Hp, p h → rdS 8 h sV e.subs.length (e.subs.flatMap ptC) := by rw [← hsV]; exact he.l.w.subs
 refine Fn.intro Tryz.func171 rfl rfl fun F W => ?_
 have hfw := he.l.few.1
 have hle := he.l.len
 refine .rdAny (p := p) hs (by repeat' constructor) fun as1 cs1 e2 _ => ?_
 subst e2
 refine .sr (.oq (.box rfl) ?_)
 rintro v L' ⟨b1, rfl, rfl⟩
 refine .a rfl (.nil (.ptCast (b := b1) (l' := enC e) (by repeat' constructor) (by exact rfl) (.then_n (.seq (.sr (.an rfl (.block (.loopK (ι := Nat) (fun q E => (3, vint q) :: E) (fun q => []) (fun q => q ≤ e.subs.length ∧ ∀ j (hj : j < q) (hl : j < e.subs.length), slen e.subs[j].subsV = 0) (fun q => e.subs.length - q) (0) (ts := [1]) (.cons rfl (.nil)) (⟨Nat.zero_le _, fun j hj => by omega⟩) ⟨rfl, rfl, trivial⟩ (by repeat' constructor) ?_))))))))
 rintro i ⟨hi, hb⟩
 refine .seq (.sm rfl (.u (.fieldAddr rfl fo_75_3) (.u (.fieldAddr rfl fo_73_7) (.q (.to (v' := .slice as1 e.subs.length cs1) (.load rfl ag_71 (by repeat' constructor) rfl) hsV) rfl (.q (.slen rfl Tryz.underlying71 rfl) rfl (.ui rfl rfl rfl (.nt (.condD rfl (fun h11 => ?_) (fun h11 => ?_)))))))))
 ·have hi2 : i < e.subs.length := by omega
  obtain ⟨sa, sn, sc, hsy⟩ := he.sub _ (List.getElem_mem hi2)
  refine .rdShape (p := p) hs (by repeat' constructor) (by omega) fun ba oa e1 => ?_
  subst e1
  refine .sk (.seq (.block (.sr (.u (.fieldAddr rfl fo_75_3) (.u (.fieldAddr rfl fo_73_7) (.q (.to (v' := .slice (some ⟨ba, oa, none⟩) e.subs.length cs1) (.load rfl ag_71 (by repeat' constructor) rfl) hsV) rfl (.m rfl (.q (.indexAddr rfl rfl el_71 (by omega)) rfl (.u (.fieldAddr rfl fo_73_7) (.q (.to (v' := .slice sa sn sc) (.loadRd (sz := 8) (j := i * 8 + 7) (p := p) (v := e.subs[i].subsV) rfl ag_71 (by repeat' constructor) hs (by omega) ((fm_cell (f := ptC) (sz := 8) (k := 7) (fun _ _ => rfl) hi2 (by decide)).trans rfl)) hsy) rfl (.q (.slen rfl Tryz.underlying71 rfl) rfl (.ui rfl rfl rfl (.nt (.condD rfl (fun h22 => ?_) (fun h22 => ?_)))))))))))))))
  ·refine .sr (.an rfl (.ret (.blk_r (.then_r (.then_r (.blk_r (.then_r ?_)))))))
   have hf : fitsE e = false := by unfold fitsE; rw [show noSubs e = false from by unfold noSubs; rw [List.all_eq_false]; exact ⟨e.subs[i], List.getElem_mem hi2, by rw [slen_of hsy]; simp; omega⟩]; rfl
   rw [hf]
   exact .vv
  refine .skip (.blk_n (.then_n (.region (.m rfl (.q (.add rfl rfl (by omega)) rfl (.an rfl ?_))))))
  exact .rk (i + 1) (⟨by omega, fun j hj hl => by rcases Nat.lt_or_ge j i with g | g; exact hb j g hl; obtain rfl : j = i := (by omega); rw [slen_of hsy]; omega⟩) (by omega) ⟨rfl, rfl, trivial⟩
 have hns : noSubs e = true := by unfold noSubs; rw [List.all_eq_true]; intro s hs9; obtain ⟨j, hj, rfl⟩ := List.mem_iff_getElem.1 hs9; simpa using hb j (by omega) hj
 refine .exit (.then_e (.then_e (.blk_e (.then_n (.sr (.q (.loadAs (vs := enC e) rfl ag_75 (by repeat' constructor) (by simp [enC, ptC]) rfl) rfl (.cv Tryz.func83 [_] (r2put_spec e p he.l) ?_)))))))
 refine .oq (.c Tryz.func173 [_] (r2get_spec (enB e) (by omega))) ?_
 rintro v L' ⟨ge, er, hge, rfl, rfl⟩
 refine .m rfl (.u (.extract rfl rfl) (.u (.extract rfl rfl) (.oq (.allocA ze_75) ?_)))
 rintro v L' ⟨b4, rfl, rfl⟩
 refine .oq (.storeA rfl rfl ?c32 sz_75 ?c35 ?c33 (nfz0 _ _)) ?_
 case c32 => exact hge.cells
 case c35 => rfl
 case c33 => simp [enC, ptC]
 rintro v L' rfl
 refine .an rfl (.sm rfl (.q (.as (v' := .bool (fitsE e)) (by exact congrArg Value.bool (by unfold fitsE; rw [hns]; rcases hge with ⟨rfl, h2, -⟩ | ⟨rfl, h2, -⟩ <;> rw [h2] <;> rfl)) (.int rfl rfl rfl)) rfl (.an rfl (.ret ?_))))
 exact .vv
theorem r9sync_spec (y w x : Nat) (δ : Dk) (ω : Wl) (Λ : Lg) (hI : WlI δ ω) (hab : (0 ≤ ω.a ∧ ω.a ≤ 9223372036854775807) ∧ (0 ≤ ω.b ∧ ω.b ≤ 9223372036854775807)) : Fn Tryz.prog 108 #[vptr y] [rgR y w Λ, rlR w x ω, dsR x δ] fun v L => v = vint (lgSync ⟨δ, ω, Λ⟩).2 ∧ L = [rgR y w (lgSync ⟨δ, ω, Λ⟩).1.Λ, rlR w x (lgSync ⟨δ, ω, Λ⟩).1.ω, dsR x (lgSync ⟨δ, ω, Λ⟩).1.δ] := by
 refine Fn.intro Tryz.func108 rfl rfl fun F W => ?_
 refine .rgOpen (y := y) (by repeat' constructor) fun a c es hE => (.sr (.an rfl (.seq (.sm rfl (.nf rfl fo_64_6 (.u (.ld rfl ag_4) (.nt (.condB rfl (fun h6 => ?_) (fun h6 => ?_)))))))))
 ·refine .sr (.an rfl (.rt ?_))
  have hr : lgSync ⟨δ, ω, Λ⟩ = (⟨δ, ω, Λ⟩, 2) := by unfold lgSync; dsimp only; rw [if_pos h6]
  rw [hr]
  try dsimp only
  refine .rg (y := y) (w := w) (Λ) (a) (c) (es) (hE) ?_
  exact .vv
 refine .sk (.sm rfl (.m rfl (.nf rfl fo_64_0 (.u (.ld rfl ag_62) (.cv Tryz.func90 [_] (rlsync_spec w x ω δ hI hab) ?_)))))
 refine .oq (.c Tryz.func167 [_, _] (r9met_spec y w Λ.base Λ.snap _ Λ.acc Λ.cur Λ.doubt (syncZ δ ω).2.2)) ?_
 rintro v L' ⟨rfl, rfl⟩; rw [met_gc Λ (syncZ δ ω).2.2]
 refine .an rfl (.ret ?_)
 have hr : lgSync ⟨δ, ω, Λ⟩ = metL Λ (syncZ δ ω) := by unfold lgSync; dsimp only; rw [if_neg (by rw [h6]; decide)]
 rw [hr]
 try dsimp only
 refine .rg (y := y) (w := w) (Λ.met (syncZ δ ω).2.2) (a) (c) (es) (hE.met _) ?_
 exact .vv
theorem r9accept_spec (y w x : Nat) (δ : Dk) (ω : Wl) (Λ : Lg) (n : Int) (hI : WlI δ ω) (hc : Λ.cur ≤ 9223372036854775807) : Fn Tryz.prog 103 #[vptr y, vint n] [rgR y w Λ, rlR w x ω, dsR x δ] fun v L => v = vint (lgAccept ⟨δ, ω, Λ⟩ n).2 ∧ L = [rgR y w (lgAccept ⟨δ, ω, Λ⟩ n).1.Λ, rlR w x (lgAccept ⟨δ, ω, Λ⟩ n).1.ω, dsR x (lgAccept ⟨δ, ω, Λ⟩ n).1.δ] := by
 refine Fn.intro Tryz.func103 rfl rfl fun F W => ?_
 refine .rgOpen (y := y) (by repeat' constructor) fun a c es hE => (.sr (.an rfl (.seq (.sm rfl (.nf rfl fo_64_6 (.u (.ld rfl ag_4) (.nt (.condB rfl (fun h9 => ?_) (fun h9 => ?_)))))))))
 ·refine .sr (.an rfl (.rt ?_))
  have hr : lgAccept ⟨δ, ω, Λ⟩ n = (⟨δ, ω, Λ⟩, 2) := by unfold lgAccept; dsimp only; rw [if_pos h9]
  rw [hr]
  try dsimp only
  refine .rg (y := y) (w := w) (Λ) (a) (c) (es) (hE) ?_
  exact .vv
 refine .sk (.seq (.sm rfl (.m rfl (.nf rfl fo_64_4 (.u (.ld rfl ag_3) (.ui rfl rfl rfl (.m rfl (.dec (t := 16) rfl (fun h3_16 => ?_) (fun h3_16 => ?_)))))))))
 ·refine .kDT (t := 15) rfl h3_16 (.gk (.gk (.u (.pickT rfl rfl) (.nt (.condT rfl (.sr (.an rfl (.rt ?_))))))))
  have hr : lgAccept ⟨δ, ω, Λ⟩ n = (⟨δ, ω, Λ⟩, 82) := by unfold lgAccept; dsimp only; rw [if_neg (by rw [h9]; decide), if_pos (by omega)]
  rw [hr]
  try dsimp only
  refine .rg (y := y) (w := w) (Λ) (a) (c) (es) (hE) ?_
  exact .vv
 refine .kDF (t := 15) rfl h3_16 (.grun (t := 16) rfl rfl rfl (.m rfl (.grun (t := 16) rfl rfl rfl (.ui rfl rfl rfl (.u (.pickF rfl rfl) (.nt (.condD rfl (fun h19 => ?_) (fun h19 => ?_))))))))
 ·refine .sr (.an rfl (.rt ?_))
  have hr : lgAccept ⟨δ, ω, Λ⟩ n = (⟨δ, ω, Λ⟩, 82) := by unfold lgAccept; dsimp only; rw [if_neg (by rw [h9]; decide), if_pos (by omega)]
  rw [hr]
  try dsimp only
  refine .rg (y := y) (w := w) (Λ) (a) (c) (es) (hE) ?_
  exact .vv
 refine .sk (.seq (.sm rfl (.m rfl (.nf rfl fo_64_4 (.u (.ld rfl ag_3) (.ui rfl rfl rfl (.nt (.condD rfl (fun h25 => ?_) (fun h25 => ?_)))))))))
 ·refine .sr (.an rfl (.rt ?_))
  have hr : lgAccept ⟨δ, ω, Λ⟩ n = (⟨δ, ω, Λ⟩, 0) := by unfold lgAccept; dsimp only; rw [if_neg (by rw [h9]; decide), if_neg (by omega), if_pos h25]
  rw [hr]
  try dsimp only
  refine .rg (y := y) (w := w) (Λ) (a) (c) (es) (hE) ?_
  exact .vv
 refine .sk (.seq (.draw [10, 11] [[0, 1, 2, 3, 4, 5, 6, 7, 8, 9, 10], [11], [12]] mixed (by kernel_rfl) (.g0 (.k rfl (.move rfl) (.mv rfl rfl (.nf rfl rfl rfl fo_64_0 (.kv rfl (.ld rfl ag_62) (.mv rfl rfl (.mv rfl rfl (.nf rfl rfl rfl fo_64_5 (.kv rfl (.ld rfl ag_3) (.hh rfl (.c Tryz.func168 [_, _, _] (rmark_spec w x ω δ n Λ.cur hI (by omega) hc)) ?_))))))))))))
 rintro v L' ⟨rfl, rfl⟩
 refine D.ph (.g0 (.hh rfl (.c Tryz.func167 [_, _] (r9met_spec y w Λ.base Λ.snap _ Λ.acc Λ.cur Λ.doubt (setmZ δ ω n Λ.cur).2.2)) ?_))
 rintro v L' ⟨rfl, rfl⟩; rw [met_gc Λ (setmZ δ ω n Λ.cur).2.2]
 refine D.ph (.g0 (.kv rfl (.assign rfl) (.pf (.seq (.sm rfl (.ui rfl rfl rfl (.nt (.condD rfl (fun h39 => ?_) (fun h39 => ?_)))))))))
 ·refine .region (.m rfl (.m rfl (.nf rfl fo_64_4 (.oq (.store rfl rfl rfl sz_3 ?c44 (nfz0 _ _)) ?_))))
  case c44 => simp
  rintro v L' rfl
  refine .nt (.sm rfl (.an rfl (.ret ?_)))
  have hr : lgAccept ⟨δ, ω, Λ⟩ n = (⟨(setmZ δ ω n Λ.cur).1, (setmZ δ ω n Λ.cur).2.1, (metL Λ (setmZ δ ω n Λ.cur)).1.Λ.setAcc n⟩, 0) := by unfold lgAccept; dsimp only; rw [if_neg (by rw [h9]; decide), if_neg (by omega), if_neg h25, if_pos (show (metL Λ (setmZ δ ω n Λ.cur)).2 = 0 from h39)]
  rw [hr]
  try dsimp only
  rw [h39]
  refine .rg (y := y) (w := w) ((Λ.met (setmZ δ ω n Λ.cur).2.2).setAcc n) (a) (c) (es) ((hE.met _).acc n) ?_
  exact .vv
 refine .sk (.sm rfl (.an rfl (.ret ?_)))
 have hr : lgAccept ⟨δ, ω, Λ⟩ n = metL Λ (setmZ δ ω n Λ.cur) := by unfold lgAccept; dsimp only; rw [if_neg (by rw [h9]; decide), if_neg (by omega), if_neg h25, if_neg (show ¬ (metL Λ (setmZ δ ω n Λ.cur)).2 = 0 from h39)]
 rw [hr]
 try dsimp only
 refine .rg (y := y) (w := w) (Λ.met (setmZ δ ω n Λ.cur).2.2) (a) (c) (es) (hE.met _) ?_
 exact .vv
theorem r9adopt_spec (y w x : Nat) (δ : Dk) (ω : Wl) (Λ : Lg) (n : Int) (hI : WlI δ ω) (hab : (0 ≤ ω.a ∧ ω.a ≤ 9223372036854775807) ∧ (0 ≤ ω.b ∧ ω.b ≤ 9223372036854775807)) (hI1 : WlI (lgSync ⟨δ, ω, Λ⟩).1.δ (lgSync ⟨δ, ω, Λ⟩).1.ω) (hc : Λ.acc ≤ 9223372036854775807) : Fn Tryz.prog 106 #[vptr y, vint n] [rgR y w Λ, rlR w x ω, dsR x δ] fun v L => v = vint (lgAdopt ⟨δ, ω, Λ⟩ n).2 ∧ L = [rgR y w (lgAdopt ⟨δ, ω, Λ⟩ n).1.Λ, rlR w x (lgAdopt ⟨δ, ω, Λ⟩ n).1.ω, dsR x (lgAdopt ⟨δ, ω, Λ⟩ n).1.δ] := by
 refine Fn.intro Tryz.func106 rfl rfl fun F W => ?_
 refine .rgOpen (y := y) (by repeat' constructor) fun a c es hE => (.sr (.an rfl (.seq (.sm rfl (.nf rfl fo_64_6 (.u (.ld rfl ag_4) (.nt (.condB rfl (fun h9 => ?_) (fun h9 => ?_)))))))))
 ·refine .sr (.an rfl (.rt ?_))
  have hr : lgAdopt ⟨δ, ω, Λ⟩ n = (⟨δ, ω, Λ⟩, 2) := by unfold lgAdopt; dsimp only; rw [if_pos h9]
  rw [hr]
  try dsimp only
  refine .rg (y := y) (w := w) (Λ) (a) (c) (es) (hE) ?_
  exact .vv
 refine .sk (.seq (.sm rfl (.m rfl (.nf rfl fo_64_5 (.u (.ld rfl ag_3) (.ui rfl rfl rfl (.m rfl (.dec (t := 16) rfl (fun h3_16 => ?_) (fun h3_16 => ?_)))))))))
 ·refine .kDT (t := 15) rfl h3_16 (.gk (.gk (.gk (.gk (.gk (.gk (.u (.pickT rfl rfl) (.nt (.condT rfl (.sr (.an rfl (.rt ?_))))))))))))
  have hr : lgAdopt ⟨δ, ω, Λ⟩ n = (⟨δ, ω, Λ⟩, 82) := by unfold lgAdopt; dsimp only; rw [if_neg (by rw [h9]; decide), if_pos (by omega)]
  rw [hr]
  try dsimp only
  refine .rg (y := y) (w := w) (Λ) (a) (c) (es) (hE) ?_
  exact .vv
 refine .kDF (t := 15) rfl h3_16 (.grun (t := 16) rfl rfl rfl (.m rfl (.grun (t := 16) rfl rfl rfl (.m rfl (.grun (t := 16) rfl rfl rfl (.u (.nilp rfl) (.grun (t := 16) rfl rfl rfl (.u (.fieldAddr rfl fo_64_4) (.grun (t := 16) rfl rfl rfl (.u (.ld rfl ag_3) (.grun (t := 16) rfl rfl rfl (.ui rfl rfl rfl (.u (.pickF rfl rfl) (.nt (.condD rfl (fun h23 => ?_) (fun h23 => ?_))))))))))))))))
 ·refine .sr (.an rfl (.rt ?_))
  have hr : lgAdopt ⟨δ, ω, Λ⟩ n = (⟨δ, ω, Λ⟩, 82) := by unfold lgAdopt; dsimp only; rw [if_neg (by rw [h9]; decide), if_pos (by omega)]
  rw [hr]
  try dsimp only
  refine .rg (y := y) (w := w) (Λ) (a) (c) (es) (hE) ?_
  exact .vv
 refine .sk (.sm rfl (.m rfl (.nf rfl fo_64_0 (.u (.ld rfl ag_62) (.cv Tryz.func90 [_] (rlsync_spec w x ω δ hI hab) ?_)))))
 refine .oq (.c Tryz.func167 [_, _] (r9met_spec y w Λ.base Λ.snap _ Λ.acc Λ.cur Λ.doubt (syncZ δ ω).2.2)) ?_
 rintro v L' ⟨rfl, rfl⟩; rw [met_gc Λ (syncZ δ ω).2.2]
 refine .a rfl (.nil ?_)
 have hsy : lgSync ⟨δ, ω, Λ⟩ = metL Λ (syncZ δ ω) := by unfold lgSync; dsimp only; rw [if_neg (by rw [h9]; decide)]
 refine .then_n (.seq (.sm rfl (.ui rfl rfl rfl (.nt (.condN rfl (fun h32 => ?_) (fun h32 => ?_))))))
 ·refine .sm rfl (.an rfl (.rt ?_))
  have hr : lgAdopt ⟨δ, ω, Λ⟩ n = lgSync ⟨δ, ω, Λ⟩ := by unfold lgAdopt; dsimp only; rw [if_neg (by rw [h9]; decide), if_neg (by omega), if_pos (by rw [hsy]; exact h32)]
  rw [hr]
  try dsimp only
  rw [hsy]
  refine .rg (y := y) (w := w) (Λ.met (syncZ δ ω).2.2) (a) (c) (es) (hE.met _) ?_
  exact .vv
 refine .sk (.seq ?_)
 rw [hsy] at hI1
 have hI1 : WlI (syncZ δ ω).1 (syncZ δ ω).2.1 := hI1
 have hE1 := hE.met (syncZ δ ω).2.2
 have hac1 : (Λ.met (syncZ δ ω).2.2).acc = Λ.acc := by unfold Lg.met; split <;> rfl
 obtain ⟨δ1, hS1⟩ : ∃ q, (syncZ δ ω).1 = q := ⟨_, rfl⟩
 obtain ⟨ω1, hS2⟩ : ∃ q, (syncZ δ ω).2.1 = q := ⟨_, rfl⟩
 obtain ⟨Λ1, hS3⟩ : ∃ q, Λ.met (syncZ δ ω).2.2 = q := ⟨_, rfl⟩
 rw [hS1, hS2] at hI1
 rw [hS3] at hE1 hac1
 rw [hS1, hS2, hS3]
 refine .draw [10, 11] [[0, 1, 2, 3, 4, 5, 6, 7, 8, 9, 10], [11], [12]] mixed (by kernel_rfl) (.g0 (.k rfl (.move rfl) (.mv rfl rfl (.nf rfl rfl rfl fo_64_0 (.kv rfl (.ld rfl ag_62) (.mv rfl rfl (.nf rfl rfl rfl fo_64_4 (.kv rfl (.ld rfl ag_3) (.mv rfl rfl (.hh rfl (.c Tryz.func168 [_, _, _] (rmark_spec w x ω1 δ1 Λ1.acc n hI1 (by omega) (by omega))) ?_))))))))))
 rintro v L' ⟨rfl, rfl⟩
 refine D.ph (.g0 (.hh rfl (.c Tryz.func167 [_, _] (r9met_spec y w Λ1.base Λ1.snap _ Λ1.acc Λ1.cur Λ1.doubt (setmZ δ1 ω1 Λ1.acc n).2.2)) ?_))
 rintro v L' ⟨rfl, rfl⟩; rw [met_gc Λ1 (setmZ δ1 ω1 Λ1.acc n).2.2]
 refine D.ph (.g0 (.kv rfl (.assign rfl) (.pf (.seq (.sm rfl (.ui rfl rfl rfl (.nt (.condD rfl (fun h47 => ?_) (fun h47 => ?_)))))))))
 ·refine .region (.m rfl (.m rfl (.nf rfl fo_64_5 (.oq (.store rfl rfl rfl sz_3 ?c51 (nfz0 _ _)) ?_))))
  case c51 => simp
  rintro v L' rfl
  refine .nt (.sm rfl (.an rfl (.ret ?_)))
  have hr : lgAdopt ⟨δ, ω, Λ⟩ n = lgAdopt2 ⟨δ1, ω1, Λ1⟩ n := by unfold lgAdopt; dsimp only; rw [if_neg (by rw [h9]; decide), if_neg (by omega), if_neg (by rw [hsy]; exact fun g => g h32), hsy]; unfold metL; rw [hS1, hS2, hS3]
  rw [hr]
  have hr2 : lgAdopt2 ⟨δ1, ω1, Λ1⟩ n = (⟨(setmZ δ1 ω1 Λ1.acc n).1, (setmZ δ1 ω1 Λ1.acc n).2.1, (metL Λ1 (setmZ δ1 ω1 Λ1.acc n)).1.Λ.setCur n⟩, 0) := by unfold lgAdopt2; dsimp only; rw [if_pos (show (metL Λ1 (setmZ δ1 ω1 Λ1.acc n)).2 = 0 from h47)]
  rw [hr2]
  dsimp only
  rw [h47]
  refine .rg (y := y) (w := w) ((Λ1.met (setmZ δ1 ω1 Λ1.acc n).2.2).setCur n) (a) (c) (es) ((hE1.met _).cur n) ?_
  exact .vv
 refine .sk (.sm rfl (.an rfl (.ret ?_)))
 have hr : lgAdopt ⟨δ, ω, Λ⟩ n = lgAdopt2 ⟨δ1, ω1, Λ1⟩ n := by unfold lgAdopt; dsimp only; rw [if_neg (by rw [h9]; decide), if_neg (by omega), if_neg (by rw [hsy]; exact fun g => g h32), hsy]; unfold metL; rw [hS1, hS2, hS3]
 rw [hr]
 have hr2 : lgAdopt2 ⟨δ1, ω1, Λ1⟩ n = metL Λ1 (setmZ δ1 ω1 Λ1.acc n) := by unfold lgAdopt2; dsimp only; rw [if_neg (show ¬ (metL Λ1 (setmZ δ1 ω1 Λ1.acc n)).2 = 0 from h47)]
 rw [hr2]
 refine .rg (y := y) (w := w) (Λ1.met (setmZ δ1 ω1 Λ1.acc n).2.2) (a) (c) (es) (hE1.met _) ?_
 exact .vv
theorem r9append_spec (y w x : Nat) (δ : Dk) (ω : Wl) (Λ : Lg) (e : En) (p : HP) (he : EnX p e) (hz : I64 e.zx) (hI : WlI δ ω) (hfew : Λ.ents.length ≤ 200) : Fn Tryz.prog 107 #[vptr y, .agg (enC e).toArray] [rgR y w Λ, rlR w x ω, dsR x δ, p] fun v L => v = vint (lgAppend ⟨δ, ω, Λ⟩ e).2 ∧ L = [rgR y w (lgAppend ⟨δ, ω, Λ⟩ e).1.Λ, rlR w x (lgAppend ⟨δ, ω, Λ⟩ e).1.ω, dsR x (lgAppend ⟨δ, ω, Λ⟩ e).1.δ, p] := by
 refine Fn.intro Tryz.func107 rfl rfl fun F W => ?_
 have hle := he.l.len
 have hfi := hI.fits
 have hhl := half_le hI.size
 refine .rgOpen (y := y) (by repeat' constructor) fun a c es hE => ?_
 have hel := hE.len
 have hln := hE.lastF
 refine .sr (.oq (.box rfl) ?_)
 rintro v L' ⟨b3, rfl, rfl⟩
 refine .a rfl (.nil (.ptCast (b := b3) (l' := enC e) (by repeat' constructor) (by exact rfl) (.then_n (.seq (.sm rfl (.nf rfl fo_64_6 (.u (.ld rfl ag_4) (.nt (.condB rfl (fun h13 => ?_) (fun h13 => ?_))))))))))
 ·refine .sr (.an rfl (.rt ?_))
  have hr : lgAppend ⟨δ, ω, Λ⟩ e = (⟨δ, ω, Λ⟩, 2) := by unfold lgAppend; dsimp only; rw [if_pos h13]
  rw [hr]
  try dsimp only
  refine .rg (y := y) (w := w) (Λ) (a) (c) (es) (hE) ?_
  exact .vv
 refine .sk (.sr (.q (.loadAs (vs := enC e) rfl ag_75 (by repeat' constructor) (by simp [enC, ptC]) rfl) rfl (.cv Tryz.func171 [_] (r9fits_spec e p he) ?_)))
 refine .an rfl (.seq (.sm rfl (.u (.not rfl) (.nt (.condB rfl (fun h17 => ?_) (fun h17 => ?_))))))
 ·refine .sr (.an rfl (.rt ?_))
  have hr : lgAppend ⟨δ, ω, Λ⟩ e = (⟨δ, ω, Λ⟩, 1) := by unfold lgAppend; dsimp only; rw [if_neg (by rw [h13]; decide), if_pos (by simpa using h17)]
  rw [hr]
  try dsimp only
  refine .rg (y := y) (w := w) (Λ) (a) (c) (es) (hE) ?_
  exact .vv
 have hfit : fitsE e = true := by simpa using h17
 refine .sk (.seq (.seq (.draw [] [[0, 1, 2, 3, 4]] mixed (by kernel_rfl) (.go [ptc b3 _ _, ptc y _ _, slR 75 11 _ es.length _] (by repeat' constructor) (.kv rfl (.fieldAddr rfl fo_75_0) (.kv rfl (.ld rfl ag_3) (.mv rfl rfl (.m rfl (by kernel_rfl) (.c Tryz.func29 [_] (r9last_spec y w Λ.base Λ.snap a c Λ.acc Λ.cur Λ.doubt es hE.n)) (by repeat' constructor) ?_))))))))
 rw [hln]
 refine D.kv rfl (.int rfl rfl rfl) (.pf (.condD rfl (fun h22 => ?_) (fun h22 => ?_)))
 ·refine .sr (.an rfl (.rt ?_))
  have hr : lgAppend ⟨δ, ω, Λ⟩ e = (⟨δ, ω, Λ⟩, 81) := by unfold lgAppend; dsimp only; rw [if_neg (by rw [h13]; decide), if_neg (by rw [hfit]; decide), if_pos h22]
  rw [hr]
  try dsimp only
  refine .rg (y := y) (w := w) (Λ) (a) (c) (es) (hE) ?_
  exact .vv
 refine .sk (.sr (.q (.loadAs (vs := enC e) rfl ag_75 (by repeat' constructor) (by simp [enC, ptC]) rfl) rfl (.cv Tryz.func83 [_] (r2put_spec e p he.l) ?_)))
 refine .an rfl (.seq (.sm rfl (.nf rfl fo_64_3 (.u (.ld rfl ag_33) (.q (.slen rfl Tryz.underlying33 rfl) rfl (.ui rfl rfl rfl (.m rfl (.dec (t := 31) rfl (fun h9_31 => ?_) (fun h9_31 => ?_)))))))))
 ·refine .kDT (t := 30) rfl h9_31 (.gk (.gk (.gk (.gk (.gk (.gk (.gk (.gk (.u (.pickT rfl rfl) (.nt (.condT rfl (.sr (.an rfl (.rt ?_))))))))))))))
  have hr : lgAppend ⟨δ, ω, Λ⟩ e = (⟨δ, ω, Λ⟩, 83) := by unfold lgAppend; dsimp only; rw [if_neg (by rw [h13]; decide), if_neg (by rw [hfit]; decide), if_neg h22, if_pos (by first | exact .inl (by omega) | exact .inr (by omega))]
  rw [hr]
  try dsimp only
  refine .rg (y := y) (w := w) (Λ) (a) (c) (es) (hE) ?_
  exact .vv
 refine .kDF (t := 30) rfl h9_31 (.grun (t := 31) rfl rfl rfl (.m rfl (.grun (t := 31) rfl rfl rfl (.q (.strlen rfl Tryz.underlying9 rfl) rfl (.grun (t := 31) rfl rfl rfl (.m rfl (.grun (t := 31) rfl rfl rfl (.u (.nilp rfl) (.grun (t := 31) rfl rfl rfl (.u (.fieldAddr rfl fo_64_0) (.grun (t := 31) rfl rfl rfl (.u (.ld rfl ag_62) (.grun (t := 31) rfl rfl rfl (.cv Tryz.func172 [_] (rlroom_spec w x ω δ hI.size (by omega)) ?_))))))))))))))
 refine .grun (t := 31) rfl rfl rfl (.ui rfl rfl rfl (.u (.pickF rfl rfl) (.nt (.condD rfl (fun h40 => ?_) (fun h40 => ?_)))))
 ·refine .sr (.an rfl (.rt ?_))
  have hr : lgAppend ⟨δ, ω, Λ⟩ e = (⟨δ, ω, Λ⟩, 83) := by unfold lgAppend; dsimp only; rw [if_neg (by rw [h13]; decide), if_neg (by rw [hfit]; decide), if_neg h22, if_pos (by first | exact .inl (by omega) | exact .inr (by omega))]
  rw [hr]
  try dsimp only
  refine .rg (y := y) (w := w) (Λ) (a) (c) (es) (hE) ?_
  exact .vv
 refine .sk (.sm rfl (.m rfl (.nf rfl fo_64_0 (.u (.ld rfl ag_62) (.m rfl (.cv Tryz.func88 [_, _] (rappend_spec w x ω δ (enB e) hI (by omega)) ?_))))))
 refine .oq (.c Tryz.func167 [_, _] (r9met_spec y w Λ.base Λ.snap _ Λ.acc Λ.cur Λ.doubt (appendZ δ ω (enB e)).2.2)) ?_
 rintro v L' ⟨rfl, rfl⟩; rw [met_gc Λ (appendZ δ ω (enB e)).2.2]
 refine .an rfl (.seq (.sm rfl (.ui rfl rfl rfl (.nt (.condD rfl (fun h50 => ?_) (fun h50 => ?_))))))
 ·refine .sm rfl (.oq (.c Tryz.func173 [_] (r2get_spec (enB e) (by omega))) ?_)
  rintro v L' ⟨ge, er, hge, rfl, rfl⟩
  refine .m rfl (.u (.extract rfl rfl) (.u (.extract rfl rfl) (.oq (.allocA ze_75) ?_)))
  rintro v L' ⟨b8, rfl, rfl⟩
  refine .oq (.storeA rfl rfl ?c57 sz_75 ?c60 ?c58 (nfz0 _ _)) ?_
  case c57 => exact hge.cells
  case c60 => rfl
  case c58 => simp [enC, ptC]
  rintro v L' rfl
  refine .a rfl (.nil (.ptCast (b := b8) (l' := enC ge) (by repeat' constructor) (by exact rfl) ?_))
  obtain ⟨q9, hq9⟩ : ∃ q, getZ (enB e) = some q := Option.isSome_iff_exists.1 (by have := hfit; unfold fitsE at this; simp only [Bool.and_eq_true] at this; exact this.2)
  obtain ⟨hgz, hge2, hgk, hgg⟩ := getZ_of hge (by rcases hge with ⟨g, -⟩ | ⟨-, g, -⟩; exact g; rw [hq9] at g; cases g)
  have hzz : ge.zx = e.zx := zx_back (e := e) (e' := ge.pl) hgz hz
  refine .then_n (.draw [6, 7, 10] [[0, 1, 2, 3, 4, 5, 6, 7], [8, 9, 10]] mixed (by kernel_rfl) (.go [ptc b8 _ _, ptc y _ _] (by repeat' constructor) (.k rfl (.move rfl) (.k rfl (.move rfl) (.k rfl (.nilp rfl) (.k rfl (.fieldAddr rfl fo_64_3) (.k rfl (.ld rfl ag_33) (.kv rfl (.loadAs (vs := enC ge) rfl ag_75 (by repeat' constructor) (by simp [enC, ptC]) rfl) (.hh rfl (.buildSlice (vs := [_]) el_33 ze_75 rfl rfl rfl rfl (by first | (simp [Value.cells]; done) | (intro v hv; simp only [List.mem_cons, List.not_mem_nil, or_false] at hv; (repeat (first | (subst hv; rfl) | (rcases hv with hv | hv; (subst hv; rfl)))))) (by decide)) ?_)))))))))
  rintro v L' ⟨b14, rfl, rfl⟩
  refine D.hh rfl (.append1 rfl rfl rfl el_33 ze_75 rfl rfl ?c70 ?c71 (Nat.le_refl _) ?c72 (by decide)) ?_
  case c70 => simp only [List.map_cons, List.map_nil, List.flatten_cons, List.flatten_nil, List.append_nil]; simp only [Value.cells]; intro z hz; exact hgk.cells z (by simpa using hz)
  case c71 => rfl
  case c72 => omega
  rintro v L' ⟨⟨a14, c14, rfl⟩, rfl⟩
  refine D.ph (.g0 (.nf rfl rfl rfl fo_64_3 (.hh rfl (.store rfl rfl rfl sz_33 ?c77 (nfz0 _ _)) ?_)))
  case c77 => simp
  rintro v L' rfl
  refine D.pf (.sm rfl (.an rfl (.ret ?_)))
  have hr : lgAppend ⟨δ, ω, Λ⟩ e = (⟨(appendZ δ ω (enB e)).1, (appendZ δ ω (enB e)).2.1, (metL Λ (appendZ δ ω (enB e))).1.Λ.keep (enB e) e.zx⟩, 0) := by unfold lgAppend; dsimp only; rw [if_neg (by rw [h13]; decide), if_neg (by rw [hfit]; decide), if_neg h22, if_neg (by rintro (g | g) <;> omega), if_pos (show (metL Λ (appendZ δ ω (enB e))).2 = 0 from h50)]
  rw [hr]
  try dsimp only
  rw [h50]
  refine .bigAdd (f := entR) (l := es) (p := entR ge) ge rfl (by repeat' constructor) (.slCast (T := 75) (sz := 11) (m' := (es ++ [ge]).length) (xs' := (es ++ [ge]).flatMap enC) (by repeat' constructor) (by simp) (by rw [List.flatMap_append]; simp [Value.cells]) (.ptCast (b := y) (l' := [vptr w, vint (Λ.met (appendZ δ ω (enB e)).2.2).base, vstr (Λ.met (appendZ δ ω (enB e)).2.2).snap, .slice a14 (es ++ [ge]).length c14, vint (Λ.met (appendZ δ ω (enB e)).2.2).acc, vint (Λ.met (appendZ δ ω (enB e)).2.2).cur, .bool (Λ.met (appendZ δ ω (enB e)).2.2).doubt]) (by repeat' constructor) (by rw [List.length_append]; exact rfl) ?_))
  have hlq : (es ++ [ge]).length = es.length + 1 := by simp
  rw [← hlq]
  have hEk := (hE.met (appendZ δ ω (enB e)).2.2).keep hge2 hgk hgg (by omega)
  rw [hzz] at hEk
  refine .rg (y := y) (w := w) ((Λ.met (appendZ δ ω (enB e)).2.2).keep (enB e) e.zx) (a14) (c14) (es ++ [ge]) (hEk) ?_
  exact .vv
 refine .sk (.sm rfl (.an rfl (.ret ?_)))
 have hr : lgAppend ⟨δ, ω, Λ⟩ e = metL Λ (appendZ δ ω (enB e)) := by unfold lgAppend; dsimp only; rw [if_neg (by rw [h13]; decide), if_neg (by rw [hfit]; decide), if_neg h22, if_neg (by rintro (g | g) <;> omega), if_neg (show ¬ (metL Λ (appendZ δ ω (enB e))).2 = 0 from h50)]
 rw [hr]
 try dsimp only
 refine .rg (y := y) (w := w) (Λ.met (appendZ δ ω (enB e)).2.2) (a) (c) (es) (hE.met _) ?_
 exact .vv
theorem r9place_spec (y w : Nat) (Λ : Lg) (a : Option Addr) (c : Nat) (es : List En) (z : Int) (hE : EsOf es Λ) : Fn Tryz.prog 210 #[vptr y, vint z] [gc9 y w Λ.base Λ.snap (.slice a es.length c) Λ.acc Λ.cur Λ.doubt, es9 (.slice a es.length c) es] fun v L => ((∃ n : Nat, placeZ Λ z = some n ∧ n ≤ es.length ∧ v = .tuple #[vint n, .bool true]) ∨ (placeZ Λ z = none ∧ v = .tuple #[vint 0, .bool false])) ∧ L = [gc9 y w Λ.base Λ.snap (.slice a es.length c) Λ.acc Λ.cur Λ.doubt, es9 (.slice a es.length c) es] := by
 refine Fn.intro Tryz.func210 rfl rfl fun F W => ?_
 have hn := hE.n
 have hzl : Λ.zxs.length = es.length := by rw [← hE.z, List.length_map]
 refine .sr (.a rfl (.an rfl (.seq (.sr (.an rfl (.block (.loopK (ι := Nat) (fun q E => (6, vint q) :: E) (fun q => []) (fun q => q ≤ es.length ∧ ∀ j (hj : j < q) (hl : j < Λ.zxs.length), Λ.zxs[j] ≠ z) (fun q => es.length - q) (0) (ts := [0, 1]) (.cons rfl (.cons rfl (.nil))) (⟨Nat.zero_le _, fun j hj => by omega⟩) ⟨rfl, rfl, rfl, trivial⟩ (by repeat' constructor) ?_)))))))
 rintro i ⟨hi, hb⟩
 refine .seq (.sm rfl (.m rfl (.nf rfl fo_64_3 (.u (.ld rfl ag_33) (.q (.slen rfl Tryz.underlying33 rfl) rfl (.ui rfl rfl rfl (.nt (.condD rfl (fun h13 => ?_) (fun h13 => ?_)))))))))
 ·have hi2 : i < es.length := by omega
  have hzi : Λ.zxs[i]'(by omega) = es[i].zx := by have g := congrArg (fun l => l[i]?) hE.z; simp only [List.getElem?_map, List.getElem?_eq_getElem hi2, List.getElem?_eq_getElem (show i < Λ.zxs.length by omega), Option.map_some, Option.some.injEq] at g; exact g.symm
  refine .slShape (T := 75) (v := .slice a es.length c) (by repeat' constructor) (by omega) fun be c1 e m _ => ?_
  simp only [Value.slice.injEq, true_and] at e
  obtain ⟨rfl, rfl⟩ := e
  refine .sk (.seq (.block (.sm rfl (.nf rfl fo_64_3 (.u (.ld rfl ag_33) (.m rfl (.q (.indexAddr rfl rfl el_33 (by omega)) rfl (.u (.fieldAddr rfl fo_75_0) (.q (.loadRd (sz := 11) (j := i * 11 + 0) (p := es9 (.slice (some ⟨be, 0, none⟩) es.length c) es) (v := vint es[i].zx) rfl ag_3 (by repeat' constructor) (fun h hp => slR_rd hp) (by simp) ((en_cell (k := 0) hi2 (by decide)).trans rfl)) rfl (.m rfl (.ui rfl rfl rfl (.nt (.condD rfl (fun h25 => ?_) (fun h25 => ?_))))))))))))))
  ·refine .sm rfl (.q (.add rfl rfl (by omega)) rfl (.a rfl (.an rfl (.ret (.blk_r (.then_r (.then_r (.blk_r (.then_r ?_)))))))))
   exact .dn rfl rfl ⟨.inl ⟨i + 1, by unfold placeZ; rw [if_pos (by rw [← h25, ← hzi]; exact List.getElem_mem _), idx_at (by omega) (by rw [hzi]; exact h25) hb], by omega, rfl⟩, rfl⟩
  refine .skip (.blk_n (.then_n (.region (.m rfl (.q (.add rfl rfl (by omega)) rfl (.an rfl ?_))))))
  exact .rk (i + 1) (⟨by omega, fun j hj hl => by rcases Nat.lt_or_ge j i with g | g; exact hb j g hl; obtain rfl : j = i := (by omega); rw [hzi]; exact h25⟩) (by omega) ⟨rfl, rfl, rfl, trivial⟩
 have hno : z ∉ Λ.zxs := fun g => by obtain ⟨j, hj, hz⟩ := List.mem_iff_getElem.1 g; exact hb j (by omega) hj hz
 refine .exit (.then_e (.then_e (.blk_e (.then_n (.seq (.draw [] [[0, 1, 2, 3, 4, 5, 6, 7]] mixed (by kernel_rfl) (.g0 ?_)))))))
 by_cases hzb : z = Λ.base
 ·refine D.mv rfl rfl (.mv rfl rfl (.nf rfl rfl rfl fo_64_1 (.kv rfl (.ld rfl ag_3) (.kv rfl (.as (v' := .bool true) (by exact congrArg Value.bool (decide_eq_true hzb)) (.int rfl rfl rfl)) (.kv rfl (.assign rfl) (.kv rfl (.assign rfl) (.pf (.ret ?_))))))))
  exact .dn rfl rfl ⟨.inl ⟨0, by unfold placeZ; rw [if_neg hno, if_pos hzb], Nat.zero_le _, rfl⟩, rfl⟩
 refine D.mv rfl rfl (.mv rfl rfl (.nf rfl rfl rfl fo_64_1 (.kv rfl (.ld rfl ag_3) (.kv rfl (.as (v' := .bool false) (by exact congrArg Value.bool (decide_eq_false hzb)) (.int rfl rfl rfl)) (.kv rfl (.assign rfl) (.kv rfl (.assign rfl) (.pf (.ret ?_))))))))
 exact .dn rfl rfl ⟨.inr ⟨by unfold placeZ; rw [if_neg hno, if_neg hzb], rfl⟩, rfl⟩
theorem laid_le {l : List Bs} (h : ∀ s ∈ l, s.length ≤ 4000) : (laidZ l).length ≤ l.length * 4006 := by
 induction l with
 | nil => simp [laidZ]
 | cons x l ih =>
  have e : laidZ (x :: l) = recZ x ++ laidZ l := by simp [laidZ]
  have := h x (List.mem_cons_self ..)
  have := ih (fun s hs => h s (List.mem_cons_of_mem _ hs))
  rw [e, List.length_append, recZ_len, List.length_cons]; omega
theorem renew_ok {δ : Dk} {ω : Wl} {l : List Bs} (h : (renewZ δ ω l).2.2 = 0) : (renewZ δ ω l).2.1.recs = l ∧ (renewZ δ ω l).2.1.a = ω.a ∧ (renewZ δ ω l).2.1.b = ω.b ∧ ∀ s ∈ l, s.length ≤ 4000 := by
 unfold renewZ at h ⊢
 split
 ·rename_i g; rw [if_pos g] at h; exact absurd h (by show ¬ (34 : Int) = 0; decide)
 rename_i g1
 rw [if_neg g1] at h
 split
 ·rename_i g; rw [if_pos g] at h; exact absurd h (by show ¬ (33 : Int) = 0; decide)
 rename_i g2
 rw [if_neg g2] at h
 have h4 : ∀ s ∈ l, s.length ≤ 4000 := fun s hs => by
  have := List.any_eq_false.1 (by simpa using g2 : (l.any fun s => decide (s.length > 4000)) = false) s hs
  simpa using this
 split
 ·rename_i g; rw [if_pos g] at h; exact absurd h (by show ¬ (30 : Int) = 0; decide)
 rename_i g3
 rw [if_neg g3] at h
 split
 ·rename_i g; rw [if_pos g] at h; exact absurd h (by show ¬ (30 : Int) = 0; decide)
 rename_i g4
 rw [if_neg g4] at h
 split
 ·rename_i g; rw [if_pos g, (dbt_err _).1] at h; exact absurd h g
 rename_i g5
 rw [if_neg g5, (dbt_err _).1] at h
 rw [sealX_nil h]
 exact ⟨rfl, rfl, rfl, h4⟩
theorem metE_0 {e : Int} (h : metE e = 0) : e = 0 := by unfold metE at h; split at h <;> omega
theorem renew_new {δ : Dk} {ω : Wl} {Λ : Lg} {z : Int} {snap : Bs} {es : List Bs} {zs : List Int} (hep : 0 ≤ Λ.cur ∧ Λ.cur ≤ Λ.acc ∧ Λ.acc ≤ 1073741824) (ha : ω.a = Λ.acc) (hb : ω.b = Λ.cur) (hz : 0 ≤ z ∧ z ≤ 9223372036854775807) (hs : snap.length ≤ 65536) (hn : es.length ≤ 200) (hr : RowsI z es zs)
  (h : (renewZ δ ω (headL z snap ++ es)).2.2 = 0) : LgW ⟨Λ.acc, Λ.cur, z, snap, es, zs, false⟩ ∧ openLZ (renewZ δ ω (headL z snap ++ es)).2.1 = some ⟨Λ.acc, Λ.cur, z, snap, es, zs, false⟩ := by
 obtain ⟨r1, r2, r3, r4⟩ := renew_ok h
 have hW : LgW ⟨Λ.acc, Λ.cur, z, snap, es, zs, false⟩ := ⟨hn, fun s hs => r4 s (List.mem_append.2 (.inr hs)), hz, hs, hr, hep⟩
 refine ⟨hW, ?_⟩
 unfold openLZ
 rw [r1, r2, r3, ha, hb, if_neg (by omega)]
 exact lparse_back hW rfl
theorem rises_no {z : Int} {zs : List Int} {i : Nat} (hi : i < zs.length) {last : Int} (hl : last = if i = 0 then z else zs.getD (i - 1) 0) (h : zs.getD i 0 ≤ last) : ¬ Rises z zs := by
 intro hR
 obtain ⟨q1, q2⟩ := hR i hi
 by_cases g : i = 0
 ·rw [if_pos g] at hl; omega
 ·rw [if_neg g] at hl
  have := q2 (by omega)
  omega
theorem rrenew2_spec (y x : Nat) (ω : Wl) (δ : Dk) (va : Value) (l : List Bs) (p : HP) (hp : ∀ h : Hp, p h → rdS 1 h va l.length (strs l)) (hI : WlI δ ω) (hab : (0 ≤ ω.a ∧ ω.a ≤ 9223372036854775807) ∧ (0 ≤ ω.b ∧ ω.b ≤ 9223372036854775807)) (hln : l.length ≤ 1000000) : Fn Tryz.prog 208 #[vptr y, va] [rlR y x ω, dsR x δ, p] fun v L => v = vint (renewZ δ ω l).2.2 ∧ L = [rlR y x (renewZ δ ω l).2.1, dsR x (renewZ δ ω l).1, p] := by
 refine Fn.intro Tryz.func208 rfl rfl fun F W => ?_
 refine .rlOpen (ω := ω) (by repeat' constructor) fun vr => (.slAny (v := vr) (by repeat' constructor) fun arr crr e hsl => ?_)
 subst e
 refine .slAddr (by repeat' constructor) fun hcap hra => ?_
 have hfi := hI.fits
 have hn := hI.size
 have hhl := half_le hI.size
 have hlm := laidZ_many ω.recs
 have hac := hI.acts
 have hct := hI.count
 have har := hI.area
 have hsy := hI.synced
 refine .rdAny (p := p) hp (by repeat' constructor) fun aa ca e _ => ?_
 subst e
 have hlml := laidZ_many l
 refine .sr (.an rfl (.seq (.sm rfl (.nf rfl fo_185_7 (.u (.ld rfl ag_4) (.nt (.condB rfl (fun h9 => ?_) (fun h9 => ?_))))))))
 ·refine .sr (.an rfl (.rt ?_))
  have hr : renewZ δ ω l = (δ, ω, 34) := by unfold renewZ; rw [if_pos h9]
  rw [hr]
  refine .rl (y := y) (x := x) (ω := ω) (v := (.slice arr ω.recs.length crr)) ?_
  exact .vv
 refine .sk (.seq (.sr (.an rfl (.block (.loopK (ι := Nat) (fun q E => (5, vint q) :: E) (fun q => []) (fun q => q ≤ l.length ∧ ∀ j (hj : j < q) (hl : j < l.length), l[j].length ≤ 4000) (fun q => l.length - q) (0) (ts := [0, 1]) (.cons rfl (.cons rfl (.nil))) (⟨Nat.zero_le _, fun j hj => by omega⟩) ⟨rfl, rfl, rfl, trivial⟩ (by repeat' constructor) ?_)))))
 rintro i ⟨hi, hbl⟩
 refine .seq (.sm rfl (.m rfl (.q (.slen rfl Tryz.underlying39 rfl) rfl (.ui rfl rfl rfl (.nt (.condD rfl (fun h13 => ?_) (fun h13 => ?_)))))))
 ·have hi2 : i < l.length := by omega
  refine .rdShape (p := p) hp (by repeat' constructor) (by omega) fun ba oa e => ?_
  subst e
  refine .sk (.seq (.block (.sm rfl (.m rfl (.q (.indexAddr rfl rfl el_39 (by omega)) rfl (.q (.loadRd (sz := 1) (j := i) (p := p) (v := vstr l[i]) rfl ag_9 (by repeat' constructor) hp (by simp) (by simp [hi2])) rfl (.q (.strlen rfl Tryz.underlying9 rfl) rfl (.ui rfl rfl rfl (.nt (.condD rfl (fun h21 => ?_) (fun h21 => ?_)))))))))))
  ·refine .sr (.an rfl (.ret (.blk_r (.then_r (.then_r (.blk_r (.then_r ?_)))))))
   have hr : renewZ δ ω l = (δ, ω, 33) := by unfold renewZ; rw [if_neg (by rw [h9]; decide), if_pos (List.any_eq_true.2 ⟨l[i], List.getElem_mem hi2, by simpa using (by omega : l[i].length > 4000)⟩)]
   rw [hr]
   refine .rl (y := y) (x := x) (ω := ω) (v := (.slice arr ω.recs.length crr)) ?_
   exact .vv
  refine .skip (.blk_n (.then_n (.region (.m rfl (.q (.add rfl rfl (by omega)) rfl (.an rfl ?_))))))
  exact .rk (i + 1) (⟨by omega, fun j hj hl => by rcases Nat.lt_or_ge j i with g | g; exact hbl j g hl; obtain rfl : j = i := (by omega); omega⟩) (by omega) ⟨rfl, rfl, rfl, trivial⟩
 have hany : (l.any fun s => decide (s.length > 4000)) = false := by rw [List.any_eq_false]; intro s hs; obtain ⟨j, hj, rfl⟩ := List.mem_iff_getElem.1 hs; have := hbl j (by omega) hj; simpa using this
 have hll9 : (laidZ l).length ≤ l.length * 4006 := laid_le (fun s hs => by obtain ⟨j, hj, rfl⟩ := List.mem_iff_getElem.1 hs; exact hbl j (by omega) hj)
 refine .exit (.then_e (.then_e (.blk_e (.then_n (.seq (.seq (.draw [] [[0, 1, 2, 3, 4, 5, 6, 7, 8, 9, 10, 11, 12, 13, 14, 15, 16, 17, 18, 19, 20, 21, 22, 23, 24, 25, 26]] mixed (by kernel_rfl) (.go [lc y x ((.slice arr ω.recs.length crr)) (ω.synced) (ω.area) (ω.count) (ω.a) (ω.b) (ω.doubt), dsR x δ, p] (by repeat' constructor) (.mv rfl rfl (.kv rfl (.slen rfl Tryz.underlying39 rfl) (.mv rfl rfl (.nf rfl rfl rfl fo_185_0 (.kv rfl (.ld rfl ag_26) (.m rfl (by kernel_rfl) (.c Tryz.func144 [_] (dshalf_spec x δ hn)) (by repeat' constructor) ?_))))))))))))))
 refine D.kv rfl (.mul rfl rfl (by omega)) (.kv rfl (.int rfl rfl rfl) (.mv rfl rfl (.dec (t := 31) rfl (fun h8_31 => ?_) (fun h8_31 => ?_))))
 ·refine D.kDT (t := 30) rfl h8_31 (.gz rfl (.gz rfl (.gz rfl (.gz rfl (.gz rfl (.gz rfl (.gz rfl (.gz rfl (.gz rfl (.kv rfl (.pickT rfl rfl) (.mv rfl rfl (.gz rfl (.gz rfl (.gz rfl (.gz rfl (.gz rfl (.kv rfl (.pickT rfl rfl) (.pf (.condT rfl (.sr (.an rfl (.rt ?_))))))))))))))))))))))
  have hr : renewZ δ ω l = (δ, ω, 30) := by unfold renewZ; rw [if_neg (by rw [h9]; decide), if_neg (by rw [hany]; decide)]; split; rfl; rename_i g1; rw [if_pos (by rintro g2; apply g1; have := laidZ_six l; omega)]
  rw [hr]
  refine .rl (y := y) (x := x) (ω := ω) (v := (.slice arr ω.recs.length crr)) ?_
  exact .vv
 refine D.kDF (t := 30) rfl h8_31 (.gv rfl (.move rfl) (.gm (t := 31) rfl rfl rfl (by kernel_rfl) (.call Tryz.func143 rfl rfl (vs := [_]) rfl (rsize_spec _ l p hp (by omega))) (by repeat' constructor) ?_))
 refine D.gv rfl (.move rfl) (.gv rfl (.nilp rfl) (.gv rfl (.fieldAddr rfl fo_185_0) (.gv rfl (.ld rfl ag_26) (.gm (t := 31) rfl rfl rfl (by kernel_rfl) (.c Tryz.func144 [_] (dshalf_spec x δ hn)) (by repeat' constructor) ?_))))
 refine D.gv rfl (.mul rfl rfl (by omega)) (.gv rfl (.int rfl rfl rfl) (.kv rfl (.pickF rfl rfl) (.mv rfl rfl (.dec (t := 42) rfl (fun h8_42 => ?_) (fun h8_42 => ?_)))))
 ·refine D.kDT (t := 40) rfl h8_42 (.kDT (t := 41) rfl h8_42 (.gz rfl (.gz rfl (.gz rfl (.gz rfl (.gz rfl (.kv rfl (.pickT rfl rfl) (.pf (.condT rfl (.sr (.an rfl (.rt ?_))))))))))))
  have hr : renewZ δ ω l = (δ, ω, 30) := by unfold renewZ; rw [if_neg (by rw [h9]; decide), if_neg (by rw [hany]; decide)]; split; rfl; rename_i g1; rw [if_pos (by rintro g2; apply g1; have := laidZ_six l; omega)]
  rw [hr]
  refine .rl (y := y) (x := x) (ω := ω) (v := (.slice arr ω.recs.length crr)) ?_
  exact .vv
 refine D.kDF (t := 40) rfl h8_42 (.kDF (t := 41) rfl h8_42 (.gv rfl (.move rfl) (.gv rfl (.nilp rfl) (.gv rfl (.fieldAddr rfl fo_185_4) (.gv rfl (.ld rfl ag_3) (.gv rfl (.int rfl rfl rfl) (.kv rfl (.pickF rfl rfl) (.pf (.condD rfl (fun h48 => ?_) (fun h48 => ?_))))))))))
 ·refine .sr (.an rfl (.rt ?_))
  have hr : renewZ δ ω l = (δ, ω, 30) := by unfold renewZ; rw [if_neg (by rw [h9]; decide), if_neg (by rw [hany]; decide)]; split; rfl; rename_i g1; rw [if_pos (by rintro g2; apply g1; have := laidZ_six l; omega)]
  rw [hr]
  refine .rl (y := y) (x := x) (ω := ω) (v := (.slice arr ω.recs.length crr)) ?_
  exact .vv
 refine .sk (.seq (.seq (.draw [11] [[0, 1, 2, 3, 4, 5, 6, 7, 8, 9, 10, 11], [12]] mixed (by kernel_rfl) (.go [lc y x ((.slice arr ω.recs.length crr)) (ω.synced) (ω.area) (ω.count) (ω.a) (ω.b) (ω.doubt), p] (by repeat' constructor) (.mv rfl rfl (.nf rfl rfl rfl fo_185_0 (.kv rfl (.ld rfl ag_26) (.mv rfl rfl (.nf rfl rfl rfl fo_185_3 (.kv rfl (.ld rfl ag_3) (.kv rfl (.sub rfl rfl (by omega)) (.mv rfl rfl (.m rfl (by kernel_rfl) (.call Tryz.func146 rfl rfl (vs := [_]) rfl (rall_spec _ l p hp (by omega))) (by repeat' constructor) ?_)))))))))))))
 refine D.hh rfl (.c Tryz.func145 [_, _, _, _] (rlays_spec x (1 - ω.area) (laidZ l) 0 δ hn (by omega) (by omega) (by omega) (by omega))) ?_
 rintro v L' ⟨e1, he1, rfl, rfl⟩
 refine D.ph (.g0 (.kv rfl (.int rfl rfl rfl) (.pf (.condN rfl (fun h61 => ?_) (fun h61 => ?_)))))
 ·refine .sm rfl (.cv Tryz.func148 [_] (rdead_spec y x _ _ _ _ _ _ _) ?_)
  refine .an rfl (.rt ?_)
  have hl2 : ¬ (layZ δ (1 - ω.area) (laidZ l) 0).2 = 0 := fun g => h61 (he1.2 g)
  have hr : renewZ δ ω l = ((layZ δ (1 - ω.area) (laidZ l) 0).1, { ω with doubt := true }, 2) := by unfold renewZ; rw [if_neg (by rw [h9]; decide), if_neg (by rw [hany]; decide), if_neg (by have := laidZ_six l; omega), if_neg (by omega), if_pos hl2, layX_two hl2]
  rw [hr]
  refine .rl (y := y) (x := x) (ω := { ω with doubt := true }) (v := (.slice arr ω.recs.length crr)) ?_
  exact .vv
 refine .sk (.seq ?_)
 have hl2 : (layZ δ (1 - ω.area) (laidZ l) 0).2 = 0 := he1.1 h61
 have hlk := layZ_keeps δ (1 - ω.area) (laidZ l) 0
 refine .region (.m rfl (.m rfl (.nf rfl fo_185_3 (.u (.ld rfl ag_3) (.q (.sub rfl rfl (by omega)) rfl (.m rfl (.oq (.call Tryz.func150 rfl rfl (vs := [_, _, _]) rfl (rseals_spec y x (.slice arr ω.recs.length crr) ω (1 - ω.area) _ l (layZ δ (1 - ω.area) (laidZ l) 0).1 p hp (by omega) ⟨hct.1, by omega⟩ (by omega) hab.1 hab.2 (by have := hlk.2; omega))) ?_)))))))
 rintro v L' (⟨hs, rfl, rfl⟩ | ⟨hs, rfl, a9, c9, rfl⟩)
 ·refine .an rfl (.ret ?_)
  have hr : renewZ δ ω l = ((sealZ (layZ δ (1 - ω.area) (laidZ l) 0).1 ω (1 - ω.area) l).1, { ω with doubt := true }, 2) := by unfold renewZ; rw [if_neg (by rw [h9]; decide), if_neg (by rw [hany]; decide), if_neg (by have := laidZ_six l; omega), if_neg (by omega), if_neg (fun g => g hl2), sealX_two hs]
  rw [hr]
  refine .rl (y := y) (x := x) (ω := { ω with doubt := true }) (v := (.slice arr ω.recs.length crr)) ?_
  exact .vv
 refine .an rfl (.ret ?_)
 have hr : renewZ δ ω l = ((sealZ (layZ δ (1 - ω.area) (laidZ l) 0).1 ω (1 - ω.area) l).1, { ω with recs := l, synced := l.length, area := 1 - ω.area, count := ω.count + 1 }, 0) := by unfold renewZ; rw [if_neg (by rw [h9]; decide), if_neg (by rw [hany]; decide), if_neg (by have := laidZ_six l; omega), if_neg (by omega), if_neg (fun g => g hl2), sealX_nil hs]
 rw [hr]
 refine .rl (y := y) (x := x) (ω := { ω with recs := l, synced := l.length, area := 1 - ω.area, count := ω.count + 1 }) (v := .slice a9 l.length c9) ?_
 exact .vv
theorem big_up {α : Type} {f : α → HP} : ∀ {l : List α} {h h' : Hp}, bigR f l h → (∀ b o, h b = some o → h' b = some o) → bigR f l h'
 | [], _, h', _, _ => big_nil h'
 | x :: l, h, h', hp, hle => by
  obtain ⟨h1, h2, a, b, c, q1, q2⟩ := big_cons hp
  exact big_of_cons ⟨h1, h2, a, fun k o hk => hle k o (b k o hk), fun k o hk => hle k o (c k o hk), q1, q2⟩
theorem fm_tk (n : Nat) {es : List En} (hn : n ≤ es.length) : (es.flatMap enC).take (n * 11) = (es.take n).flatMap enC := by
 have e1 : es.flatMap enC = (es.take n).flatMap enC ++ (es.drop n).flatMap enC := by rw [← List.flatMap_append, List.take_append_drop]
 have e2 : ((es.take n).flatMap enC).length = n * 11 := by rw [flatMap_len (sz := 11) (fun _ _ => rfl), List.length_take]; congr 1; omega
 rw [e1, ← e2, List.take_left]
theorem slR_to11 {T : TypeId} {a : Option Addr} {n c k : Nat} {es : List En} (hk : k ≤ n) (hn : n = es.length) : ∀ h : Hp, slR T 11 (.slice a n c) n (es.flatMap enC) h → rdS 11 h (.slice a k c) k ((es.flatMap enC).take (k * 11)) := by
 intro h hp
 rcases slR_rd hp with ⟨h1, h2, aa, cc, h3⟩ | ⟨b', o', cap, l', T', fr', h1, h2, h3, h4, h5⟩
 ·obtain rfl : k = 0 := by omega
  simp only [Value.slice.injEq] at h3
  refine .inl ⟨rfl, by simp, a, c, rfl⟩
 ·simp only [Value.slice.injEq] at h1
  obtain ⟨rfl, -, rfl⟩ := h1
  refine .inr ⟨b', o', c, l', T', fr', rfl, h2, ?_, ?_, by omega⟩
  ·rw [← h3, List.take_take]; congr 1
   have : k * 11 ≤ n * 11 := Nat.mul_le_mul_right _ hk
   omega
  ·have : k * 11 ≤ n * 11 := Nat.mul_le_mul_right _ hk
   omega
theorem r9cut_spec (y w x : Nat) (δ : Dk) (ω : Wl) (Λ : Lg) (z : Int) (hI : WlI δ ω) (hab : (0 ≤ ω.a ∧ ω.a ≤ 9223372036854775807) ∧ (0 ≤ ω.b ∧ ω.b ≤ 9223372036854775807)) (hb : I64 Λ.base) (hs : Λ.snap.length ≤ 65536) (hfew : Λ.ents.length ≤ 200) : Fn Tryz.prog 170 #[vptr y, vint z] [rgR y w Λ, rlR w x ω, dsR x δ] fun v L => v = vint (lgCut ⟨δ, ω, Λ⟩ z).2 ∧ L = [rgR y w (lgCut ⟨δ, ω, Λ⟩ z).1.Λ, rlR w x (lgCut ⟨δ, ω, Λ⟩ z).1.ω, dsR x (lgCut ⟨δ, ω, Λ⟩ z).1.δ] := by
 refine Fn.intro Tryz.func170 rfl rfl fun F W => ?_
 refine .rgOpen (y := y) (by repeat' constructor) fun a c es hE => ?_
 have hel := hE.len
 have hh0 := headL_len Λ.base Λ.snap hs
 refine .sr (.an rfl (.seq (.sm rfl (.nf rfl fo_64_6 (.u (.ld rfl ag_4) (.nt (.condB rfl (fun h11 => ?_) (fun h11 => ?_))))))))
 ·refine .sr (.an rfl (.rt ?_))
  have hr : lgCut ⟨δ, ω, Λ⟩ z = (⟨δ, ω, Λ⟩, 2) := by unfold lgCut; dsimp only; rw [if_pos h11]
  rw [hr]
  try dsimp only
  refine .rg (y := y) (w := w) (Λ) (a) (c) (es) (hE) ?_
  exact .vv
 refine .sk (.sm rfl (.m rfl (.oq (.c Tryz.func210 [_, _] (r9place_spec y w Λ a c es z hE)) ?_)))
 rintro v L' ⟨⟨n, hpl, hne, rfl⟩ | ⟨hpl, rfl⟩, rfl⟩
 ·refine .m rfl (.u (.extract rfl rfl) (.u (.extract rfl rfl) (.a rfl (.an rfl (.seq (.sm rfl (.q (.as (v' := .bool false) (by rfl) (.not rfl)) rfl (.nt (.condF rfl (.sk (.seq (.draw [13, 17, 18] [[0, 1, 2, 3, 4, 5, 6, 7, 8, 9, 10, 11, 12, 15, 13, 14, 16, 17], [18], [19]] mixed (by kernel_rfl) (.go [ptc y _ _] (by repeat' constructor) (.k rfl (.move rfl) (.k rfl (.move rfl) (.k rfl (.nilp rfl) (.k rfl (.fieldAddr rfl fo_64_0) (.k rfl (.ld rfl ag_62) (.mv rfl rfl (.nf rfl rfl rfl fo_64_1 (.kv rfl (.ld rfl ag_3) (.mv rfl rfl (.nf rfl rfl rfl fo_64_2 (.kv rfl (.ld rfl ag_9) (.k rfl (.move rfl) (.hh rfl (.c Tryz.func89 [_, _] (r9head_spec Λ.base Λ.snap hb (by omega))) ?_))))))))))))))))))))))))))
  rintro v L' ⟨bh, ch, rfl, rfl⟩
  refine D.kv rfl (.slen rfl Tryz.underlying39 rfl) (.kv rfl (.as (v' := vint (((headL Λ.base Λ.snap).length + n : Nat) : Int)) (by simp) (.add rfl rfl (by omega))) (.hh rfl (.c Tryz.func211 [_, _] (rcut_spec w x ω δ (((headL Λ.base Λ.snap).length + n : Nat) : Int) hI hab)) ?_))
  rintro v L' ⟨rfl, rfl⟩
  refine D.ph (.g0 (.hh rfl (.c Tryz.func167 [_, _] (r9met_spec y w Λ.base Λ.snap _ Λ.acc Λ.cur Λ.doubt (cutZ δ ω (((headL Λ.base Λ.snap).length + n : Nat) : Int)).2.2)) ?_))
  rintro v L' ⟨rfl, rfl⟩; rw [met_gc Λ (cutZ δ ω (((headL Λ.base Λ.snap).length + n : Nat) : Int)).2.2]
  refine D.ph (.g0 (.kv rfl (.assign rfl) (.pf (.seq (.sm rfl (.ui rfl rfl rfl (.nt (.condD rfl (fun h40 => ?_) (fun h40 => ?_)))))))))
  ·refine .slAddr (T := 75) (sz := 11) (a := a) (c := c) (by repeat' constructor) fun hcap hra => (.add (slR_nil 75 11) (.region (.m rfl (.m rfl (.nf rfl fo_64_3 (.u (.ld rfl ag_33) (.m rfl (.q (.to (v' := .slice a n c) (.slTo (j := (n : Int)) rfl el_33 rfl (by omega) hra) (by rw [Int.toNat_natCast])) rfl (.oq (.append (n := 0) (m := n) (ys := (es.flatMap enC).take (n * 11)) (p := es9 (.slice a es.length c) es) rfl rfl rfl el_33 (.inl ⟨_, Tryz.underlying33⟩) ze_75 rfl rfl ?hc42 ?hr43 ?hb44 (by decide)) ?_)))))))))
   case hc42 => intro z hz; obtain ⟨e9, he9, hz9⟩ := List.mem_flatMap.1 (List.mem_of_mem_take hz); exact (hE.k e9 he9).1.cells z hz9
   case hr43 => exact slR_to11 hne rfl
   case hb44 => omega
   rintro v L' ⟨⟨a8, c8, rfl⟩, rfl⟩; rw [Nat.zero_add, List.nil_append]
   refine .nf rfl fo_64_3 (.oq (.store rfl rfl rfl sz_33 ?c49 (nfz0 _ _)) ?_)
   case c49 => simp
   rintro v L' rfl
   refine .nt (.sm rfl (.an rfl (.ret ?_)))
   have hr : lgCut ⟨δ, ω, Λ⟩ z = lgCut2 ⟨δ, ω, Λ⟩ n := by unfold lgCut; dsimp only; rw [if_neg (by rw [h11]; decide), hpl]
   rw [hr]
   have hr2 : lgCut2 ⟨δ, ω, Λ⟩ n = (⟨(cutZ δ ω (((headL Λ.base Λ.snap).length + n : Nat) : Int)).1, (cutZ δ ω (((headL Λ.base Λ.snap).length + n : Nat) : Int)).2.1, ⟨Λ.acc, Λ.cur, Λ.base, Λ.snap, Λ.ents.take n, Λ.zxs.take n, Λ.doubt⟩⟩, 0) := by unfold lgCut2; dsimp only; rw [if_pos (show (metL Λ (cutZ δ ω (((headL Λ.base Λ.snap).length + n : Nat) : Int))).2 = 0 from h40)]
   rw [hr2]
   rw [h40]
   have he0 := metE_0 h40
   have hme : Λ.met (cutZ δ ω (((headL Λ.base Λ.snap).length + n : Nat) : Int)).2.2 = Λ := by unfold Lg.met; rw [if_neg (by rw [he0]; decide)]
   rw [hme]
   refine .fold (p := bigR entR (es.take n)) (q := [bigR entR es]) (by repeat' constructor) (fun _ hp => by obtain ⟨g1, g2, g3, le1, le2, q1, q2⟩ := hp; exact big_up (big_tk n q1) le1) ?_
   have htl : (es.take n).length = n := by rw [List.length_take]; omega
   refine .slCast (T := 75) (sz := 11) (m' := n) (xs' := (es.take n).flatMap enC) (by repeat' constructor) rfl (by exact fm_tk n hne) (.rgFold (y := y) (w := w) (⟨Λ.acc, Λ.cur, Λ.base, Λ.snap, Λ.ents.take n, Λ.zxs.take n, Λ.doubt⟩) (a8) (c8) (es.take n) (by repeat' constructor) (hE.cut n) (by rw [htl]; rfl) (by rw [htl]) (by rw [htl]) rfl ?_)
   exact .vv
  refine .sk (.sm rfl (.an rfl (.ret ?_)))
  have hr : lgCut ⟨δ, ω, Λ⟩ z = lgCut2 ⟨δ, ω, Λ⟩ n := by unfold lgCut; dsimp only; rw [if_neg (by rw [h11]; decide), hpl]
  rw [hr]
  have hr2 : lgCut2 ⟨δ, ω, Λ⟩ n = metL Λ (cutZ δ ω (((headL Λ.base Λ.snap).length + n : Nat) : Int)) := by unfold lgCut2; dsimp only; rw [if_neg (show ¬ (metL Λ (cutZ δ ω (((headL Λ.base Λ.snap).length + n : Nat) : Int))).2 = 0 from h40)]
  rw [hr2]
  refine .rg (y := y) (w := w) (Λ.met (cutZ δ ω (((headL Λ.base Λ.snap).length + n : Nat) : Int)).2.2) (a) (c) (es) (hE.met _) ?_
  exact .vv
 refine .m rfl (.u (.extract rfl rfl) (.u (.extract rfl rfl) (.a rfl (.an rfl (.seq (.sm rfl (.q (.as (v' := .bool true) (by rfl) (.not rfl)) rfl (.nt (.condT rfl (.sr (.an rfl (.rt ?_))))))))))))
 have hr : lgCut ⟨δ, ω, Λ⟩ z = (⟨δ, ω, Λ⟩, 81) := by unfold lgCut; dsimp only; rw [if_neg (by rw [h11]; decide), hpl]
 rw [hr]
 try dsimp only
 refine .rg (y := y) (w := w) (Λ) (a) (c) (es) (hE) ?_
 exact .vv
theorem met_dbt (Λ : Lg) (e : Int) : (if e = 2 then true else Λ.doubt) = (Λ.met e).doubt := by
 unfold Lg.met
 by_cases h : e = 2
 ·rw [if_pos h, if_pos h]
 ·rw [if_neg h, if_neg h]
theorem r9readS_spec (w x : Nat) (ω : Wl) {Λ : Lg} (hl : ω.recs.length ≤ 1048576) (hs : ∀ s ∈ ω.recs, s.length ≤ 1073741824) (ha : I64 ω.a) (hb : I64 ω.b) (ho : openLZ ω = some Λ) : Fn Tryz.prog 209 #[vptr w] [rlR w x ω] fun v L => ∃ y, v = .tuple #[vptr y, .bool true] ∧ L = [rlR w x ω, rgR y w Λ] :=
 (r9read_spec w x ω hl hs ha hb).mono (by
  rintro v L (⟨h, -⟩ | ⟨Λ9, y, h, hv, hL⟩)
  ·rw [ho] at h; cases h
  ·rw [ho] at h; cases h; exact ⟨y, hv, hL⟩)
theorem install_no {δ : Dk} {ω : Wl} {Λ : Lg} {z : Int} {snap : Bs} {l : List En} (h : (lgInstall ⟨δ, ω, Λ⟩ z snap l).2 ≠ 0) :
  (lgInstall ⟨δ, ω, Λ⟩ z snap l).1.Λ.base = Λ.base ∧ (lgInstall ⟨δ, ω, Λ⟩ z snap l).1.Λ.snap = Λ.snap ∧ (lgInstall ⟨δ, ω, Λ⟩ z snap l).1.Λ.acc = Λ.acc ∧ (lgInstall ⟨δ, ω, Λ⟩ z snap l).1.Λ.cur = Λ.cur ∧ (lgInstall ⟨δ, ω, Λ⟩ z snap l).1.Λ.ents = Λ.ents ∧ (lgInstall ⟨δ, ω, Λ⟩ z snap l).1.Λ.zxs = Λ.zxs := by
 have hm : ∀ e, (Λ.met e).base = Λ.base ∧ (Λ.met e).snap = Λ.snap ∧ (Λ.met e).acc = Λ.acc ∧ (Λ.met e).cur = Λ.cur ∧ (Λ.met e).ents = Λ.ents ∧ (Λ.met e).zxs = Λ.zxs := fun e => ⟨met_base .., met_snap .., met_acc .., met_cur .., met_ents .., met_zxs ..⟩
 unfold lgInstall at h ⊢
 split
 ·exact ⟨rfl, rfl, rfl, rfl, rfl, rfl⟩
 rename_i g1; rw [if_neg g1] at h
 split
 ·exact ⟨rfl, rfl, rfl, rfl, rfl, rfl⟩
 rename_i g2; rw [if_neg g2] at h
 split
 ·exact ⟨rfl, rfl, rfl, rfl, rfl, rfl⟩
 rename_i g3; rw [if_neg g3] at h
 split
 ·exact ⟨rfl, rfl, rfl, rfl, rfl, rfl⟩
 rename_i g4; rw [if_neg g4] at h
 unfold lgRenew at h ⊢
 split
 ·exact ⟨rfl, rfl, rfl, rfl, rfl, rfl⟩
 rename_i g5; rw [if_neg g5] at h
 split
 ·rename_i g6; rw [if_pos g6] at h; exact absurd rfl h
 ·exact hm _
theorem rise_go {z last : Int} {zs : List Int} {i : Nat} (hg : ∀ k, k < i → z < zs.getD k 0 ∧ (0 < k → zs.getD (k - 1) 0 < zs.getD k 0)) (hl : last = if i = 0 then z else zs.getD (i - 1) 0) (h : last < zs.getD i 0) : ∀ k, k < i + 1 → z < zs.getD k 0 ∧ (0 < k → zs.getD (k - 1) 0 < zs.getD k 0) := by
 intro k hk
 rcases Nat.lt_or_ge k i with g | g
 ·exact hg k g
 obtain rfl : k = i := by omega
 by_cases h0 : k = 0
 ·rw [if_pos h0] at hl; exact ⟨by omega, fun g => absurd g (by omega)⟩
 ·rw [if_neg h0] at hl
  have := (hg (k - 1) (by omega)).1
  exact ⟨by omega, fun _ => by omega⟩
theorem r9installO_spec (y w x : Nat) (δ : Dk) (ω : Wl) (Λ : Lg) (sl : Value) (z : Int) (snap : Bs) (va : Value) (l : List En) (p : HP) (hI : WlI δ ω) (hab : (0 ≤ ω.a ∧ ω.a ≤ 9223372036854775807) ∧ (0 ≤ ω.b ∧ ω.b ≤ 9223372036854775807)) (hW : LgW Λ) (ha : ω.a = Λ.acc) (hb9 : ω.b = Λ.cur) (hz : I64 z) (hcells : ∀ h : Hp, p h → rdS 11 h va l.length (l.flatMap enC)) (hll : l.length ≤ 1073741824) (hx : ∀ e ∈ l, EnX p e) : Fn Tryz.prog 169 #[vptr y, vint z, vstr snap, va] [gc9 y w (Λ.base) (Λ.snap) (sl) (Λ.acc) (Λ.cur) (Λ.doubt), rlR w x ω, dsR x δ, p] fun v L => v = vint (lgInstall ⟨δ, ω, Λ⟩ z snap l).2 ∧ (((lgInstall ⟨δ, ω, Λ⟩ z snap l).2 ≠ 0 ∧ L = [gc9 y w (Λ.base) (Λ.snap) (sl) (Λ.acc) (Λ.cur) ((lgInstall ⟨δ, ω, Λ⟩ z snap l).1.Λ.doubt), rlR w x (lgInstall ⟨δ, ω, Λ⟩ z snap l).1.ω, dsR x (lgInstall ⟨δ, ω, Λ⟩ z snap l).1.δ, p]) ∨ ((lgInstall ⟨δ, ω, Λ⟩ z snap l).2 = 0 ∧ ∃ a c es, EsOf es (lgInstall ⟨δ, ω, Λ⟩ z snap l).1.Λ ∧ L = [gc9 y w ((lgInstall ⟨δ, ω, Λ⟩ z snap l).1.Λ.base) ((lgInstall ⟨δ, ω, Λ⟩ z snap l).1.Λ.snap) (.slice a es.length c) ((lgInstall ⟨δ, ω, Λ⟩ z snap l).1.Λ.acc) ((lgInstall ⟨δ, ω, Λ⟩ z snap l).1.Λ.cur) ((lgInstall ⟨δ, ω, Λ⟩ z snap l).1.Λ.doubt), es9 (.slice a es.length c) es, bigR entR es, rlR w x (lgInstall ⟨δ, ω, Λ⟩ z snap l).1.ω, dsR x (lgInstall ⟨δ, ω, Λ⟩ z snap l).1.δ, p])) := by
 refine Fn.intro Tryz.func169 rfl rfl fun F W => ?_
 refine .rdAny (p := p) hcells (by repeat' constructor) fun a0 c0 e _ => ?_
 subst e
 refine .sr (.an rfl (.seq (.sm rfl (.nf rfl fo_64_6 (.u (.ld rfl ag_4) (.nt (.condB rfl (fun h20 => ?_) (fun h20 => ?_))))))))
 ·refine .sr (.an rfl (.rt ?_))
  have hr : lgInstall ⟨δ, ω, Λ⟩ z snap l = (⟨δ, ω, Λ⟩, 2) := by unfold lgInstall; dsimp only; rw [if_pos h20]
  rw [hr]
  try dsimp only
  exact .dn rfl rfl ⟨rfl, .inl ⟨by decide, rfl⟩⟩
 refine .sk (.seq (.sm rfl (.ui rfl rfl rfl (.m rfl (.dec (t := 23) rfl (fun h3_23 => ?_) (fun h3_23 => ?_))))))
 ·refine .kDT (t := 22) rfl h3_23 (.gk (.gk (.gk (.u (.pickT rfl rfl) (.nt (.condT rfl (.sr (.an rfl (.rt ?_)))))))))
  have hr : lgInstall ⟨δ, ω, Λ⟩ z snap l = (⟨δ, ω, Λ⟩, 1) := by unfold lgInstall; dsimp only; rw [if_neg (by rw [h20]; decide), if_pos (by first | exact .inl h3_23 | exact .inr (by omega))]
  rw [hr]
  try dsimp only
  exact .dn rfl rfl ⟨rfl, .inl ⟨by decide, rfl⟩⟩
 refine .kDF (t := 22) rfl h3_23 (.grun (t := 23) rfl rfl rfl (.m rfl (.grun (t := 23) rfl rfl rfl (.q (.strlen rfl Tryz.underlying9 rfl) rfl (.grun (t := 23) rfl rfl rfl (.ui rfl rfl rfl (.u (.pickF rfl rfl) (.nt (.condD rfl (fun h27 => ?_) (fun h27 => ?_))))))))))
 ·refine .sr (.an rfl (.rt ?_))
  have hr : lgInstall ⟨δ, ω, Λ⟩ z snap l = (⟨δ, ω, Λ⟩, 1) := by unfold lgInstall; dsimp only; rw [if_neg (by rw [h20]; decide), if_pos (by first | exact .inl h3_23 | exact .inr (by omega))]
  rw [hr]
  try dsimp only
  exact .dn rfl rfl ⟨rfl, .inl ⟨by decide, rfl⟩⟩
 refine .sk (.seq (.sr (.an rfl (.block (.loopK (ι := Nat) (fun q E => (9, vint q) :: E) (fun q => []) (fun q => q ≤ l.length ∧ ∀ i (hi : i < q) (hl : i < l.length), fitsE l[i] = true) (fun q => l.length - q) (0) (ts := [0, 1, 2, 3]) (.cons rfl (.cons rfl (.cons rfl (.cons rfl (.nil))))) (⟨Nat.zero_le _, fun i hi => by omega⟩) ⟨rfl, rfl, rfl, rfl, rfl, trivial⟩ (by repeat' constructor) ?_)))))
 rintro j ⟨hj, hft⟩
 refine .seq (.sm rfl (.m rfl (.q (.slen rfl Tryz.underlying33 rfl) rfl (.ui rfl rfl rfl (.nt (.condD rfl (fun h31 => ?_) (fun h31 => ?_)))))))
 ·have hj2 : j < l.length := by omega
  have hX := hx _ (List.getElem_mem hj2)
  refine .rdShape (p := p) hcells (by repeat' constructor) (by omega) fun ba oa e => ?_
  subst e
  refine .sk (.seq (.block (.sm rfl (.m rfl (.q (.indexAddr rfl rfl el_33 (by omega)) rfl (.q (.loadRdA (sz := 11) (j := j * 11) (k := 11) (p := p) (vs := enC l[j]) rfl ag_75 (by repeat' constructor) hcells (by simp) (by omega) (by omega) (flatMap_at (f := enC) (sz := 11) (fun _ _ => rfl) (by omega))) rfl (.cv Tryz.func171 [_] (r9fits_spec l[j] p hX) ?_)))))))
  refine .an rfl (.sm rfl (.u (.not rfl) (.nt (.condB rfl (fun h40 => ?_) (fun h40 => ?_)))))
  ·refine .sr (.an rfl (.ret (.blk_r (.then_r (.then_r (.blk_r (.then_r ?_)))))))
   have hr : lgInstall ⟨δ, ω, Λ⟩ z snap l = (⟨δ, ω, Λ⟩, 1) := by unfold lgInstall; dsimp only; rw [if_neg (by rw [h20]; decide), if_neg (by rintro (g1 | g1); exact h3_23 g1; omega), if_pos (all_fits_bad hj2 (by simpa using h40))]
   rw [hr]
   try dsimp only
   exact .dn rfl rfl ⟨rfl, .inl ⟨by decide, rfl⟩⟩
  have hfj : fitsE l[j] = true := by simpa using h40
  refine .skip (.blk_n (.then_n (.region (.m rfl (.q (.add rfl rfl (by omega)) rfl (.an rfl ?_))))))
  exact .rk (j + 1) (⟨by omega, fun i hi hl2 => by rcases Nat.lt_or_ge i j with g1 | g1; exact hft i g1 hl2; obtain rfl : i = j := (by omega); exact hfj⟩) (by omega) ⟨rfl, rfl, rfl, rfl, rfl, trivial⟩
 have hje : j = l.length := by omega
 subst hje
 have hall := all_fits (fun i hi => hft i hi hi)
 refine .exit (.then_e (.then_e (.blk_e (.then_n (.sm rfl (.an rfl (.seq (.sr (.an rfl (.block (.loopK (ι := Nat × Int) (fun q E => (12, vint q.1) :: (11, vint q.2) :: E) (fun q => []) (fun q => q.1 ≤ l.length ∧ (q.2 = if q.1 = 0 then z else (l.map (·.zx)).getD (q.1 - 1) 0) ∧ ∀ k, k < q.1 → z < (l.map (·.zx)).getD k 0 ∧ (0 < k → (l.map (·.zx)).getD (k - 1) 0 < (l.map (·.zx)).getD k 0)) (fun q => l.length - q.1) (0, z) (ts := [0, 1, 2, 3]) (.cons rfl (.cons rfl (.cons rfl (.cons rfl (.nil))))) (⟨Nat.zero_le _, rfl, fun k hk => by dsimp only at hk; omega⟩) ⟨rfl, rfl, rfl, rfl, rfl, rfl, trivial⟩ (by repeat' constructor) ?_)))))))))))
 rintro ⟨i, last⟩ ⟨hi, hlast, hgood⟩
 dsimp only
 dsimp only at hi hlast hgood
 refine .seq (.sm rfl (.m rfl (.q (.slen rfl Tryz.underlying33 rfl) rfl (.ui rfl rfl rfl (.nt (.condD rfl (fun h45 => ?_) (fun h45 => ?_)))))))
 ·have hi2 : i < l.length := by omega
  have hzi : (l.map (·.zx)).getD i 0 = l[i].zx := by simp [List.getD_eq_getElem?_getD, hi2]
  refine .rdShape (p := p) hcells (by repeat' constructor) (by omega) fun ba oa e => ?_
  subst e
  refine .sk (.seq (.block (.seq (.sm rfl (.m rfl (.q (.indexAddr rfl rfl el_33 (by omega)) rfl (.u (.fieldAddr rfl fo_75_0) (.q (.loadRd (sz := 11) (j := i * 11 + 0) (p := p) (v := vint l[i].zx) rfl ag_3 (by repeat' constructor) hcells (by simp) ((en_cell (k := 0) hi2 (by decide)).trans rfl)) rfl (.m rfl (.ui rfl rfl rfl (.nt (.condD rfl (fun h54 => ?_) (fun h54 => ?_)))))))))))))
  ·refine .sr (.an rfl (.rt (.blk_r (.then_r (.then_r (.blk_r (.then_r ?_)))))))
   have hr : lgInstall ⟨δ, ω, Λ⟩ z snap l = (⟨δ, ω, Λ⟩, 81) := by unfold lgInstall; dsimp only; rw [if_neg (by rw [h20]; decide), if_neg (by rintro (g1 | g1); exact h3_23 g1; omega), if_neg (by rw [hall]; decide), if_pos (rises_no (i := i) (by rw [List.length_map]; exact hi2) hlast (by rw [hzi]; exact h54))]
   rw [hr]
   try dsimp only
   exact .dn rfl rfl ⟨rfl, .inl ⟨by decide, rfl⟩⟩
  refine .sk (.region (.m rfl (.m rfl (.q (.indexAddr rfl rfl el_33 (by omega)) rfl (.u (.fieldAddr rfl fo_75_0) (.q (.loadRd (sz := 11) (j := i * 11 + 0) (p := p) (v := vint l[i].zx) rfl ag_3 (by repeat' constructor) hcells (by simp) ((en_cell (k := 0) hi2 (by decide)).trans rfl)) rfl (.a rfl (.nil (.blk_n (.then_n (.region (.m rfl (.q (.add rfl rfl (by omega)) rfl (.an rfl ?_))))))))))))))
  exact .rk ((i + 1, l[i].zx)) (⟨by dsimp only; omega, by dsimp only; rw [if_neg (by omega), Nat.add_sub_cancel]; exact hzi.symm, by dsimp only; exact rise_go hgood hlast (by rw [hzi]; omega)⟩) (by dsimp only; omega) ⟨rfl, rfl, rfl, rfl, rfl, rfl, trivial⟩
 have hR : Rises z (l.map (·.zx)) := fun k hk => hgood k (by rw [List.length_map] at hk; omega)
 refine .exit (.then_e (.then_e (.blk_e (.then_n (.seq (.sm rfl (.q (.slen rfl Tryz.underlying33 rfl) rfl (.ui rfl rfl rfl (.nt (.condD rfl (fun h62 => ?_) (fun h62 => ?_)))))))))))
 ·refine .sr (.an rfl (.rt ?_))
  have hr : lgInstall ⟨δ, ω, Λ⟩ z snap l = lgRenew ⟨δ, ω, Λ⟩ z snap (l.map enB) (l.map (·.zx)) := by unfold lgInstall; dsimp only; rw [if_neg (by rw [h20]; decide), if_neg (by rintro (g1 | g1); exact h3_23 g1; omega), if_neg (by rw [hall]; decide), if_neg (fun g => g hR)]
  rw [hr]
  have hr2 : lgRenew ⟨δ, ω, Λ⟩ z snap (l.map enB) (l.map (·.zx)) = (⟨δ, ω, Λ⟩, 83) := by unfold lgRenew; dsimp only; rw [if_pos (by rw [List.length_map]; omega)]
  rw [hr2]
  try dsimp only
  exact .dn rfl rfl ⟨rfl, .inl ⟨by decide, rfl⟩⟩
 refine .sk (.seq ?_)
 have hl200 : l.length ≤ 200 := by omega
 have hbH := headL_len z snap (by omega)
 refine .region (.m rfl (.m rfl (.m rfl (.oq (.c Tryz.func207 [_, _, _] (r9records_spec z snap (.slice a0 l.length c0) l p ?hb58 ?hs59 hcells ?hx60 ?hn61)) ?_))))
 case hb58 => exact hz
 case hs59 => omega
 case hx60 => exact fun e he => (hx e he).l
 case hn61 => omega
 rintro v L' ⟨b20, c20, rfl, rfl⟩
 refine .an rfl (.sm rfl (.m rfl (.nf rfl fo_64_0 (.u (.ld rfl ag_62) (.m rfl (.oq (.c Tryz.func208 [_, _] (rrenew2_spec w x ω δ (.slice (some ⟨b20, 0, none⟩) (headL z snap ++ l.map enB).length c20) (headL z snap ++ l.map enB) (strR (.slice (some ⟨b20, 0, none⟩) (headL z snap ++ l.map enB).length c20) (headL z snap ++ l.map enB)) ?hp69 hI hab ?hln70)) ?_))))))
 case hp69 => exact fun h hp => slR_rd hp
 case hln70 => rw [List.length_append, List.length_map]; omega
 rintro v L' ⟨rfl, rfl⟩
 refine .oq (.c Tryz.func167 [_, _] (r9met_spec y w Λ.base Λ.snap sl Λ.acc Λ.cur Λ.doubt (renewZ δ ω (headL z snap ++ l.map enB)).2.2)) ?_
 rintro v L' ⟨rfl, rfl⟩; rw [met_dbt Λ (renewZ δ ω (headL z snap ++ l.map enB)).2.2]
 refine .an rfl (.seq (.sm rfl (.ui rfl rfl rfl (.nt (.condD rfl (fun h76 => ?_) (fun h76 => ?_))))))
 ·refine .seq ?_
  have h76z : (renewZ δ ω (headL z snap ++ l.map enB)).2.2 = 0 := metE_0 h76
  have hdf : Λ.doubt = false := by simpa using h20
  obtain ⟨hnW, hno⟩ := renew_new (Λ := Λ) hW.eps ha hb9 ⟨by omega, hz.2⟩ (by omega) (by rw [List.length_map]; exact hl200) (rises_rows l z (fun e he => (hx e he).l.w.1) hall hR) h76z
  obtain ⟨rr1, rr2, rr3, rr4⟩ := renew_ok h76z
  have hbw := hW.eps
  have hrd := r9readS_spec w x (renewZ δ ω (headL z snap ++ l.map enB)).2.1 (by rw [rr1, List.length_append, List.length_map]; omega) (fun s hs => by rw [rr1] at hs; have := rr4 s hs; omega) (by rw [rr2, ha]; unfold I64; omega) (by rw [rr3, hb9]; unfold I64; omega) hno
  have hmd : (Λ.met (renewZ δ ω (headL z snap ++ l.map enB)).2.2).doubt = false := by rw [h76z]; exact hdf
  rw [hmd]
  refine .region (.m rfl (.nf rfl fo_64_0 (.u (.ld rfl ag_62) (.oq (.c Tryz.func209 [_] (hrd)) ?_))))
  rintro v L' ⟨yq, rfl, rfl⟩
  refine .m rfl (.u (.extract rfl rfl) (.u (.extract rfl rfl) (.a rfl (.a rfl (.nil (.rgOpen (y := yq) (by repeat' constructor) fun aq cq eq9 hEq => (.then_n (.sm rfl (.m rfl (.nf rfl fo_64_1 (.u (.ld rfl ag_3) (.nf rfl fo_64_1 (.st rfl rfl rfl sz_3 ?_)))))))))))))
  refine .nt (.sm rfl (.m rfl (.nf rfl fo_64_2 (.u (.ld rfl ag_9) (.nf rfl fo_64_2 (.st rfl rfl rfl sz_9 ?_))))))
  refine .nt (.region (.m rfl (.m rfl (.nf rfl fo_64_3 (.u (.ld rfl ag_33) (.nf rfl fo_64_3 (.st rfl rfl rfl sz_33 ?_)))))))
  refine .nt (.sm rfl (.an rfl (.ret ?_)))
  have hr : lgInstall ⟨δ, ω, Λ⟩ z snap l = lgRenew ⟨δ, ω, Λ⟩ z snap (l.map enB) (l.map (·.zx)) := by unfold lgInstall; dsimp only; rw [if_neg (by rw [h20]; decide), if_neg (by rintro (g1 | g1); exact h3_23 g1; omega), if_neg (by rw [hall]; decide), if_neg (fun g => g hR)]
  rw [hr]
  have hr2 : lgRenew ⟨δ, ω, Λ⟩ z snap (l.map enB) (l.map (·.zx)) = (⟨(renewZ δ ω (headL z snap ++ l.map enB)).1, (renewZ δ ω (headL z snap ++ l.map enB)).2.1, ⟨Λ.acc, Λ.cur, z, snap, l.map enB, l.map (·.zx), Λ.doubt⟩⟩, 0) := by unfold lgRenew; dsimp only; rw [if_neg (by rw [List.length_map]; omega), if_pos (show (metL Λ (renewZ δ ω (headL z snap ++ l.map enB))).2 = 0 from h76)]
  rw [hr2]
  rw [h76]
  dsimp only
  rw [hdf]
  exact .dn rfl rfl ⟨rfl, .inr ⟨rfl, aq, cq, eq9, hEq, rfl⟩⟩
 refine .sk (.sm rfl (.an rfl (.ret ?_)))
 have hr : lgInstall ⟨δ, ω, Λ⟩ z snap l = lgRenew ⟨δ, ω, Λ⟩ z snap (l.map enB) (l.map (·.zx)) := by unfold lgInstall; dsimp only; rw [if_neg (by rw [h20]; decide), if_neg (by rintro (g1 | g1); exact h3_23 g1; omega), if_neg (by rw [hall]; decide), if_neg (fun g => g hR)]
 rw [hr]
 have hr2 : lgRenew ⟨δ, ω, Λ⟩ z snap (l.map enB) (l.map (·.zx)) = metL Λ (renewZ δ ω (headL z snap ++ l.map enB)) := by unfold lgRenew; dsimp only; rw [if_neg (by rw [List.length_map]; omega), if_neg (show ¬ (metL Λ (renewZ δ ω (headL z snap ++ l.map enB))).2 = 0 from h76)]
 rw [hr2]
 exact .dn rfl rfl ⟨rfl, .inl ⟨h76, rfl⟩⟩
theorem r9install_spec (y w x : Nat) (δ : Dk) (ω : Wl) (Λ : Lg) (z : Int) (snap : Bs) (va : Value) (l : List En) (p : HP) (hI : WlI δ ω) (hab : (0 ≤ ω.a ∧ ω.a ≤ 9223372036854775807) ∧ (0 ≤ ω.b ∧ ω.b ≤ 9223372036854775807)) (hW : LgW Λ) (ha : ω.a = Λ.acc) (hb9 : ω.b = Λ.cur) (hz : I64 z) (hcells : ∀ h : Hp, p h → rdS 11 h va l.length (l.flatMap enC)) (hll : l.length ≤ 1073741824) (hx : ∀ e ∈ l, EnX p e) : Fn Tryz.prog 169 #[vptr y, vint z, vstr snap, va] [rgR y w Λ, rlR w x ω, dsR x δ, p] fun v L => v = vint (lgInstall ⟨δ, ω, Λ⟩ z snap l).2 ∧ L = [rgR y w (lgInstall ⟨δ, ω, Λ⟩ z snap l).1.Λ, rlR w x (lgInstall ⟨δ, ω, Λ⟩ z snap l).1.ω, dsR x (lgInstall ⟨δ, ω, Λ⟩ z snap l).1.δ, p] := by
 intro F W hs
 have hs' : St ((fun h => ∃ q : (Option Addr × Nat) × List En, EsOf q.2 Λ ∧ sep [gc9 y w Λ.base Λ.snap (.slice q.1.1 q.2.length q.1.2) Λ.acc Λ.cur Λ.doubt, es9 (.slice q.1.1 q.2.length q.1.2) q.2, bigR entR q.2] h) :: ([rlR w x ω, dsR x δ, p] ++ F)) W := hs
 obtain ⟨q, h1, h2, hd, a1, a2, ⟨hE, hp⟩, hL⟩ := sep_ex hs'
 have hs1 : St ([gc9 y w Λ.base Λ.snap (.slice q.1.1 q.2.length q.1.2) Λ.acc Λ.cur Λ.doubt, es9 (.slice q.1.1 q.2.length q.1.2) q.2, bigR entR q.2] ++ ([rlR w x ω, dsR x δ, p] ++ F)) W := sep_join hd a1 a2 hp hL
 have hs2 : St ([gc9 y w Λ.base Λ.snap (.slice q.1.1 q.2.length q.1.2) Λ.acc Λ.cur Λ.doubt, rlR w x ω, dsR x δ, p] ++ (es9 (.slice q.1.1 q.2.length q.1.2) q.2 :: bigR entR q.2 :: F)) W := hs1.picks (by repeat' constructor)
 refine (r9installO_spec y w x δ ω Λ _ z snap va l p hI hab hW ha hb9 hz hcells hll hx _ W hs2).mono ?_
 rintro e w' ⟨v, L, ⟨hv, hL⟩, he, hs3, hk⟩
 rcases hL with ⟨h0, rfl⟩ | ⟨h0, a, c, es, hE', rfl⟩
 ·refine ⟨v, _, ⟨hv, rfl⟩, he, ?_, hk⟩
  obtain ⟨i1, i2, i3, i4, i5, i6⟩ := install_no h0
  have hs4 : St ([gc9 y w Λ.base Λ.snap (.slice q.1.1 q.2.length q.1.2) Λ.acc Λ.cur (lgInstall ⟨δ, ω, Λ⟩ z snap l).1.Λ.doubt, es9 (.slice q.1.1 q.2.length q.1.2) q.2, bigR entR q.2] ++ ([rlR w x (lgInstall ⟨δ, ω, Λ⟩ z snap l).1.ω, dsR x (lgInstall ⟨δ, ω, Λ⟩ z snap l).1.δ, p] ++ F)) w' := hs3.picks (by repeat' constructor)
  refine sep_imp (fun hp hq => ⟨q, ⟨by rw [i5]; exact hE.b, by rw [i6]; exact hE.z, hE.n, hE.k⟩, ?_⟩) (sep_fold hs4)
  rw [i1, i2, i3, i4]; exact hq
 ·refine ⟨v, _, ⟨hv, rfl⟩, he, ?_, hk⟩
  have hs4 : St ([es9 (.slice q.1.1 q.2.length q.1.2) q.2, bigR entR q.2] ++ ([gc9 y w (lgInstall ⟨δ, ω, Λ⟩ z snap l).1.Λ.base (lgInstall ⟨δ, ω, Λ⟩ z snap l).1.Λ.snap (.slice a es.length c) (lgInstall ⟨δ, ω, Λ⟩ z snap l).1.Λ.acc (lgInstall ⟨δ, ω, Λ⟩ z snap l).1.Λ.cur (lgInstall ⟨δ, ω, Λ⟩ z snap l).1.Λ.doubt, es9 (.slice a es.length c) es, bigR entR es, rlR w x (lgInstall ⟨δ, ω, Λ⟩ z snap l).1.ω, dsR x (lgInstall ⟨δ, ω, Λ⟩ z snap l).1.δ, p] ++ F)) w' := hs3.picks (by repeat' constructor)
  have hs4 : St ([gc9 y w (lgInstall ⟨δ, ω, Λ⟩ z snap l).1.Λ.base (lgInstall ⟨δ, ω, Λ⟩ z snap l).1.Λ.snap (.slice a es.length c) (lgInstall ⟨δ, ω, Λ⟩ z snap l).1.Λ.acc (lgInstall ⟨δ, ω, Λ⟩ z snap l).1.Λ.cur (lgInstall ⟨δ, ω, Λ⟩ z snap l).1.Λ.doubt, es9 (.slice a es.length c) es, bigR entR es] ++ ([rlR w x (lgInstall ⟨δ, ω, Λ⟩ z snap l).1.ω, dsR x (lgInstall ⟨δ, ω, Λ⟩ z snap l).1.δ, p] ++ F)) w' := hs4.tail.tail
  exact sep_imp (fun hp hq => ⟨((a, c), es), hE', hq⟩) (sep_fold hs4)
/- not in this seat -/
def frR (f y : Nat) (Φ : Fw) : HP := fun h => ∃ q : Option Addr × Nat, True ∧ sep [ptc f [vint Φ.ld, vptr y, vint Φ.ph, vint Φ.ep, vint Φ.com, vint Φ.sil, .slice q.1 Φ.heard.length q.2] 109, intR (.slice q.1 Φ.heard.length q.2) Φ.heard] h
section
variable {W : World} {n : Nat} {ds : List Deferred} {E : Env} {L R : List HP} {X : Act → World → Prop}
theorem G.frOpen {f y : Nat} {Φ : Fw} (hL : Pick (frR f y Φ) L R) (h : ∀ ha hc, G W n ds E (ptc f [vint Φ.ld, vptr y, vint Φ.ph, vint Φ.ep, vint Φ.com, vint Φ.sil, .slice ha Φ.heard.length hc] 109 :: intR (.slice ha Φ.heard.length hc) Φ.heard :: R) X) : G W n ds E L X :=
 G.focus hL (G.open (q := fun q : Option Addr × Nat => [ptc f [vint Φ.ld, vptr y, vint Φ.ph, vint Φ.ep, vint Φ.com, vint Φ.sil, .slice q.1 Φ.heard.length q.2] 109, intR (.slice q.1 Φ.heard.length q.2) Φ.heard]) (φ := fun _ => True) (fun _ hp => hp) fun q _ => h q.1 q.2)
theorem G.frFold {f y : Nat} (Φ : Fw) {l hs : List Value} {ha : Option Addr} {hc m : Nat} (hL : Picks [ptc f l 109, slR 3 1 (.slice ha m hc) m hs] L R) (hl : l = [vint Φ.ld, vptr y, vint Φ.ph, vint Φ.ep, vint Φ.com, vint Φ.sil, .slice ha m hc]) (hm : m = Φ.heard.length) (hh : hs = ints Φ.heard) (h : G W n ds E (frR f y Φ :: R) X) : G W n ds E L X := by
 subst hl; subst hm; subst hh
 exact G.fold hL (fun _ hp => ⟨(ha, hc), trivial, hp⟩) h
end
/-! ### Rising lists -/
def insL (n : Int) : List Int → List Int
 | [] => [n]
 | x :: l => if x > n then n :: x :: l else x :: insL n l
def putL (l : List Int) (n : Int) : List Int := if n ∈ l then l else insL n l
theorem ins_app {n : Int} {b : List Int} : ∀ {a : List Int}, (∀ x ∈ a, x ≤ n) → insL n (a ++ b) = a ++ insL n b
 | [], _ => rfl
 | x :: a, h => by
  have h1 := h x (List.mem_cons_self ..)
  show (if x > n then _ else _) = _
  rw [if_neg (by omega)]; exact congrArg (x :: ·) (ins_app fun y hy => h y (List.mem_cons_of_mem _ hy))
theorem ins_gt {n x : Int} {l : List Int} (h : x > n) : insL n (x :: l) = n :: x :: l := if_pos h
theorem ins_mem (n : Int) : ∀ (l : List Int) (x : Int), x ∈ insL n l ↔ x = n ∨ x ∈ l
 | [], x => by simp [insL]
 | y :: l, x => by
  show x ∈ (if y > n then _ else _) ↔ _
  split
  ·simp
  ·rw [List.mem_cons, ins_mem n l x, List.mem_cons]
   constructor
   ·rintro (h | h | h)
    ·exact .inr (.inl h)
    ·exact .inl h
    ·exact .inr (.inr h)
   ·rintro (h | h | h)
    ·exact .inr (.inl h)
    ·exact .inl h
    ·exact .inr (.inr h)
theorem ins_len (n : Int) : ∀ l : List Int, (insL n l).length = l.length + 1
 | [] => rfl
 | y :: l => by
  show (if y > n then _ else _ : List Int).length = _
  split
  ·rfl
  ·rw [List.length_cons, ins_len n l]; rfl
theorem put_len (l : List Int) (n : Int) : (putL l n).length ≤ l.length + 1 := by
 unfold putL
 split
 ·omega
 ·rw [ins_len]; exact Nat.le_refl _
theorem put_mem (l : List Int) (n x : Int) : x ∈ putL l n ↔ x = n ∨ x ∈ l := by
 unfold putL
 split
 ·rename_i h
  exact ⟨.inr, fun g => by rcases g with rfl | g; exact h; exact g⟩
 ·exact ins_mem n l x
theorem ins_up (n : Int) : ∀ l : List Int, l.Pairwise (· < ·) → n ∉ l → (insL n l).Pairwise (· < ·)
 | [], _, _ => List.pairwise_singleton _ _
 | y :: l, h, hn => by
  obtain ⟨h1, h2⟩ := List.pairwise_cons.1 h
  have hy : n ≠ y := fun g => hn (g ▸ List.mem_cons_self ..)
  show (if y > n then _ else _ : List Int).Pairwise _
  split
  ·rename_i g
   refine List.pairwise_cons.2 ⟨fun x hx => ?_, h⟩
   rcases List.mem_cons.1 hx with rfl | hx
   ·exact g
   ·have := h1 x hx; omega
  ·refine List.pairwise_cons.2 ⟨fun x hx => ?_, ins_up n l h2 fun g => hn (List.mem_cons_of_mem _ g)⟩
   rcases (ins_mem n l x).1 hx with rfl | hx
   ·omega
   ·exact h1 x hx
theorem put_up {l : List Int} (h : l.Pairwise (· < ·)) (n : Int) : (putL l n).Pairwise (· < ·) := by
 unfold putL
 split
 ·exact h
 ·rename_i g; exact ins_up n l h g
def hearL (l hs : List Int) : List Int := hs.foldl putL l
theorem hear_step (l hs : List Int) {i : Nat} (hi : i < hs.length) : hearL l (hs.take (i + 1)) = putL (hearL l (hs.take i)) hs[i] := by
 unfold hearL
 rw [List.take_succ_eq_append_getElem hi, List.foldl_append]; rfl
theorem hear_all : ∀ (hs l : List Int), l.Pairwise (· < ·) → (hearL l hs).Pairwise (· < ·) ∧ (hearL l hs).length ≤ l.length + hs.length ∧ ∀ x, x ∈ hearL l hs ↔ x ∈ l ∨ x ∈ hs
 | [], l, h => ⟨h, Nat.le_refl _, fun x => by simp [hearL]⟩
 | n :: hs, l, h => by
  obtain ⟨h1, h2, h3⟩ := hear_all hs (putL l n) (put_up h n)
  have hp := put_len l n
  refine ⟨h1, by show (hearL (putL l n) hs).length ≤ _; rw [List.length_cons]; omega, fun x => ?_⟩
  show x ∈ hearL (putL l n) hs ↔ _
  rw [h3, put_mem, List.mem_cons]
  constructor
  ·rintro ((g | g) | g)
   ·exact .inr (.inl g)
   ·exact .inl g
   ·exact .inr (.inr g)
  ·rintro (g | g | g)
   ·exact .inl (.inr g)
   ·exact .inl (.inl g)
   ·exact .inr g
theorem compF_mem (l : List Int) (x : Int) : x ∈ compI l ↔ x ∈ l := by
 have key : ∀ j (hj : j < l.length), l[j] ∈ compI l := by
  intro j
  induction j with
  | zero =>
   intro hj
   refine List.mem_map.2 ⟨0, List.mem_filter.2 ⟨List.mem_range.2 hj, by simp [Lib.keeps]⟩, by simp [hj]⟩
  | succ j ih =>
   intro hj
   by_cases hk : Lib.keeps l.toArray (j + 1) = true
   ·exact List.mem_map.2 ⟨j + 1, List.mem_filter.2 ⟨List.mem_range.2 hj, hk⟩, by simp [hj]⟩
   ·have := ih (by omega)
    simp [Lib.keeps, hj, show j < l.length by omega] at hk
    rw [hk]; exact this
 constructor
 ·intro h
  obtain ⟨j, hj, rfl⟩ := List.mem_map.1 h
  have hj2 := List.mem_range.1 (List.mem_filter.1 hj).1
  simp [hj2]
 ·intro h
  obtain ⟨j, hj, rfl⟩ := List.mem_iff_getElem.1 h
  exact key j hj
theorem compF_sorted {l : List Int} (hs : l.Pairwise (· ≤ ·)) : (compI l).Pairwise (· < ·) := by
 show (((List.range l.length).filter (Lib.keeps l.toArray)).map (l.toArray[·]!)).Pairwise (· < ·)
 rw [List.pairwise_map, List.pairwise_filter]
 refine List.Pairwise.imp_of_mem (R := fun a b : Nat => a < b) ?_ List.pairwise_lt_range
 intro i j hi hj hij _ hk
 have hi2 := List.mem_range.1 hi
 have hj2 := List.mem_range.1 hj
 have hle := List.pairwise_iff_getElem.1 hs
 have h1 : l[i] ≤ l[j - 1]'(by omega) := by
  rcases Nat.lt_or_ge i (j - 1) with h | h
  ·exact hle i (j - 1) hi2 (by omega) h
  ·have : i = j - 1 := by omega
   subst this; exact Int.le_refl _
 have h2 : l[j - 1]'(by omega) ≤ l[j] := hle (j - 1) j (by omega) hj2 (by omega)
 have h3 : l[j] ≠ l[j - 1]'(by omega) := by
  simp [Lib.keeps, hj2, show j - 1 < l.length by omega] at hk
  rcases hk with hk | hk
  ·omega
  ·exact hk
 simp [hi2, hj2]; omega
theorem hear_comp {l : List Int} (h : l.Pairwise (· < ·)) (hs : List Int) : hearL l hs = compI (sortI (l ++ hs)) := by
 obtain ⟨h1, -, h3⟩ := hear_all hs l h
 have hm := compF_sorted (sortI_sorted (l ++ hs))
 have nl : (hearL l hs).Nodup := h1.imp (fun h => by omega)
 have nm : (compI (sortI (l ++ hs))).Nodup := hm.imp (fun h => by omega)
 refine List.Perm.eq_of_pairwise (le := fun a b : Int => a < b) (fun a b _ _ h1 h2 => by omega) h1 hm ((List.perm_ext_iff_of_nodup nl nm).2 fun x => ?_)
 rw [h3, compF_mem, sortI_mem, List.mem_append]
theorem hear_up {Φ : Fw} {s : Ld} {m : Ms} (h : Φ.heard.Pairwise (· < ·)) : (hearF Φ s m).1.heard.Pairwise (· < ·) := by
 have h0 : (Φ.hush 0).heard.Pairwise (· < ·) := h
 have key : ∀ (Ψ : Fw) (t : Ld) (u : Ms), Ψ.heard.Pairwise (· < ·) → (hearF1 Ψ t u).1.heard.Pairwise (· < ·) := by
  intro Ψ t u g
  have gc : (comF (Ψ.toPh 3) t u).1.heard.Pairwise (· < ·) := by unfold comF; split <;> exact g
  unfold hearF1 accF synF synF2 proF pingF pingF1 upF comF
  repeat' split
  all_goals first
   | exact g
   | exact List.Pairwise.nil
 unfold hearF
 split
 ·exact h
 ·exact key _ _ _ h0
theorem tick_up {Φ : Fw} {s : Ld} {l : List Int} (h : Φ.heard.Pairwise (· < ·)) : (tickF Φ s l).1.heard.Pairwise (· < ·) := by
 unfold tickF
 repeat' split
 all_goals first
  | exact h
  | exact compF_sorted (sortI_sorted _)
end Go.Proofs.YteebpmkkdlabpaaGreat
/-
 DERIVED: THE SHELF's CONTRACTS AT THIS DUMP, IN PLAIN WORDS (tools/lay-plain.mjs out of 'YteebpmkkdlabpaaGreatLayK.lean', which tools/lay-shelf.mjs wrote): THE SAME DECLARATIONS UNDER THE SAME NAMES: 'import', 'namespace', 'open', 'def', 'theorem' AND NOTHING ELSE: no command of the shelf's: FOR A HAND-IN. Each laying: the table of numbers ('.._ren') and one theorem, a field a fact of the dump's own or the kernel's comparison; each contract: ONE APPLICATION.
-/
namespace Go.Proofs
open Go.Shelf
def Tryz.compactA_ren : Go.Shelf.Ren := ⟨fun | 20 => 52 | n => n, fun | 22 => 32 | 3 => 3 | 4 => 4 | 0 => 0 | n => n, fun | n => n⟩
theorem Tryz.compactA : Go.Proofs.Lays2.n20 Tryz.prog Tryz.compactA_ren := {
 mixed := by kernel_rfl
 f20 := Tryz.func52.trans (congrArg some (by kernel_rfl))
 t0 := Tryz.underlying0
 a0 := Tryz.isAgg0
 z0 := Tryz.sizeOf0
 v0 := Tryz.zeroValue0
 t3 := Tryz.underlying3
 a3 := Tryz.isAgg3
 z3 := Tryz.sizeOf3
 v3 := Tryz.zeroValue3
 t4 := Tryz.underlying4
 a4 := Tryz.isAgg4
 z4 := Tryz.sizeOf4
 v4 := Tryz.zeroValue4
 t22 := Tryz.underlying32
 a22 := Tryz.isAgg32
 z22 := Tryz.sizeOf32
 v22 := Tryz.zeroValue32
 i3 := by kernel_rfl }
end Go.Proofs
