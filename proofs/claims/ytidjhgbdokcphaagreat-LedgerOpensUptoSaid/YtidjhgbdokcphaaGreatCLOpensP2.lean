/- Own work, some of it printed by program, texts that were built one by one and are laid one behind the other here: Append, Renew, Records, Room ..: walked. | Renew, Format: walked. | Format: walked. | the helpers of law 04, as plain data. | nothing: stands for the walks of law 04, in a seat that has none. | what a call of a log does, what a log tells, as plain data. | nothing: stands for the walks of law 04, in a seat that has none. | the first example of law 04, reckoned. | nothing: stands for the walks of law 04, in a seat that has none. | a disk that does not die: what the calls of a log do there. | scripts of law 04 as they lie in memory. | what is laid is found again: marks, records, areas. | a disk keeps what its log knows, as long as it lives. | what lies on the disk of a log that is well; opened, it is the same log. | what the document reads of a mark's sector; its logs and disks. | the document's log: numbers, records, marks: walked. | the document's log: records, Open: walked. | the document's disk that is as a plain one. | the document's log, what it writes: walked. | the document's log, its calls: walked. | numbers, texts and counts as bytes, and back: plain. | a writer and a reader of bytes in memory. | structs that are compared, and structs as keys of maps. | package codec: walked. -/
import Derived.Test.YtidjhgbdokcphaaGreatCLOpensP1
import Derived.Test.YtidjhgbdokcphaaGreatCLOpensP0
import Derived.Laws.StructEq
set_option linter.unusedSimpArgs false
set_option linter.unusedVariables false
set_option maxRecDepth 100000
/- Own work, by program: Append, Renew, Records, Room ..: walked. -/

namespace Go.Proofs.YtidjhgbdokcphaaGreat
open Go
theorem wappend_spec (x d : Nat) (ω : Wl) (δ : Dk) (s : Bs) (hI : WlI δ ω) (hsl : s.length ≤ 2147483648) : Fn Tryz.prog 45 #[vptr x, vstr s] [wlR x d ω, dkR d δ] fun v L => v = vint (appendZ δ ω s).2.2 ∧ L = [wlR x d (appendZ δ ω s).2.1, dkR d (appendZ δ ω s).1] := by
 refine Fn.introD (vs := [vptr x, vstr s]) Tryz.func45 rfl rfl ?_
 intro F W
 refine G.wlOpen (ω := ω) (by (repeat' constructor)) fun vr vb => ?_
 refine G.slAny (v := vr) (by (repeat' constructor)) fun arr crr e _ => ?_
 subst e
 refine G.slAny (v := vb) (by (repeat' constructor)) fun abb cbb e _ => ?_
 subst e
 refine G.slAddr (T := 9) (by (repeat' constructor)) fun hrc hra => ?_
 obtain ⟨hn, hA, har, hct, hsy, hfit⟩ := hI
 have hh := half_le hn
 have hll := laidZ_many ω.recs
 refine G.seq (G.region ?_)
 refine G.oq (OpSpec.alloc ze_25) ?nx1
 rintro v L' ⟨be, rfl, rfl⟩
 refine G.nil ?_
 refine G.ptCast (b := be) (l' := [vint 0]) (by (repeat' constructor)) rfl ?_
 refine G.then_n (G.seq (G.region (G.mv rfl rfl (G.defer (vs := [_, _]) rfl (G.nil (G.then_n (G.seq (G.block (G.seq (G.region (G.mv rfl rfl (G.q (Quiet.nilp rfl) rfl (G.q (Quiet.fieldAddr rfl fo_142_8) rfl ?_)))))))))))))
 refine G.q (Quiet.ld rfl ag_4) rfl ?_
 refine G.ag rfl rfl (G.nil (G.then_n ?_))
 refine G.condB rfl (fun h8 => ?_) (fun h8 => ?_)
 ·refine G.seq (G.region ?_)
  refine G.oq (OpSpec.store rfl rfl rfl sz_25 ?c8 ?c9) ?nx10
  case c8 => first | decide | (simp; omega) | simp
  case c9 => exact nfz0 _ _
  rintro v L' rfl
  refine G.nil ?_
  refine G.ptCast (b := be) (l' := [vint 34]) (by (repeat' constructor)) rfl ?_
  refine G.then_n (G.ret (G.blk_r (G.then_r ?_)))
  refine G.doneD Tryz.func96 rfl rfl (doubts_spec x d (.slice arr ω.recs.length crr) ω.synced (.slice abb (laidZ ω.recs).length cbb) ω.area ω.count ω.a ω.b ω.doubt be 34) (by (repeat' constructor)) ?_
  rintro u L' ⟨rfl, rfl⟩
  have e : appendZ δ ω s = (δ, ω, 34) := by unfold appendZ; rw [if_pos h8]
  rw [e, if_neg (show ¬ (34 : Int) = 2 by decide)]
  refine G.wlFold (x := x) (d := d) (ω := ω) (by (repeat' constructor)) rfl rfl rfl rfl rfl ?_
  exact G.done1 rfl (.cell rfl ag_25 (by (repeat' constructor)) rfl) ⟨rfl, rfl⟩ (by (repeat' constructor)) (by (repeat' constructor))
 ·have hdb : ¬ ω.doubt = true := by rw [h8]; decide
  refine G.seq (G.region (G.mv rfl rfl (G.q (Quiet.strlen rfl Tryz.underlying9 rfl) rfl (G.q (Quiet.int rfl rfl rfl) rfl (G.ag rfl rfl (G.nil (G.then_n ?_)))))))
  refine G.condD rfl (fun h13 => ?_) (fun h13 => ?_)
  ·have hlong : s.length > 4000 := by omega
   refine G.seq (G.region ?_)
   refine G.oq (OpSpec.store rfl rfl rfl sz_25 ?c14 ?c15) ?nx16
   case c14 => first | decide | (simp; omega) | simp
   case c15 => exact nfz0 _ _
   rintro v L' rfl
   refine G.nil ?_
   refine G.ptCast (b := be) (l' := [vint 33]) (by (repeat' constructor)) rfl ?_
   refine G.then_n (G.ret (G.blk_r (G.then_r ?_)))
   refine G.doneD Tryz.func96 rfl rfl (doubts_spec x d (.slice arr ω.recs.length crr) ω.synced (.slice abb (laidZ ω.recs).length cbb) ω.area ω.count ω.a ω.b ω.doubt be 33) (by (repeat' constructor)) ?_
   rintro u L' ⟨rfl, rfl⟩
   have e : appendZ δ ω s = (δ, ω, 33) := by unfold appendZ; rw [if_neg hdb, if_pos hlong]
   rw [e, if_neg (show ¬ (33 : Int) = 2 by decide)]
   refine G.wlFold (x := x) (d := d) (ω := ω) (by (repeat' constructor)) rfl rfl rfl rfl rfl ?_
   exact G.done1 rfl (.cell rfl ag_25 (by (repeat' constructor)) rfl) ⟨rfl, rfl⟩ (by (repeat' constructor)) (by (repeat' constructor))
  ·have hlong : ¬ s.length > 4000 := by omega
   refine G.seq (G.region (G.mv rfl rfl (G.mv rfl rfl (G.q (Quiet.nilp rfl) rfl (G.q (Quiet.fieldAddr rfl fo_142_3) rfl ?_)))))
   refine G.q (Quiet.ld rfl ag_125) rfl ?_
   refine G.q (Quiet.slen rfl Tryz.underlying125 rfl) rfl (G.mv rfl rfl (G.q (Quiet.strlen rfl Tryz.underlying9 rfl) rfl ?_))
   refine G.q (Quiet.add rfl rfl (by omega)) rfl ?_
   refine G.q (Quiet.add rfl rfl (by omega)) rfl ?_
   refine G.oq (OpSpec.call Tryz.func97 rfl rfl (vs := [_, _]) rfl (fits_spec x d (.slice arr ω.recs.length crr) ω.synced (.slice abb (laidZ ω.recs).length cbb) ω.area ω.count ω.a ω.b ω.doubt δ ((laidZ ω.recs).length + s.length + 6) hn)) ?nx27
   rintro v L' ⟨rfl, rfl⟩
   refine G.q (Quiet.not rfl) rfl (G.ag rfl rfl (G.nil (G.then_n ?_)))
   refine G.condN rfl (fun h17 => ?_) (fun h17 => ?_)
   ·refine G.seq (G.region ?_)
    refine G.oq (OpSpec.store rfl rfl rfl sz_25 ?c30 ?c31) ?nx32
    case c30 => first | decide | (simp; omega) | simp
    case c31 => exact nfz0 _ _
    rintro v L' rfl
    refine G.nil ?_
    refine G.ptCast (b := be) (l' := [vint 30]) (by (repeat' constructor)) rfl ?_
    refine G.then_n (G.ret (G.blk_r (G.then_r ?_)))
    refine G.doneD Tryz.func96 rfl rfl (doubts_spec x d (.slice arr ω.recs.length crr) ω.synced (.slice abb (laidZ ω.recs).length cbb) ω.area ω.count ω.a ω.b ω.doubt be 30) (by (repeat' constructor)) ?_
    rintro u L' ⟨rfl, rfl⟩
    have e : appendZ δ ω s = (δ, ω, 30) := by unfold appendZ; rw [if_neg hdb, if_neg hlong, if_pos h17]
    rw [e, if_neg (show ¬ (30 : Int) = 2 by decide)]
    refine G.wlFold (x := x) (d := d) (ω := ω) (by (repeat' constructor)) rfl rfl rfl rfl rfl ?_
    exact G.done1 rfl (.cell rfl ag_25 (by (repeat' constructor)) rfl) ⟨rfl, rfl⟩ (by (repeat' constructor)) (by (repeat' constructor))
   ·refine G.skip (G.blk_n (G.then_n (G.seq ?_)))
    have hrl := recZ_len s
    refine G.region (G.mv rfl rfl (G.q (Quiet.nilp rfl) rfl (G.q (Quiet.fieldAddr rfl fo_142_3) rfl ?_)))
    refine G.q (Quiet.ld rfl ag_125) rfl ?_
    refine G.oq (OpSpec.call Tryz.func98 rfl rfl (vs := [_]) rfl (cloneB_spec (.slice abb (laidZ ω.recs).length cbb) (laidZ ω.recs).length (bysL (laidZ ω.recs)) (bytR (.slice abb (laidZ ω.recs).length cbb) (laidZ ω.recs)) (fun h hp => slR_rd hp) (bysL_cell _) (by omega))) ?nx37
    rintro v L' ⟨⟨ac, cc, rfl⟩, rfl⟩
    refine G.mv rfl rfl ?_
    refine G.oq (OpSpec.call Tryz.func99 rfl rfl (vs := [_]) rfl (record_spec s (by omega))) ?nx40
    rintro v L' ⟨⟨ar, cr, rfl⟩, rfl⟩
    refine G.oq (OpSpec.append (n := (laidZ ω.recs).length) (m := (recZ s).length) (ys := bysL (recZ s)) (p := bytR (.slice ar (recZ s).length cr) (recZ s)) rfl rfl rfl el_125 (.inl ⟨_, Tryz.underlying125⟩) ze_5 rfl rfl ?hc42 ?hr43 ?hb44 (by decide)) ?nx45
    case hc42 => exact bysL_cell _
    case hr43 => exact fun h hp => slR_rd hp
    case hb44 => omega
    rintro v L' ⟨⟨a8, c8, rfl⟩, rfl⟩; rw [show (laidZ ω.recs).length + (recZ s).length = (laidZ ω.recs ++ recZ s).length by rw [List.length_append], show bysL (laidZ ω.recs) ++ bysL (recZ s) = bysL (laidZ ω.recs ++ recZ s) from (bysL_append _ _).symm]
    refine G.ag rfl rfl (G.nil (G.then_n (G.seq (G.seq ?_))))
    refine G.draw [11] [[0, 1, 2, 3, 4, 5, 6, 7, 8, 9, 10, 11], [12]] mixed (by kernel_rfl) ?_
    refine Phases.go [] (by (repeat' constructor)) ?_
    refine D.kw [11] rfl (Quiet.move rfl) ?_
    refine D.kw [2, 3, 4, 11] rfl (Quiet.move rfl) ?_
    refine D.kw [3, 4, 11] rfl (Quiet.nilp rfl) ?_
    refine D.kw [4, 11] rfl (Quiet.fieldAddr rfl fo_142_4) ?_
    refine D.kw [11] rfl (Quiet.ld rfl ag_3) ?_
    refine D.kw [11] rfl (Quiet.move rfl) ?_
    refine D.kw [7, 8, 9, 10, 11] rfl (Quiet.move rfl) ?_
    refine D.kw [8, 9, 10, 11] rfl (Quiet.nilp rfl) ?_
    refine D.kw [9, 10, 11] rfl (Quiet.fieldAddr rfl fo_142_3) ?_
    refine D.kw [10, 11] rfl (Quiet.ld rfl ag_125) ?_
    refine D.kw [11] rfl (Quiet.slen rfl Tryz.underlying125 rfl) ?_
    refine D.h rfl (by kernel_rfl) (OpSpec.call Tryz.func100 rfl rfl (vs := [_, _, _, _]) rfl (lay_spec4 x d (.slice arr ω.recs.length crr) ω.synced (.slice abb (laidZ ω.recs).length cbb) ω.area ω.count ω.a ω.b ω.doubt (.slice a8 (laidZ ω.recs ++ recZ s).length c8) δ ω.area (laidZ ω.recs ++ recZ s) (laidZ ω.recs).length (bytR (.slice a8 (laidZ ω.recs ++ recZ s).length c8) (laidZ ω.recs ++ recZ s)) hn har (by omega) (fun h hp => slR_rd hp) (by rw [List.length_append]; omega) (by rw [List.length_append]; omega))) (by (repeat' constructor)) ?nx57
    rintro v L' ⟨rfl, rfl⟩
    refine D.ph ?_
    refine Phases.go [] (by (repeat' constructor)) ?_
    refine D.kw [] rfl (Quiet.assign rfl) ?_
    refine D.ph (Phases.fin (G.then_n (G.seq (G.region (G.mv rfl rfl (G.q (Quiet.int rfl rfl rfl) rfl (G.nil (G.then_n ?_))))))))
    refine G.condN rfl (fun h51 => ?_) (fun h51 => ?_)
    ·refine G.seq (G.region (G.mv rfl rfl ?_))
     refine G.oq (OpSpec.store rfl rfl rfl sz_25 ?c60 ?c61) ?nx62
     case c60 => first | decide | (simp; omega) | simp
     case c61 => exact nfz0 _ _
     rintro v L' rfl
     refine G.nil ?_
     refine G.ptCast (b := be) (l' := [vint (layZ δ ω.area (laidZ ω.recs ++ recZ s) (laidZ ω.recs).length).2]) (by (repeat' constructor)) rfl ?_
     refine G.then_n (G.ret (G.then_r ?_))
     refine G.doneD Tryz.func96 rfl rfl (doubts_spec x d (.slice arr ω.recs.length crr) ω.synced (.slice abb (laidZ ω.recs).length cbb) ω.area ω.count ω.a ω.b ω.doubt be (layZ δ ω.area (laidZ ω.recs ++ recZ s) (laidZ ω.recs).length).2) (by (repeat' constructor)) ?_
     rintro u L' ⟨rfl, rfl⟩
     have h2 : (layZ δ ω.area (laidZ ω.recs ++ recZ s) (laidZ ω.recs).length).2 = 2 := by rcases layZ_err δ ω.area (laidZ ω.recs ++ recZ s) (laidZ ω.recs).length with h | h; exact absurd h (by simpa using h51); exact h
     have e : appendZ δ ω s = ((layZ δ ω.area (laidZ ω.recs ++ recZ s) (laidZ ω.recs).length).1, { ω with doubt := true }, 2) := by unfold appendZ; rw [if_neg hdb, if_neg hlong, if_neg (fun h => h h17), if_pos (by simpa using h51), h2]; rfl
     rw [e, h2, if_pos rfl]
     refine G.wlFold (x := x) (d := d) (ω := { ω with doubt := true }) (by (repeat' constructor)) rfl rfl rfl rfl rfl ?_
     exact G.done1 rfl (.cell rfl ag_25 (by (repeat' constructor)) rfl) ⟨rfl, rfl⟩ (by (repeat' constructor)) (by (repeat' constructor))
    ·refine G.skip (G.then_n (G.seq (G.region (G.mv rfl rfl (G.mv rfl rfl (G.mv rfl rfl (G.q (Quiet.nilp rfl) rfl (G.q (Quiet.fieldAddr rfl fo_142_1) rfl ?_))))))))
     refine G.q (Quiet.ld rfl ag_46) rfl ?_
     refine G.mv rfl rfl ?_
     refine G.oq (OpSpec.buildSlice1 (vs := [_]) el_46 ze_9 rfl rfl rfl rfl rfl (by decide)) ?nx70
     rintro v L' ⟨b12_7, rfl, rfl⟩
     refine G.oq (OpSpec.append1 rfl rfl rfl el_46 ze_9 rfl rfl ?c72 ?c73 (Nat.le_refl _) ?c74 (by decide)) ?nx75
     case c72 => (first | (simp [isCell]; done) | (simp [isCell, setAll, Value.cells]; done))
     case c73 => rfl
     case c74 => omega
     rintro v L' ⟨⟨a12_8, c12_8, rfl⟩, rfl⟩
     refine G.mv rfl rfl (G.q (Quiet.nilp rfl) rfl (G.q (Quiet.fieldAddr rfl fo_142_1) rfl ?_))
     refine G.oq (OpSpec.store rfl rfl rfl sz_46 ?c79 ?c80) ?nx81
     case c79 => first | decide | (simp; omega) | simp
     case c80 => exact nfz0 _ _
     rintro v L' rfl
     refine G.q (Quiet.nilp rfl) rfl (G.q (Quiet.fieldAddr rfl fo_142_3) rfl ?_)
     refine G.oq (OpSpec.store rfl rfl rfl sz_125 ?c84 ?c85) ?nx86
     case c84 => first | decide | (simp; omega) | simp
     case c85 => exact nfz0 _ _
     rintro v L' rfl
     refine G.nil (G.then_n (G.seq (G.region ?_)))
     refine G.oq (OpSpec.store rfl rfl rfl sz_25 ?c87 ?c88) ?nx89
     case c87 => first | decide | (simp; omega) | simp
     case c88 => exact nfz0 _ _
     rintro v L' rfl
     refine G.nil ?_
     refine G.ptCast (b := be) (l' := [vint 0]) (by (repeat' constructor)) rfl ?_
     refine G.then_n (G.ret ?_)
     refine G.doneD Tryz.func96 rfl rfl (doubts_spec x d _ _ _ _ _ _ _ _ be 0) (by (repeat' constructor)) ?_
     rintro u L' ⟨rfl, rfl⟩
     have e : appendZ δ ω s = ((layZ δ ω.area (laidZ ω.recs ++ recZ s) (laidZ ω.recs).length).1, { ω with recs := ω.recs ++ [s] }, 0) := by unfold appendZ; rw [if_neg hdb, if_neg hlong, if_neg (fun h => h h17), if_neg (by simpa using h51)]
     rw [e, if_neg (show ¬ (0 : Int) = 2 by decide)]
     refine G.wlFold (x := x) (d := d) (ω := { ω with recs := ω.recs ++ [s] }) (by (repeat' constructor)) rfl (by simp) (by simp [strs]) (by rw [laidZ_append]; simp [laidZ]) (by rw [laidZ_append]; simp [laidZ]) ?_
     exact G.done1 rfl (.cell rfl ag_25 (by (repeat' constructor)) rfl) ⟨rfl, rfl⟩ (by (repeat' constructor)) (by (repeat' constructor))

/- not in this seat -/
/- not in this seat -/
theorem wmarks_spec (x d : Nat) (ω : Wl) : Fn Tryz.prog 55 #[vptr x] [wlR x d ω] fun v L => v = .tuple #[vint ω.a, vint ω.b] ∧ L = [wlR x d ω] := by
 refine Fn.intro (vs := [vptr x]) Tryz.func55 rfl rfl ?_
 intro F W
 refine G.wlOpen (ω := ω) (by (repeat' constructor)) fun vr vb => ?_
 refine G.slAny (v := vr) (by (repeat' constructor)) fun arr crr e _ => ?_
 subst e
 refine G.slAny (v := vb) (by (repeat' constructor)) fun abb cbb e _ => ?_
 subst e
 refine G.seq (G.region (G.ag rfl rfl (G.ag rfl rfl (G.nil (G.then_n (G.seq ?_))))))
 refine G.draw [] [[0, 1, 2, 3, 4, 5, 6, 7, 8, 9]] mixed (by kernel_rfl) ?_
 refine Phases.go [] (by (repeat' constructor)) ?_
 refine D.kw [1, 2, 3, 8, 9] rfl (Quiet.move rfl) ?_
 refine D.kw [2, 3, 8, 9] rfl (Quiet.nilp rfl) ?_
 refine D.kw [3, 8, 9] rfl (Quiet.fieldAddr rfl fo_142_6) ?_
 refine D.kw [8, 9] rfl (Quiet.ld rfl ag_3) ?_
 refine D.kw [5, 6, 7, 9] rfl (Quiet.move rfl) ?_
 refine D.kw [6, 7, 9] rfl (Quiet.nilp rfl) ?_
 refine D.kw [7, 9] rfl (Quiet.fieldAddr rfl fo_142_7) ?_
 refine D.kw [9] rfl (Quiet.ld rfl ag_3) ?_
 refine D.kw [9] rfl (Quiet.assign rfl) ?_
 refine D.kw [] rfl (Quiet.assign rfl) ?_
 refine D.ph (Phases.fin (G.then_n (G.ret ?_)))
 refine G.wlFold (x := x) (d := d) (ω := ω) (by (repeat' constructor)) rfl rfl rfl rfl rfl ?_
 exact G.dn (l := [.tmp 2, .tmp 3]) rfl rfl ⟨rfl, rfl⟩

def roomZ (δ : Dk) (ω : Wl) : Int := max (-1) (min 4000 (64 * halfZ δ - (laidZ ω.recs).length - 6))
theorem wroom_spec (x d : Nat) (ω : Wl) (δ : Dk) (hn : 2 ≤ δ.now.length ∧ δ.now.length ≤ 32768) (hfit : (laidZ ω.recs).length ≤ 4000000) : Fn Tryz.prog 49 #[vptr x] [wlR x d ω, dkR d δ] fun v L => v = vint (roomZ δ ω) ∧ L = [wlR x d ω, dkR d δ] := by
 refine Fn.intro (vs := [vptr x]) Tryz.func49 rfl rfl ?_
 intro F W
 refine G.wlOpen (ω := ω) (by (repeat' constructor)) fun vr vb => ?_
 refine G.slAny (v := vr) (by (repeat' constructor)) fun arr crr e _ => ?_
 subst e
 refine G.slAny (v := vb) (by (repeat' constructor)) fun abb cbb e _ => ?_
 subst e
 have hh := half_le hn
 refine G.seq (G.region (G.ag rfl rfl (G.nil (G.then_n (G.seq ?_)))))
 refine G.draw [] [[0, 1, 2, 3, 4, 5, 6, 7, 8, 9, 10, 11, 12, 13, 14, 15]] mixed (by kernel_rfl) ?_
 refine Phases.go [ptc x _ _, dkR d δ] (by (repeat' constructor)) ?_
 refine D.kw [1, 2, 3, 4, 5, 11, 12, 13, 14, 15] rfl (Quiet.move rfl) ?_
 refine D.kw [2, 3, 4, 5, 11, 12, 13, 14, 15] rfl (Quiet.nilp rfl) ?_
 refine D.kw [3, 4, 5, 11, 12, 13, 14, 15] rfl (Quiet.fieldAddr rfl fo_142_0) ?_
 refine D.kw [4, 5, 11, 12, 13, 14, 15] rfl (Quiet.ld rfl ag_24) ?_
 refine D.m rfl (by kernel_rfl) (OpSpec.call Tryz.func109 rfl rfl (vs := [_]) rfl (half_spec d δ hn)) (by (repeat' constructor)) ?nx6
 refine D.kw [11, 12, 13, 14, 15] rfl (Quiet.mul rfl rfl (by omega)) ?_
 refine D.kw [7, 8, 9, 10, 11, 12, 13, 14, 15] rfl (Quiet.move rfl) ?_
 refine D.kw [8, 9, 10, 11, 12, 13, 14, 15] rfl (Quiet.nilp rfl) ?_
 refine D.kw [9, 10, 11, 12, 13, 14, 15] rfl (Quiet.fieldAddr rfl fo_142_3) ?_
 refine D.kw [10, 11, 12, 13, 14, 15] rfl (Quiet.ld rfl ag_125) ?_
 refine D.kw [11, 12, 13, 14, 15] rfl (Quiet.slen rfl Tryz.underlying125 rfl) ?_
 refine D.kw [12, 13, 14, 15] rfl (Quiet.sub rfl rfl (by omega)) ?_
 refine D.kw [13, 14, 15] rfl (Quiet.sub rfl rfl (by omega)) ?_
 refine D.kw [14, 15] rfl (Quiet.min2 rfl rfl) ?_
 refine D.kw [15] rfl (Quiet.max2 rfl rfl) ?_
 refine D.kw [] rfl (Quiet.assign rfl) ?_
 refine D.ph (Phases.fin (G.then_n (G.ret ?_)))
 refine G.wlFold (x := x) (d := d) (ω := ω) (by (repeat' constructor)) rfl rfl rfl rfl rfl ?_
 exact G.dn (l := [.tmp 2]) rfl rfl ⟨rfl, rfl⟩

theorem wrecords_spec (x d : Nat) (ω : Wl) (hl : ω.recs.length ≤ 4294967296) : Fn Tryz.prog 56 #[vptr x] [wlR x d ω] fun v L => (ω.doubt = true ∧ v = .tuple #[.slice none 0 0, vint 34] ∧ L = [wlR x d ω]) ∨ (ω.doubt = false ∧ ∃ a c, v = .tuple #[.slice a ω.recs.length c, vint 0] ∧ L = [wlR x d ω, strR (.slice a ω.recs.length c) ω.recs]) := by
 refine Fn.intro (vs := [vptr x]) Tryz.func56 rfl rfl ?_
 intro F W
 refine G.wlOpen (ω := ω) (by (repeat' constructor)) fun vr vb => ?_
 refine G.slAny (v := vr) (by (repeat' constructor)) fun arr crr e _ => ?_
 subst e
 refine G.slAny (v := vb) (by (repeat' constructor)) fun abb cbb e _ => ?_
 subst e
 refine G.seq (G.region (G.ag rfl rfl (G.ag rfl rfl (G.nil (G.then_n (G.seq (G.seq (G.region (G.mv rfl rfl (G.q (Quiet.nilp rfl) rfl (G.q (Quiet.fieldAddr rfl fo_142_8) rfl ?_)))))))))))
 refine G.q (Quiet.ld rfl ag_4) rfl ?_
 refine G.nil (G.then_n ?_)
 refine G.condB rfl (fun h7 => ?_) (fun h7 => ?_)
 ·refine G.seq (G.region (G.ag rfl rfl (G.ag rfl rfl (G.nil (G.then_n (G.ret (G.then_r ?_)))))))
  refine G.wlFold (x := x) (d := d) (ω := ω) (vr := (.slice arr ω.recs.length crr)) (by (repeat' constructor)) rfl rfl rfl rfl rfl ?_
  exact G.dn (l := [.tmp 2, .tmp 3]) rfl rfl (.inl ⟨h7, rfl, rfl⟩)
 ·refine G.skip (G.then_n (G.seq (G.region (G.mv rfl rfl (G.q (Quiet.nilp rfl) rfl (G.q (Quiet.fieldAddr rfl fo_142_1) rfl ?_))))))
  refine G.q (Quiet.ld rfl ag_46) rfl ?_
  refine G.oq (OpSpec.call Tryz.func116 rfl rfl (vs := [_]) rfl (cloneT_spec (.slice arr ω.recs.length crr) ω.recs.length (strs ω.recs) (strR (.slice arr ω.recs.length crr) ω.recs) (fun h hp => slR_rd hp) (strs_cell _) hl)) ?nx13
  rintro v L' ⟨⟨ac, cc, rfl⟩, rfl⟩
  refine G.oq (OpSpec.call Tryz.func115 rfl rfl (vs := [_]) rfl (clipT_spec _ _ _)) ?nx15
  rintro v L' ⟨⟨ad, cd, rfl⟩, rfl⟩
  refine G.ag rfl rfl (G.ag rfl rfl (G.nil (G.then_n (G.ret ?_))))
  refine G.wlFold (x := x) (d := d) (ω := ω) (vr := (.slice arr ω.recs.length crr)) (by (repeat' constructor)) rfl rfl rfl rfl rfl ?_
  exact G.dn (l := [.tmp 2, .tmp 3]) rfl rfl (.inr ⟨by simpa using h7, _, _, rfl, rfl⟩)

end Go.Proofs.YtidjhgbdokcphaaGreat

/- Own work, by program: Renew, Format: walked. -/

namespace Go.Proofs.YtidjhgbdokcphaaGreat
open Go
def mark1 : Mk := ⟨1, 0, 0, 0, 0, 0⟩
def fmtZ (δ : Dk) : Nat → Dk × Int
  | 0 => (δ, 0)
  | 1 => δ.write 0 zs
  | 2 => (δ.write 0 zs).1.write 1 mark1.sec
  | _ => ((δ.write 0 zs).1.write 1 mark1.sec).1.sync
def newW : Wl := ⟨[], 0, 0, 1, 0, 0, false⟩
def formatZ (δ : Dk) : Dk × Option Wl := if (fmtZ δ 1).2 ≠ 0 then ((fmtZ δ 1).1, none) else if (fmtZ δ 2).2 ≠ 0 then ((fmtZ δ 2).1, none) else if (fmtZ δ 3).2 ≠ 0 then ((fmtZ δ 3).1, none) else ((fmtZ δ 3).1, some newW)
theorem fmt1_spec (b1 d : Nat) (δ : Dk) (hA : δ.acts < 4611686018427387904) : Fn Tryz.prog 93 #[vptr b1] [ptc b1 [vptr d] 24, dkR d δ] fun v L => v = vint (δ.write 0 zs).2 ∧ L = [ptc b1 [vptr d] 24, dkR d (δ.write 0 zs).1] := by
 refine Fn.intro (vs := [vptr b1]) Tryz.func93 rfl rfl ?_
 intro F W
 refine G.seq (G.region (G.ag rfl rfl (G.nil (G.then_n (G.seq ?_)))))
 refine G.draw [1, 3] [[0, 1, 2], [3], [4]] mixed (by kernel_rfl) ?_
 refine Phases.go [ptc b1 [vptr d] 24] (by (repeat' constructor)) ?_
 refine D.k rfl (Quiet.ld rfl ag_24) ?_
 refine D.h rfl (by kernel_rfl) (OpSpec.make rfl rfl el_125 ze_5 rfl ⟨by simp, by simp; rfl⟩ ?hc3) (by (repeat' constructor)) ?nx4
 case hc3 => omega
 rintro v L' ⟨bz, rfl, rfl⟩; rw [show (64 : Int).toNat = 64 from rfl]
 refine D.kw [] rfl (Quiet.bytesPt (cs := zs) rfl Tryz.underlying125 Tryz.underlying5 Tryz.underlying9 (by (repeat' constructor)) rfl (by decide) (by decide)) ?_
 refine D.ph ?_
 refine Phases.go [] (by (repeat' constructor)) ?_
 refine D.h rfl (by kernel_rfl) (OpSpec.call Tryz.func23 rfl rfl (vs := [_, _, _]) rfl (write_spec d δ 0 zs hA)) (by (repeat' constructor)) ?nx7
 rintro v L' ⟨rfl, rfl⟩
 refine D.ph ?_
 refine Phases.go [] (by (repeat' constructor)) ?_
 refine D.kw [] rfl (Quiet.assign rfl) ?_
 refine D.ph (Phases.fin (G.then_n (G.ret ?_)))
 exact G.dn (l := [.tmp 1]) rfl rfl ⟨rfl, rfl⟩

theorem fmt2_spec (b1 d : Nat) (δ : Dk) (hA : δ.acts < 4611686018427387904) : Fn Tryz.prog 94 #[vptr b1] [ptc b1 [vptr d] 24, dkR d δ] fun v L => v = vint (δ.write 1 mark1.sec).2 ∧ L = [ptc b1 [vptr d] 24, dkR d (δ.write 1 mark1.sec).1] := by
 refine Fn.intro (vs := [vptr b1]) Tryz.func94 rfl rfl ?_
 intro F W
 refine G.seq (G.region (G.ag rfl rfl (G.nil (G.then_n (G.seq ?_)))))
 refine G.draw [3] [[0, 1, 2, 3], [4]] mixed (by kernel_rfl) ?_
 refine Phases.go [ptc b1 [vptr d] 24] (by (repeat' constructor)) ?_
 refine D.kw [3] rfl (Quiet.ld rfl ag_24) ?_
 refine D.kw [2, 3] rfl (Quiet.to (v' := .agg (mkC mark1).toArray) (Quiet.build (us := [(0, _)]) fl_139 ze_139 rfl rfl (by simp [isCell])) rfl) ?_
 refine D.m rfl (by kernel_rfl) (OpSpec.call Tryz.func95 rfl rfl (vs := [_]) rfl (sector_spec mark1)) (by (repeat' constructor)) ?nx4
 refine D.h rfl (by kernel_rfl) (OpSpec.call Tryz.func23 rfl rfl (vs := [_, _, _]) rfl (write_spec d δ 1 mark1.sec hA)) (by (repeat' constructor)) ?nx6
 rintro v L' ⟨rfl, rfl⟩
 refine D.ph ?_
 refine Phases.go [] (by (repeat' constructor)) ?_
 refine D.kw [] rfl (Quiet.assign rfl) ?_
 refine D.ph (Phases.fin (G.then_n (G.ret ?_)))
 exact G.dn (l := [.tmp 1]) rfl rfl ⟨rfl, rfl⟩

end Go.Proofs.YtidjhgbdokcphaaGreat

/- Own work, by program: Format: walked. -/

namespace Go.Proofs.YtidjhgbdokcphaaGreat
open Go
theorem fmtZ_keeps (δ : Dk) (i : Nat) : (fmtZ δ i).1.now.length = δ.now.length ∧ (fmtZ δ i).1.acts ≤ δ.acts + 3 := by
  have h1 := write_keeps δ 0 zs
  have h2 := write_keeps (δ.write 0 zs).1 1 mark1.sec
  have h3 := sync_keeps ((δ.write 0 zs).1.write 1 mark1.sec).1
  match i with
  | 0 => exact ⟨rfl, by show δ.acts ≤ _; omega⟩
  | 1 => exact ⟨h1.1, by show (δ.write 0 zs).1.acts ≤ _; omega⟩
  | 2 => exact ⟨by show ((δ.write 0 zs).1.write 1 mark1.sec).1.now.length = _; omega, by show ((δ.write 0 zs).1.write 1 mark1.sec).1.acts ≤ _; omega⟩
  | (n + 3) => exact ⟨by show (((δ.write 0 zs).1.write 1 mark1.sec).1.sync).1.now.length = _; rw [h3.1]; omega, by show (((δ.write 0 zs).1.write 1 mark1.sec).1.sync).1.acts ≤ _; omega⟩
theorem ze_67 : zeroOf Tryz.prog 67 = some .nilFunc := by kernel_rfl
theorem ag_67 : aggOf Tryz.prog 67 = some none := by kernel_rfl
theorem format_spec (d : Nat) (δ : Dk) (hA : δ.acts + 10 < 4611686018427387904) : Fn Tryz.prog 44 #[vptr d] [dkR d δ] fun v L => ((formatZ δ).2 = none ∧ v = .tuple #[.pointer none, vint 2] ∧ L = [dkR d (formatZ δ).1]) ∨
    ((formatZ δ).2 = some newW ∧ ∃ x, v = .tuple #[vptr x, vint 0] ∧ L = [dkR d (formatZ δ).1, wlR x d newW]) := by
 refine Fn.intro (vs := [vptr d]) Tryz.func44 rfl rfl ?_
 intro F W
 have hk := fmtZ_keeps δ
 refine G.seq (G.region ?_)
 refine G.oq (OpSpec.box rfl) ?nx1
 rintro v L' ⟨b1, rfl, rfl⟩
 refine G.ag rfl rfl (G.ag rfl rfl (G.nil ?_))
 refine G.ptCast (b := b1) (l' := [vptr d]) (by (repeat' constructor)) rfl ?_
 refine G.then_n (G.seq (G.seq (G.region ?_)))
 refine G.q (Quiet.ld rfl ag_24) rfl ?_
 refine G.q (Quiet.ptreq rfl rfl Tryz.underlying24) rfl (G.nil (G.then_n (G.condF rfl (G.skip (G.then_n (G.seq (G.seq (G.region (G.q (Quiet.func (us := []) (vs := [_]) rfl rfl) rfl (G.q (Quiet.func (us := []) (vs := [_]) rfl rfl) rfl ?_))))))))))
 refine G.q (Quiet.ld rfl ag_24) rfl ?_
 refine G.q (Quiet.func (us := [_]) (vs := []) rfl rfl) rfl ?_
 refine G.oq (OpSpec.buildSlice1 (vs := [_, _, _]) el_140 ze_67 rfl rfl rfl rfl rfl (by decide)) ?nx11
 rintro v L' ⟨b3_4, rfl, rfl⟩
 refine G.q (Quiet.slen rfl Tryz.underlying140 rfl) rfl (G.mv rfl rfl (G.nil (G.then_n (G.block ?_))))
 refine G.loopK (ι := Nat) (fun q E => (14, vint q) :: E) (fun q => [dkR d (fmtZ δ q).1]) (fun q => q ≤ 3 ∧ ∀ j, j < q → (fmtZ δ (j + 1)).2 = 0) (fun q => 3 - q) (0) (ts := [1, 12, 13]) (.cons rfl (.cons rfl (.cons rfl (.nil)))) (⟨Nat.zero_le _, fun j hj => by omega⟩) ⟨rfl, rfl, rfl, rfl, trivial⟩ (by (repeat' constructor)) ?_
 rintro i ⟨hi, hb⟩
 refine G.seq (G.region (G.q (Quiet.int rfl rfl rfl) rfl (G.nil (G.then_n (G.seq ?_)))))
 refine G.condD rfl (fun h15 => ?_) (fun h15 => ?_)
 ·refine G.skip (G.then_n (G.seq (G.block (G.seq (G.region ?_)))))
  rcases (show i = 0 ∨ i = 1 ∨ i = 2 by omega) with rfl | rfl | rfl
  ·refine G.q (Quiet.indexAddr rfl rfl el_140 (by omega)) rfl ?_
   refine G.q (Quiet.ld rfl ag_67) rfl ?_
   refine G.ag rfl rfl (G.nil (G.then_n (G.seq (G.region (G.mv rfl rfl ?_)))))
   refine G.oq (OpSpec.callV Tryz.func93 rfl rfl (us := []) (vs := []) (ws := [_]) rfl rfl (fmt1_spec b1 d δ (by omega))) ?nx18
   rintro v L' ⟨rfl, rfl⟩
   refine G.q (Quiet.int rfl rfl rfl) rfl (G.nil (G.then_n ?_))
   refine G.condN rfl (fun h20 => ?_) (fun h20 => ?_)
   ·refine G.seq (G.region (G.ag rfl rfl (G.ag rfl rfl (G.nil (G.then_n (G.ret (G.blk_r (G.then_r (G.then_r (G.blk_r (G.then_r ?_)))))))))))
    have hF : formatZ δ = ((fmtZ δ 1).1, none) := by unfold formatZ; rw [if_pos (show (fmtZ δ 1).2 ≠ 0 from h20)]
    exact G.dn (l := [.tmp 2, .tmp 3]) rfl rfl (.inl ⟨by rw [hF], rfl, by rw [hF]⟩)
   ·refine G.skip (G.blk_n (G.then_n (G.region ?_)))
    refine G.q (Quiet.add rfl rfl (by omega)) rfl ?_
    refine G.mv rfl rfl (G.nil (G.then_n ?_))
    exact G.roundK (1) (⟨by omega, fun j hj => by rcases Nat.lt_or_ge j 0 with h | h; exact hb j h; obtain rfl : j = 0 := (by omega); exact h20⟩) (by omega) ⟨rfl, rfl, rfl, rfl, trivial⟩ (by (repeat' constructor)) (by ((repeat (apply Have.cons; (repeat (first | exact Pick.here | apply Pick.there)))); apply Have.base; repeat' constructor))
  ·refine G.q (Quiet.indexAddr rfl rfl el_140 (by omega)) rfl ?_
   refine G.q (Quiet.ld rfl ag_67) rfl ?_
   refine G.ag rfl rfl (G.nil (G.then_n (G.seq (G.region (G.mv rfl rfl ?_)))))
   refine G.oq (OpSpec.callV Tryz.func94 rfl rfl (us := []) (vs := []) (ws := [_]) rfl rfl (fmt2_spec b1 d (fmtZ δ 1).1 (by have := (fmtZ_keeps δ 1).2; omega))) ?nx26
   rintro v L' ⟨rfl, rfl⟩
   refine G.q (Quiet.int rfl rfl rfl) rfl (G.nil (G.then_n ?_))
   refine G.condN rfl (fun h20 => ?_) (fun h20 => ?_)
   ·refine G.seq (G.region (G.ag rfl rfl (G.ag rfl rfl (G.nil (G.then_n (G.ret (G.blk_r (G.then_r (G.then_r (G.blk_r (G.then_r ?_)))))))))))
    have hF : formatZ δ = ((fmtZ δ 2).1, none) := by unfold formatZ; rw [if_neg (by rw [hb 0 (by omega)]; decide), if_pos (show (fmtZ δ 2).2 ≠ 0 from h20)]
    exact G.dn (l := [.tmp 2, .tmp 3]) rfl rfl (.inl ⟨by rw [hF], rfl, by rw [hF]⟩)
   ·refine G.skip (G.blk_n (G.then_n (G.region ?_)))
    refine G.q (Quiet.add rfl rfl (by omega)) rfl ?_
    refine G.mv rfl rfl (G.nil (G.then_n ?_))
    exact G.roundK (2) (⟨by omega, fun j hj => by rcases Nat.lt_or_ge j 1 with h | h; exact hb j h; obtain rfl : j = 1 := (by omega); exact h20⟩) (by omega) ⟨rfl, rfl, rfl, rfl, trivial⟩ (by (repeat' constructor)) (by ((repeat (apply Have.cons; (repeat (first | exact Pick.here | apply Pick.there)))); apply Have.base; repeat' constructor))
  ·refine G.q (Quiet.indexAddr rfl rfl el_140 (by omega)) rfl ?_
   refine G.q (Quiet.ld rfl ag_67) rfl ?_
   refine G.ag rfl rfl (G.nil (G.then_n (G.seq (G.region (G.mv rfl rfl ?_)))))
   refine G.oq (OpSpec.callV Tryz.func86 rfl rfl (us := [_]) (vs := []) (ws := []) rfl rfl (sync_spec d (fmtZ δ 2).1 ?hA34)) ?nx35
   case hA34 => have := (fmtZ_keeps δ 2).2; omega
   rintro v L' ⟨rfl, rfl⟩
   refine G.q (Quiet.int rfl rfl rfl) rfl (G.nil (G.then_n ?_))
   refine G.condN rfl (fun h20 => ?_) (fun h20 => ?_)
   ·refine G.seq (G.region (G.ag rfl rfl (G.ag rfl rfl (G.nil (G.then_n (G.ret (G.blk_r (G.then_r (G.then_r (G.blk_r (G.then_r ?_)))))))))))
    have hF : formatZ δ = ((fmtZ δ 3).1, none) := by unfold formatZ; rw [if_neg (by rw [hb 0 (by omega)]; decide), if_neg (by rw [hb 1 (by omega)]; decide), if_pos (show (fmtZ δ 3).2 ≠ 0 from h20)]
    exact G.dn (l := [.tmp 2, .tmp 3]) rfl rfl (.inl ⟨by rw [hF], rfl, by rw [hF]⟩)
   ·refine G.skip (G.blk_n (G.then_n (G.region ?_)))
    refine G.q (Quiet.add rfl rfl (by omega)) rfl ?_
    refine G.mv rfl rfl (G.nil (G.then_n ?_))
    exact G.roundK (3) (⟨by omega, fun j hj => by rcases Nat.lt_or_ge j 2 with h | h; exact hb j h; obtain rfl : j = 2 := (by omega); exact h20⟩) (by omega) ⟨rfl, rfl, rfl, rfl, trivial⟩ (by (repeat' constructor)) (by ((repeat (apply Have.cons; (repeat (first | exact Pick.here | apply Pick.there)))); apply Have.base; repeat' constructor))
 ·refine G.exit (G.then_e (G.then_e (G.blk_e (G.then_n (G.seq ?_)))))
  obtain rfl : i = 3 := by omega
  refine G.add (slR_nil 9 1) (G.add (slR_nil 5 1) (G.region ?_))
  refine G.q (Quiet.ld rfl ag_24) rfl ?_
  refine G.q (Quiet.build (us := [(0, _), (5, _)]) fl_142 ze_142 rfl rfl (by simp [isCell])) rfl ?_
  refine G.oq (OpSpec.box rfl) ?nx43
  rintro v L' ⟨x, rfl, rfl⟩
  refine G.ag rfl rfl (G.ag rfl rfl (G.nil ?_))
  refine G.ptCast (b := x) (l' := [vptr d, .slice none 0 0, vint 0, .slice none 0 0, vint 0, vint 1, vint 0, vint 0, .bool false]) (by (repeat' constructor)) rfl ?_
  refine G.then_n (G.ret ?_)
  have hF : formatZ δ = ((fmtZ δ 3).1, some newW) := by unfold formatZ; rw [if_neg (by rw [hb 0 (by omega)]; decide), if_neg (by rw [hb 1 (by omega)]; decide), if_neg (by rw [hb 2 (by omega)]; decide)]
  refine G.wlFold (x := x) (d := d) (ω := newW) (by (repeat' constructor)) rfl rfl rfl rfl rfl ?_
  exact G.dn (l := [.tmp 2, .tmp 3]) rfl rfl (.inr ⟨by rw [hF], x, rfl, by rw [hF]⟩)

end Go.Proofs.YtidjhgbdokcphaaGreat

/- Own work: the helpers of law 04, as plain data. -/

namespace Go.Proofs.YtidjhgbdokcphaaGreat
open Go

end Go.Proofs.YtidjhgbdokcphaaGreat

/- Own work: nothing: stands for the walks of law 04, in a seat that has none. -/
/- Own work: what a call of a log does, what a log tells, as plain data. -/

namespace Go.Proofs.YtidjhgbdokcphaaGreat
open Go

end Go.Proofs.YtidjhgbdokcphaaGreat

/- Own work: nothing: stands for the walks of law 04, in a seat that has none. -/
/- Own work: the first example of law 04, reckoned. -/

namespace Go.Proofs.YtidjhgbdokcphaaGreat
open Go

def ab : Bs := [97, 98]
section
variable {W : World} {n : Nat} {ds : List Deferred} {E : Env} {L R : List HP} {X : Act → World → Prop}
theorem G.dkOk {d : Nat} {δ : Dk} (hL : Pick (dkR d δ) L R) (h : δ.Ok → G W n ds E L X) : G W n ds E L X := by
  intro ac w he hk hs
  obtain ⟨g1, -, hp⟩ := sep_head (hs.pick hL)
  obtain ⟨x, hok, -⟩ := hp
  exact h hok ac w he hk hs
end
end Go.Proofs.YtidjhgbdokcphaaGreat

/- Own work: nothing: stands for the walks of law 04, in a seat that has none. -/
/- Own work: a disk that does not die: what the calls of a log do there. -/

namespace Go.Proofs.YtidjhgbdokcphaaGreat
open Go

structure Al (δ : Dk) : Prop where
  dead : δ.dead = false
  left : δ.left = 0
theorem al_act {δ : Dk} (h : Al δ) : δ.act.2 = 0 ∧ Al δ.act.1 := by
  obtain ⟨h1, h2⟩ := h
  exact ⟨by simp [Dk.act, actE, h2], by simp [Dk.act, actD, h1, h2], by simp [Dk.act, actL, h2]⟩
theorem al_write {δ : Dk} (h : Al δ) {n : Int} {s : Bs} (hn : 0 ≤ n ∧ n < δ.now.length) (hs : s.length = 64) : (δ.write n s).2 = 0 ∧ Al (δ.write n s).1 ∧ (δ.write n s).1.now = δ.now.set n.toNat s := by
  have hh : δ.has n = true := by simp [Dk.has, hn.1, hn.2]
  have hp : Al (δ.put n s) := ⟨h.dead, h.left⟩
  have e : δ.write n s = (δ.put n s).act := by unfold Dk.write; rw [if_neg (by rw [h.dead]; decide), if_neg (by rw [hh]; simp [hs])]
  rw [e]
  exact ⟨(al_act hp).1, (al_act hp).2, rfl⟩
theorem al_sync {δ : Dk} (h : Al δ) : δ.sync.2 = 0 ∧ Al δ.sync.1 ∧ δ.sync.1.now = δ.now := by
  have e : δ.sync = ({ δ.act.1 with old := [] }, 0) := by unfold Dk.sync; rw [if_neg (by rw [h.dead]; decide), if_pos (al_act h).1]
  rw [e]
  exact ⟨rfl, ⟨(al_act h).2.dead, (al_act h).2.left⟩, rfl⟩
theorem lay_in {δ : Dk} {area : Int} {all : Bs} {i : Nat} (ha : 0 ≤ area ∧ area ≤ 1) (hn : 2 ≤ δ.now.length) (hl : (all.length : Int) ≤ 64 * halfZ δ) (hi : i * 64 < all.length) : 2 ≤ 2 + area * halfZ δ + i ∧ 2 + area * halfZ δ + i < δ.now.length := by
  have e : halfZ δ = ((δ.now.length : Int) - 2) / 2 := rfl
  generalize halfZ δ = k at *
  rcases (by omega : area = 0 ∨ area = 1) with rfl | rfl <;> omega
theorem al_lay : ∀ (f : Nat) (δ : Dk) (area : Int) (all : Bs) (i : Nat), Al δ → 0 ≤ area ∧ area ≤ 1 → 2 ≤ δ.now.length → (all.length : Int) ≤ 64 * halfZ δ → (layF f δ area all i).2 = 0 ∧ Al (layF f δ area all i).1 := by
  intro f
  induction f with
  | zero => intro δ area all i h _ _ _; exact ⟨rfl, h⟩
  | succ f ih =>
    intro δ area all i h ha hn hl
    simp only [layF]
    split
    · rename_i hi
      have hr := lay_in ha hn hl hi
      obtain ⟨w1, w2, w3⟩ := al_write h (n := 2 + area * halfZ δ + i) (s := laySec all i) ⟨by omega, hr.2⟩ (laySec_len _ _)
      rw [if_neg (by rw [w1]; decide)]
      have hlen : (δ.write (2 + area * halfZ δ + i) (laySec all i)).1.now.length = δ.now.length := (write_keeps _ _ _).1
      exact ih _ _ _ _ w2 ha (by rw [hlen]; exact hn) (by rw [halfZ_of hlen]; exact hl)
    · exact ⟨rfl, h⟩
theorem sec_len4 (m : Mk) : m.sec.length = 64 := by simp [Mk.sec, beB_len]
theorem al_next {δ : Dk} (h : Al δ) (hn : 2 ≤ δ.now.length) (m : Mk) : (nextZ δ m).2 = 0 ∧ Al (nextZ δ m).1 ∧ (nextZ δ m).1.now = δ.now.set (m.count % 2).toNat m.sec := by
  obtain ⟨w1, w2, w3⟩ := al_write h (n := m.count % 2) (s := m.sec) ⟨by omega, by omega⟩ (sec_len4 m)
  obtain ⟨s1, s2, s3⟩ := al_sync w2
  unfold nextZ
  rw [if_neg (by rw [w1]; decide), if_neg (by rw [s1]; decide)]
  exact ⟨rfl, s2, s3.trans w3⟩
theorem al_seal {δ : Dk} (h : Al δ) (hn : 2 ≤ δ.now.length) (ω : Wl) (area : Int) (l : List Bs) : ∃ δ', sealZ δ ω area l = (δ', { ω with recs := l, synced := l.length, area := area, count := ω.count + 1 }, 0) ∧ Al δ' ∧ δ'.now = δ.now.set ((ω.count + 1) % 2).toNat (ω.mark area l ω.a ω.b).sec ∧ δ'.acts ≤ δ.acts + 3 := by
  obtain ⟨s1, s2, s3⟩ := al_sync h
  have sk := sync_keeps δ
  obtain ⟨n1, n2, n3⟩ := al_next s2 (by rw [s3]; exact hn) (ω.mark area l ω.a ω.b)
  have nk := nextZ_keeps δ.sync.1 (ω.mark area l ω.a ω.b)
  refine ⟨(nextZ δ.sync.1 (ω.mark area l ω.a ω.b)).1, ?_, n2, by rw [n3, s3]; rfl, by omega⟩
  unfold sealZ
  rw [if_neg (by rw [s1]; decide), if_neg (by rw [n1]; decide)]
structure Well (δ : Dk) (ω : Wl) (N : Int) : Prop where
  al : Al δ
  doubt : ω.doubt = false
  size : 2 ≤ δ.now.length ∧ δ.now.length ≤ 32768
  acts : δ.acts ≤ N
  area : 0 ≤ ω.area ∧ ω.area ≤ 1
  count : 0 ≤ ω.count ∧ ω.count ≤ 4294967295
  synced : 0 ≤ ω.synced ∧ ω.synced ≤ ω.recs.length
  fits : ((laidZ ω.recs).length : Int) ≤ 64 * halfZ δ
theorem Well.i {δ : Dk} {ω : Wl} {N : Int} (h : Well δ ω N) (hN : N ≤ 1000000000000) : WlI δ ω := ⟨h.size, by have := h.acts; omega, h.area, h.count, h.synced, h.fits⟩
theorem Well.more {δ : Dk} {ω : Wl} {N M : Int} (h : Well δ ω N) (hN : N ≤ M) : Well δ ω M := ⟨h.al, h.doubt, h.size, by have := h.acts; omega, h.area, h.count, h.synced, h.fits⟩
theorem layZ_keeps (δ : Dk) (area : Int) (all : Bs) (frm : Nat) : (layZ δ area all frm).1.now.length = δ.now.length ∧ (layZ δ area all frm).1.acts ≤ δ.acts + (all.length + 1) := by
  have := layF_keeps (all.length + 1) δ area all (frm / 64)
  exact ⟨this.1, by have := this.2; show (layF _ _ _ _ _).1.acts ≤ _; omega⟩
theorem laid_take_le (l : List Bs) (k : Nat) : (laidZ (l.take k)).length ≤ (laidZ l).length := laidZ_take_len l k
theorem well_append {δ : Dk} {ω : Wl} {N : Int} (h : Well δ ω N) (s : Bs) :
    Well (appendZ δ ω s).1 (appendZ δ ω s).2.1 (N + 2000000) ∧ (appendZ δ ω s).1.now.length = δ.now.length ∧
    ((s.length ≤ 4000 ∧ ((laidZ ω.recs).length : Int) + s.length + 6 ≤ 64 * halfZ δ ∧ (appendZ δ ω s).2 = ({ ω with recs := ω.recs ++ [s] }, 0)) ∨
     (s.length > 4000 ∧ appendZ δ ω s = (δ, ω, 33)) ∨ (s.length ≤ 4000 ∧ ¬ ((laidZ ω.recs).length : Int) + s.length + 6 ≤ 64 * halfZ δ ∧ appendZ δ ω s = (δ, ω, 30))) := by
  have hm := h.more (M := N + 2000000) (by omega)
  by_cases h1 : s.length > 4000
  · have e : appendZ δ ω s = (δ, ω, 33) := by unfold appendZ; rw [if_neg (by rw [h.doubt]; decide), if_pos h1]
    rw [e]; exact ⟨hm, rfl, .inr (.inl ⟨h1, rfl⟩)⟩
  by_cases h2 : ((laidZ ω.recs).length : Int) + s.length + 6 ≤ 64 * halfZ δ
  · have hl : (laidZ ω.recs ++ recZ s).length = (laidZ ω.recs).length + s.length + 6 := by rw [List.length_append, recZ_len]; omega
    have hh := half_le h.size
    obtain ⟨a1, a2⟩ := al_lay ((laidZ ω.recs ++ recZ s).length + 1) δ ω.area (laidZ ω.recs ++ recZ s) ((laidZ ω.recs).length / 64) h.al h.area h.size.1 (by omega)
    have ak := layZ_keeps δ ω.area (laidZ ω.recs ++ recZ s) (laidZ ω.recs).length
    have e : appendZ δ ω s = ((layZ δ ω.area (laidZ ω.recs ++ recZ s) (laidZ ω.recs).length).1, { ω with recs := ω.recs ++ [s] }, 0) := by
      unfold appendZ; rw [if_neg (by rw [h.doubt]; decide), if_neg h1, if_neg (fun g => g h2), if_neg (by show ¬ (layF _ _ _ _ _).2 ≠ 0; rw [a1]; decide)]
    rw [e]
    refine ⟨⟨a2, h.doubt, by rw [ak.1]; exact h.size, ?_, h.area, h.count, ?_, ?_⟩, ak.1, .inl ⟨by omega, h2, rfl⟩⟩
    · have := h.acts; have := ak.2; dsimp only; omega
    · have := h.synced; simp; omega
    · rw [halfZ_of ak.1]; show ((laidZ (ω.recs ++ [s])).length : Int) ≤ _
      rw [laidZ_append, show laidZ [s] = recZ s by simp [laidZ], hl]; omega
  · have e : appendZ δ ω s = (δ, ω, 30) := by unfold appendZ; rw [if_neg (by rw [h.doubt]; decide), if_neg h1, if_pos h2]
    rw [e]; exact ⟨hm, rfl, .inr (.inr ⟨by omega, h2, rfl⟩)⟩
theorem well_seal {δ : Dk} {ω : Wl} {N : Int} (h : Well δ ω N) (hc : ω.count ≠ 4294967295) {area : Int} (ha : 0 ≤ area ∧ area ≤ 1) {l : List Bs} (hl : ((laidZ l).length : Int) ≤ 64 * halfZ δ) {δ1 : Dk} (h1 : Al δ1) (h2 : δ1.now.length = δ.now.length) (h3 : δ1.acts ≤ N + 1900000) :
    (dbt (sealZ δ1 ω area l)).2 = ({ ω with recs := l, synced := l.length, area := area, count := ω.count + 1 }, 0) ∧ Well (dbt (sealZ δ1 ω area l)).1 { ω with recs := l, synced := l.length, area := area, count := ω.count + 1 } (N + 2000000) ∧ (dbt (sealZ δ1 ω area l)).1.now = δ1.now.set ((ω.count + 1) % 2).toNat (ω.mark area l ω.a ω.b).sec := by
  obtain ⟨δ', e, a1, a2, a3⟩ := al_seal h1 (by rw [h2]; exact h.size.1) ω area l
  rw [e]
  have e2 : dbt (δ', { ω with recs := l, synced := l.length, area := area, count := ω.count + 1 }, 0) = (δ', { ω with recs := l, synced := l.length, area := area, count := ω.count + 1 }, 0) := rfl
  rw [e2]
  have hlen : δ'.now.length = δ.now.length := by rw [a2, List.length_set, h2]
  have := h.count
  refine ⟨rfl, ⟨a1, h.doubt, by rw [hlen]; exact h.size, ?_, ha, ?_, ?_, ?_⟩, a2⟩
  · dsimp only; omega
  · dsimp only; omega
  · dsimp only; omega
  · dsimp only; rw [halfZ_of hlen]; exact hl
structure Kept (δ : Dk) (ω : Wl) (N : Int) (r : Dk × Wl × Int) : Prop where
  well : Well r.1 r.2.1 (N + 2000000)
  len : r.1.now.length = δ.now.length
theorem Kept.same {δ : Dk} {ω : Wl} {N : Int} (h : Well δ ω N) {e : Int} : Kept δ ω N (δ, ω, e) := ⟨h.more (by omega), rfl⟩
theorem kept_seal {δ : Dk} {ω : Wl} {N : Int} (h : Well δ ω N) (hc : ω.count ≠ 4294967295) {area : Int} (ha : 0 ≤ area ∧ area ≤ 1) {l : List Bs} (hl : ((laidZ l).length : Int) ≤ 64 * halfZ δ) {δ1 : Dk} (h1 : Al δ1) (h2 : δ1.now.length = δ.now.length) (h3 : δ1.acts ≤ N + 1900000) : Kept δ ω N (dbt (sealZ δ1 ω area l)) := by
  obtain ⟨e, w, n⟩ := well_seal h hc ha hl h1 h2 h3
  exact ⟨by rw [e]; exact w, by rw [n, List.length_set, h2]⟩
theorem kept_sync {δ : Dk} {ω : Wl} {N : Int} (h : Well δ ω N) : Kept δ ω N (syncZ δ ω) := by
  unfold syncZ
  rw [if_neg (by rw [h.doubt]; decide)]
  split
  · exact .same h
  · split
    · exact .same h
    · rename_i hc
      exact kept_seal h hc h.area h.fits h.al rfl (by have := h.acts; omega)
theorem kept_renew {δ : Dk} {ω : Wl} {N : Int} (h : Well δ ω N) (l : List Bs) : Kept δ ω N (renewZ δ ω l) := by
  unfold renewZ
  rw [if_neg (by rw [h.doubt]; decide)]
  split
  · exact .same h
  · split
    · exact .same h
    · split
      · exact .same h
      · rename_i h1 h2 h3
        have hl : ((laidZ l).length : Int) ≤ 64 * halfZ δ := by omega
        have ha : 0 ≤ 1 - ω.area ∧ 1 - ω.area ≤ 1 := by have := h.area; omega
        have hh := half_le h.size
        obtain ⟨a1, a2⟩ := al_lay ((laidZ l).length + 1) δ (1 - ω.area) (laidZ l) (0 / 64) h.al ha h.size.1 hl
        have ak := layZ_keeps δ (1 - ω.area) (laidZ l) 0
        rw [if_neg (by show ¬ (layF _ _ _ _ _).2 ≠ 0; rw [a1]; decide)]
        exact kept_seal h (by omega) ha hl a2 ak.1 (by have := h.acts; have := ak.2; omega)
theorem kept_setm {δ : Dk} {ω : Wl} {N : Int} (h : Well δ ω N) (a b : Int) : Kept δ ω N (setmZ δ ω a b) := by
  unfold setmZ
  rw [if_neg (by rw [h.doubt]; decide)]
  split
  · exact .same h
  · split
    · exact .same h
    · rename_i h1 hc
      obtain ⟨n1, n2, n3⟩ := al_next h.al h.size.1 (ω.mark ω.area (ω.recs.take ω.synced.toNat) a b)
      have nk := nextZ_keeps δ (ω.mark ω.area (ω.recs.take ω.synced.toNat) a b)
      rw [if_neg (by rw [n1]; decide)]
      have := h.count; have := h.acts
      refine ⟨⟨n2, h.doubt, by dsimp only; rw [nk.1]; exact h.size, ?_, h.area, ?_, h.synced, ?_⟩, nk.1⟩
      · dsimp only; omega
      · dsimp only; omega
      · dsimp only; rw [halfZ_of nk.1]; exact h.fits
theorem new_al (n : Int) : Al (Dk.new n) := ⟨rfl, rfl⟩
theorem format_well {n : Int} (h : 16 ≤ n ∧ n ≤ 32768) : (formatZ (Dk.new n)).2 = some newW ∧ Well (formatZ (Dk.new n)).1 newW 3 ∧ (formatZ (Dk.new n)).1.now = ((Dk.new n).now.set 0 zs).set 1 mark1.sec := by
  have hl : (Dk.new n).now.length = n.toNat := by simp [Dk.new]
  obtain ⟨a1, a2, a3⟩ := al_write (new_al n) (n := 0) (s := zs) ⟨by omega, by omega⟩ rfl
  have e1 : (fmtZ (Dk.new n) 1) = (Dk.new n).write 0 zs := rfl
  have l1 : ((Dk.new n).write 0 zs).1.now.length = n.toNat := by rw [a3, List.length_set, hl]
  obtain ⟨b1, b2, b3⟩ := al_write a2 (n := 1) (s := mark1.sec) ⟨by omega, by omega⟩ (sec_len4 _)
  have l2 : (((Dk.new n).write 0 zs).1.write 1 mark1.sec).1.now.length = n.toNat := by rw [b3, List.length_set, l1]
  obtain ⟨c1, c2, c3⟩ := al_sync b2
  have e : formatZ (Dk.new n) = ((fmtZ (Dk.new n) 3).1, some newW) := by
    unfold formatZ
    rw [if_neg (by rw [e1, a1]; decide), if_neg (by show ¬ (((Dk.new n).write 0 zs).1.write 1 mark1.sec).2 ≠ 0; rw [b1]; decide), if_neg (by show ¬ ((((Dk.new n).write 0 zs).1.write 1 mark1.sec).1.sync).2 ≠ 0; rw [c1]; decide)]
  rw [e]
  have hk := fmtZ_keeps (Dk.new n) 3
  have h0 : (Dk.new n).acts = 0 := rfl
  have hn3 : (fmtZ (Dk.new n) 3).1.now = (((Dk.new n).write 0 zs).1.write 1 mark1.sec).1.now := c3
  have l3 : (fmtZ (Dk.new n) 3).1.now.length = n.toNat := by rw [hn3, l2]
  refine ⟨rfl, ⟨c2, rfl, by dsimp only; omega, by dsimp only; omega, ⟨by decide, by decide⟩, ⟨by decide, by decide⟩, ⟨by decide, by decide⟩, ?_⟩, ?_⟩
  · show ((0 : Nat) : Int) ≤ 64 * halfZ (fmtZ (Dk.new n) 3).1
    unfold halfZ; omega
  · show (fmtZ (Dk.new n) 3).1.now = _
    rw [hn3, b3, a3]; rfl
end Go.Proofs.YtidjhgbdokcphaaGreat

/- Own work: scripts of law 04 as they lie in memory. -/

namespace Go.Proofs.YtidjhgbdokcphaaGreat
open Go

def i64 (x : Int) : Prop := -9223372036854775808 ≤ x ∧ x ≤ 9223372036854775807
end Go.Proofs.YtidjhgbdokcphaaGreat

/- Own work: what is laid is found again: marks, records, areas. -/

namespace Go.Proofs.YtidjhgbdokcphaaGreat
open Go

theorem byteZ_nat (n : Int) : ((byteZ n).toNat : Int) = n % 256 := by
  unfold byteZ
  rw [UInt8.toNat_ofNat']
  omega
theorem beZ_beB : ∀ (k : Nat) (n : Int), 0 ≤ n → beZ (beB n k) 0 = n % 256 ^ k := by
  intro k
  induction k with
  | zero => intro n _; simp [beB, beZ]
  | succ k ih =>
    intro n hn
    have h1 := ih (n / 256) (by omega)
    rw [beB, beZ_append, h1]
    simp only [beZ]
    rw [byteZ_nat, Int.pow_succ, Int.mul_comm (256 ^ k) 256]
    have h2 : n / 256 % 256 ^ k * 256 + n % 256 = n % (256 * 256 ^ k) := by
      have hp : (0 : Int) < 256 ^ k := Int.pow_pos (by decide)
      generalize (256 : Int) ^ k = p at *
      have e1 := Int.emod_add_mul_ediv n (256 * p)
      have e2 := Int.emod_add_mul_ediv n 256
      have e3 := Int.emod_add_mul_ediv (n / 256) p
      have e4 : n / 256 / p = n / (256 * p) := Int.ediv_ediv_of_nonneg (by omega)
      rw [e4] at e3
      generalize n / (256 * p) = q at *
      have e5 : 256 * p * q = 256 * (p * q) := Int.mul_assoc _ _ _
      generalize p * q = r at *
      omega
    exact h2
theorem smallZ_beB {k : Nat} {n : Int} (h0 : 0 ≤ n) (h1 : n < 256 ^ k) (h2 : n ≤ 9223372036854775807) : smallZ (beB n k) = n := by
  unfold smallZ
  rw [beZ_beB k n h0, Int.emod_eq_of_lt h0 h1]
  exact i64w (by omega)
structure MkR (m : Mk) : Prop where
  count : 0 ≤ m.count ∧ m.count ≤ 4294967295
  area : 0 ≤ m.area ∧ m.area ≤ 1
  len : 0 ≤ m.len ∧ m.len ≤ 4294967295
  num : 0 ≤ m.num ∧ m.num ≤ 4294967295
  a : 0 ≤ m.a ∧ m.a ≤ 9223372036854775807
  b : 0 ≤ m.b ∧ m.b ≤ 9223372036854775807
theorem MkI.r {δ : Dk} {m : Mk} (h : MkI δ m) (hs : 2 ≤ δ.now.length ∧ δ.now.length ≤ 32768) : MkR m := by
  have := half_le hs
  obtain ⟨h1, h2, h3, h4, h5, h6⟩ := h
  exact ⟨by omega, h2, by omega, h4, h5, h6⟩
theorem sub_mid (p q r : Bs) {i j : Nat} (hi : i = p.length) (hj : j = p.length + q.length) : sub (p ++ q ++ r) i j = q := by
  subst hi; subst hj
  unfold sub
  rw [List.take_append_of_le_length (by simp), ← List.length_append, List.take_length, List.drop_left]
theorem parse_sec {m : Mk} (h : MkR m) : parseZ m.sec = m := by
  obtain ⟨h1, h2, h3, h4, h5, h6⟩ := h
  have e : (256 : Int) ^ 4 = 4294967296 ∧ (256 : Int) ^ 1 = 256 ∧ (256 : Int) ^ 8 = 18446744073709551616 := ⟨rfl, rfl, rfl⟩
  have a1 : sub m.sec 2 6 = beB m.count 4 := by
    rw [show m.sec = [87, 77] ++ beB m.count 4 ++ (beB m.area 1 ++ beB m.len 4 ++ beB m.num 4 ++ beB m.a 8 ++ beB m.b 8 ++ List.replicate 29 0 ++ beB m.count 4) by unfold Mk.sec; simp only [List.append_assoc]]
    exact sub_mid _ _ _ (by simp) (by simp [beB_len])
  have a2 : sub m.sec 6 7 = beB m.area 1 := by
    rw [show m.sec = ([87, 77] ++ beB m.count 4) ++ beB m.area 1 ++ (beB m.len 4 ++ beB m.num 4 ++ beB m.a 8 ++ beB m.b 8 ++ List.replicate 29 0 ++ beB m.count 4) by unfold Mk.sec; simp only [List.append_assoc]]
    exact sub_mid _ _ _ (by simp [beB_len]) (by simp [beB_len])
  have a3 : sub m.sec 7 11 = beB m.len 4 := by
    rw [show m.sec = ([87, 77] ++ beB m.count 4 ++ beB m.area 1) ++ beB m.len 4 ++ (beB m.num 4 ++ beB m.a 8 ++ beB m.b 8 ++ List.replicate 29 0 ++ beB m.count 4) by unfold Mk.sec; simp only [List.append_assoc]]
    exact sub_mid _ _ _ (by simp [beB_len]) (by simp [beB_len])
  have a4 : sub m.sec 11 15 = beB m.num 4 := by
    rw [show m.sec = ([87, 77] ++ beB m.count 4 ++ beB m.area 1 ++ beB m.len 4) ++ beB m.num 4 ++ (beB m.a 8 ++ beB m.b 8 ++ List.replicate 29 0 ++ beB m.count 4) by unfold Mk.sec; simp only [List.append_assoc]]
    exact sub_mid _ _ _ (by simp [beB_len]) (by simp [beB_len])
  have a5 : sub m.sec 15 23 = beB m.a 8 := by
    rw [show m.sec = ([87, 77] ++ beB m.count 4 ++ beB m.area 1 ++ beB m.len 4 ++ beB m.num 4) ++ beB m.a 8 ++ (beB m.b 8 ++ List.replicate 29 0 ++ beB m.count 4) by unfold Mk.sec; simp only [List.append_assoc]]
    exact sub_mid _ _ _ (by simp [beB_len]) (by simp [beB_len])
  have a6 : sub m.sec 23 31 = beB m.b 8 := by
    rw [show m.sec = ([87, 77] ++ beB m.count 4 ++ beB m.area 1 ++ beB m.len 4 ++ beB m.num 4 ++ beB m.a 8) ++ beB m.b 8 ++ (List.replicate 29 0 ++ beB m.count 4) by unfold Mk.sec; simp only [List.append_assoc]]
    exact sub_mid _ _ _ (by simp [beB_len]) (by simp [beB_len])
  unfold parseZ
  rw [a1, a2, a3, a4, a5, a6, smallZ_beB (by omega) (by omega) (by omega), smallZ_beB (by omega) (by omega) (by omega), smallZ_beB (by omega) (by omega) (by omega), smallZ_beB (by omega) (by omega) (by omega), smallZ_beB (by omega) (by omega) (by omega), smallZ_beB (by omega) (by omega) (by omega)]
theorem read_at {δ : Dk} (hd : δ.dead = false) {n : Int} (hn : 0 ≤ n ∧ n < δ.now.length) : δ.read n = (δ.now.getD n.toNat [], 0) := by
  have h2 : δ.has n = true := by simp [Dk.has, hn.1, hn.2]
  unfold Dk.read
  rw [hd, h2]; rfl
theorem found_sec {δ : Dk} (hd : δ.dead = false) (hs : 2 ≤ δ.now.length ∧ δ.now.length ≤ 32768) {m : Mk} (hm : MkI δ m) {n : Int} (hn : m.count % 2 = n) (hr : δ.now.getD n.toNat [] = m.sec) : foundZ δ n = some m := by
  have e := read_at hd (n := n) ⟨by omega, by omega⟩
  have hp := parse_sec (hm.r hs)
  obtain ⟨h1, h2, h3, h4, h5, h6⟩ := hm
  unfold foundZ
  rw [e, hr]
  dsimp only
  rw [if_neg (by decide), hp, if_neg]
  unfold badMk
  rintro (h | h | h | h | h | h | h)
  · omega
  · exact h hn
  · omega
  · omega
  · omega
  · omega
  · exact h rfl
theorem part_laid : ∀ (l : List Bs) (f : Nat) (out : List Bs) (num : Int), (∀ s ∈ l, s.length ≤ 4000) → (laidZ l).length < f → num = out.length + l.length → partF f (laidZ l) out num = some (out ++ l) := by
  intro l
  induction l with
  | nil =>
    intro f out num _ hf hn
    obtain ⟨g, rfl⟩ : ∃ g, f = g + 1 := ⟨f - 1, by omega⟩
    simp only [partF]
    rw [if_pos (by simp [laidZ]), if_pos (by simpa using hn.symm)]; simp
  | cons s l ih =>
    intro f out num hl hf hn
    obtain ⟨g, rfl⟩ : ∃ g, f = g + 1 := ⟨f - 1, by omega⟩
    have hs := hl s List.mem_cons_self
    have e : laidZ (s :: l) = recZ s ++ laidZ l := by simp [laidZ]
    have hrl := recZ_len s
    have hlen : (laidZ (s :: l)).length = s.length + 6 + (laidZ l).length := by rw [e, List.length_append, hrl]
    have hcl : (s :: l).length = l.length + 1 := rfl
    have e2 : recZ s ++ laidZ l = beB s.length 2 ++ s ++ (beB (sumZ (headZ s)) 4 ++ laidZ l) := by simp only [recZ, headZ, List.append_assoc]
    have t2 : (laidZ (s :: l)).take 2 = beB s.length 2 := by
      rw [e, e2, List.append_assoc, List.take_append_of_le_length (by simp [beB_len])]
      exact List.take_of_length_le (by simp [beB_len])
    have hp2 : (256 : Int) ^ 2 = 65536 := rfl
    have hsm : smallZ ((laidZ (s :: l)).take 2) = s.length := by rw [t2]; exact smallZ_beB (by omega) (by omega) (by omega)
    simp only [partF]
    rw [hsm]
    have hne : laidZ (s :: l) ≠ [] := fun h => by rw [h] at hlen; simp at hlen; omega
    rw [if_neg hne, if_neg (by omega), if_neg (by omega)]
    have hsub : sub (laidZ (s :: l)) 2 ((s.length : Int).toNat + 2) = s := by
      rw [e, e2]; exact sub_mid _ _ _ (by simp [beB_len]) (by simp [beB_len]; omega)
    have htk : (laidZ (s :: l)).take ((s.length : Int).toNat + 6) = recZ s := by
      rw [e, show (s.length : Int).toNat + 6 = (recZ s).length by rw [hrl]; omega, List.take_left]
    have hdr : (laidZ (s :: l)).drop ((s.length : Int).toNat + 6) = laidZ l := by
      rw [e, show (s.length : Int).toNat + 6 = (recZ s).length by rw [hrl]; omega, List.drop_left]
    rw [hsub, htk, if_neg (fun h => h rfl), hdr, ih g (out ++ [s]) num (fun x hx => hl x (List.mem_cons_of_mem _ hx)) (by omega) (by simp; omega)]
    simp
theorem partZ_of {l : List Bs} (h : ∀ s ∈ l, s.length ≤ 4000) : partZ (laidZ l) l.length = some l := by
  have := part_laid l ((laidZ l).length + 1) [] l.length h (by omega) (by simp)
  simpa [partZ] using this
end Go.Proofs.YtidjhgbdokcphaaGreat

/- Own work: a disk keeps what its log knows, as long as it lives. -/

namespace Go.Proofs.YtidjhgbdokcphaaGreat
open Go

def chunk (L : Bs) (i : Nat) : Bs := (L.drop (i * 64)).take 64
def Area (δ : Dk) (area : Int) (L : Bs) : Prop := ∀ i : Nat, (i : Int) < halfZ δ → chunk L i <+: δ.now.getD (2 + area * halfZ δ + (i : Int)).toNat []
theorem chunk_pre {L M : Bs} (h : L <+: M) (i : Nat) : chunk L i <+: chunk M i := by
  obtain ⟨r, rfl⟩ := h
  unfold chunk
  rw [List.drop_append, List.take_append]
  exact List.prefix_append _ _
theorem Area.less {δ : Dk} {area : Int} {L M : Bs} (h : Area δ area M) (hp : L <+: M) : Area δ area L := fun i hi => (chunk_pre hp i).trans (h i hi)
theorem area_pre {δ : Dk} (hok : δ.Ok) (hn : 2 ≤ δ.now.length) {area : Int} (ha : 0 ≤ area ∧ area ≤ 1) {L : Bs} (hA : Area δ area L) : ∀ n : Nat, (n : Int) ≤ halfZ δ → L.take (64 * n) <+: areaZ δ area n := by
  intro n
  induction n with
  | zero => intro _; simp
  | succ n ih =>
    intro hn2
    have h1 := ih (by omega)
    have hl := areaZ_len hok hn ha n (by omega)
    rw [areaZ_succ]
    by_cases hc : 64 * n ≤ L.length
    · have e1 : L.take (64 * n) = areaZ δ area n := List.IsPrefix.eq_of_length h1 (by rw [List.length_take, hl]; omega)
      have e2 : L.take (64 * (n + 1)) = L.take (64 * n) ++ chunk L n := by
        rw [show 64 * (n + 1) = 64 * n + 64 by omega, List.take_add, show 64 * n = n * 64 by omega]; rfl
      rw [e2, e1]
      obtain ⟨t, ht⟩ := hA n (by omega)
      exact ⟨t, by rw [List.append_assoc, ht]⟩
    · rw [List.take_of_length_le (by omega)] at h1 ⊢
      exact h1.trans (List.prefix_append _ _)
theorem area_take {δ : Dk} (hok : δ.Ok) (hn : 2 ≤ δ.now.length) {area : Int} (ha : 0 ≤ area ∧ area ≤ 1) {L : Bs} (hl : (L.length : Int) ≤ 64 * halfZ δ) (hA : Area δ area L) : (areaZ δ area ((L.length + 63) / 64)).take L.length = L := by
  have h1 := area_pre hok hn ha hA ((L.length + 63) / 64) (by omega)
  rw [List.take_of_length_le (by omega)] at h1
  exact (List.prefix_iff_eq_take.1 h1).symm
end Go.Proofs.YtidjhgbdokcphaaGreat

/- Own work: what lies on the disk of a log that is well; opened, it is the same log. -/

namespace Go.Proofs.YtidjhgbdokcphaaGreat
open Go

def Wl.now (ω : Wl) : Mk := ⟨ω.count, ω.area, (laidZ (ω.recs.take ω.synced.toNat)).length, ω.synced, ω.a, ω.b⟩
def mkAt (δ : Dk) (c : Int) : Bs := δ.now.getD (c % 2).toNat []
def TailC (c : Int) (X : Bs) : Prop := X.length = 64 ∧ (X.drop 60 = beB (c - 1) 4 ∨ (sub X 2 6 = beB (c + 1) 4 ∧ X.drop 60 ≠ beB (c + 1) 4))
theorem sec_sub (m : Mk) : sub m.sec 2 6 = beB m.count 4 := by
  rw [show m.sec = [87, 77] ++ beB m.count 4 ++ (beB m.area 1 ++ beB m.len 4 ++ beB m.num 4 ++ beB m.a 8 ++ beB m.b 8 ++ List.replicate 29 0 ++ beB m.count 4) by unfold Mk.sec; simp only [List.append_assoc]]
  exact sub_mid _ _ _ (by simp) (by simp [beB_len])
theorem sec_drop (m : Mk) : m.sec.drop 60 = beB m.count 4 := by
  unfold Mk.sec
  rw [List.drop_left' (by simp [beB_len])]
theorem be4_inj {a b : Int} (ha : 0 ≤ a ∧ a ≤ 4294967295) (hb : 0 ≤ b ∧ b ≤ 4294967295) (h : beB a 4 = beB b 4) : a = b := by
  have e : (256 : Int) ^ 4 = 4294967296 := rfl
  have h1 := smallZ_beB (k := 4) ha.1 (by omega) (by omega)
  have h2 := smallZ_beB (k := 4) hb.1 (by omega) (by omega)
  rw [← h1, ← h2, h]
theorem tail_found {δ : Dk} {n c : Int} {X : Bs} (hok : δ.Ok) (hd : δ.dead = false) (hn : 0 ≤ n ∧ n < δ.now.length) (hX : δ.now.getD n.toNat [] = X) (hc : 1 ≤ c ∧ c ≤ 4294967295) (ht : TailC c X) : foundZ δ n = none ∨ ∃ k, foundZ δ n = some k ∧ k.count < c := by
  rcases h : foundZ δ n with _ | k
  · exact .inl rfl
  · obtain ⟨h1, -, h3, -⟩ := foundZ_some hok h
    have hk := h1.count
    rw [read_at hd hn] at h3
    have h4 : X = k.sec := hX.symm.trans h3
    subst h4
    rcases ht.2 with h5 | ⟨h5, h6⟩
    · rw [sec_drop] at h5
      have := be4_inj ⟨by omega, by omega⟩ ⟨by omega, by omega⟩ h5
      exact .inr ⟨k, rfl, by omega⟩
    · rw [sec_sub] at h5
      rw [sec_drop] at h6
      exact absurd h5 h6
structure Kp (δ : Dk) (ω : Wl) : Prop where
  cnt : 1 ≤ ω.count
  a : 0 ≤ ω.a ∧ ω.a ≤ 9223372036854775807
  b : 0 ≤ ω.b ∧ ω.b ≤ 9223372036854775807
  long : ∀ s ∈ ω.recs, s.length ≤ 4000
  this : mkAt δ ω.count = ω.now.sec
  other : TailC ω.count (mkAt δ (ω.count + 1))
  area : Area δ ω.area (laidZ ω.recs)
theorem laid_pre (l : List Bs) (k : Nat) : laidZ (l.take k) <+: laidZ l := ⟨laidZ (l.drop k), by rw [← laidZ_append, List.take_append_drop]⟩
theorem Kp.mkI {δ : Dk} {ω : Wl} {N : Int} (h : Kp δ ω) (hW : Well δ ω N) : MkI δ ω.now := by
  have h1 := laid_take_le ω.recs ω.synced.toNat
  have h2 := hW.fits
  have h3 := laidZ_many ω.recs
  have h4 := half_le hW.size
  have h5 := hW.synced
  exact ⟨⟨h.cnt, hW.count.2⟩, hW.area, ⟨by show (0 : Int) ≤ ((laidZ _).length : Nat); omega, by show ((laidZ _).length : Int) ≤ _; omega⟩, ⟨h5.1, by show ω.synced ≤ _; omega⟩, h.a, h.b⟩
theorem best_of {δ : Dk} (m : Mk) (h1 : foundZ δ (m.count % 2) = some m) (h2 : foundZ δ ((m.count + 1) % 2) = none ∨ ∃ k, foundZ δ ((m.count + 1) % 2) = some k ∧ k.count < m.count) : bestZ δ = some m := by
  unfold bestZ
  rcases (by omega : m.count % 2 = 0 ∧ (m.count + 1) % 2 = 1 ∨ m.count % 2 = 1 ∧ (m.count + 1) % 2 = 0) with ⟨e1, e2⟩ | ⟨e1, e2⟩ <;> rw [e1] at h1 <;> rw [e2] at h2 <;> rw [h1] <;> rcases h2 with h2 | ⟨k, h2, h3⟩ <;> rw [h2]
  · dsimp only; rw [if_neg (by omega)]
  · dsimp only; rw [if_pos (by omega)]
theorem opened {δ : Dk} {ω : Wl} {N : Int} (h : Kp δ ω) (hW : Well δ ω N) (hok : δ.Ok) : openZ δ = some ⟨ω.recs.take ω.synced.toNat, ω.synced, ω.area, ω.count, ω.a, ω.b, false⟩ := by
  have hm := h.mkI hW
  have hs := hW.synced
  have hsz := hW.size
  have f1 : foundZ δ (ω.now.count % 2) = some ω.now := found_sec hW.al.dead hW.size hm rfl h.this
  have f2 : foundZ δ ((ω.now.count + 1) % 2) = none ∨ ∃ k, foundZ δ ((ω.now.count + 1) % 2) = some k ∧ k.count < ω.now.count :=
    tail_found hok hW.al.dead ⟨by omega, by omega⟩ rfl ⟨h.cnt, hW.count.2⟩ h.other
  rw [openZ_some (best_of _ f1 f2)]
  unfold openB
  have hA : Area δ ω.area (laidZ (ω.recs.take ω.synced.toNat)) := h.area.less (laid_pre _ _)
  have hlen := laid_take_le ω.recs ω.synced.toNat
  have hfit := hW.fits
  have hb : bytesZ δ ω.now = laidZ (ω.recs.take ω.synced.toNat) := area_take hok hW.size.1 hW.area (by omega) hA
  have hn : (ω.recs.take ω.synced.toNat).length = ω.synced.toNat := by rw [List.length_take]; omega
  have hz : ω.now.num = ((ω.recs.take ω.synced.toNat).length : Int) := by rw [hn]; show ω.synced = _; omega
  rw [hb, hz, partZ_of (fun s hs => h.long s (List.mem_of_mem_take hs))]
  dsimp only
  rw [hn, show ((ω.synced.toNat : Nat) : Int) = ω.synced by omega]
  rfl
end Go.Proofs.YtidjhgbdokcphaaGreat

/- Own work: what the document reads of a mark's sector; its logs and disks. -/
namespace Go.Proofs.YtidjhgbdokcphaaGreat
open Go

/-! ### Numbers -/
theorem beZ_ge : ∀ (s : Bs) (n : Int), 0 ≤ n → n * 256 ^ s.length ≤ beZ s n := by
  intro s
  induction s with
  | nil => intro n h; simp [beZ]
  | cons c s ih =>
    intro n h
    have h1 := ih (n * 256 + c.toNat) (by omega)
    simp only [beZ, List.length_cons]
    refine Int.le_trans ?_ h1
    rw [Int.pow_succ, Int.mul_comm (256 ^ s.length) 256, ← Int.mul_assoc]
    exact Int.mul_le_mul_of_nonneg_right (by omega) (Int.le_of_lt (Int.pow_pos (by decide)))
theorem beB_of : ∀ (k : Nat) (s : Bs), s.length = k → beB (beZ s 0) k = s := by
  intro k
  induction k with
  | zero => intro s h; rw [List.length_eq_zero_iff.1 h]; rfl
  | succ k ih =>
    intro s h
    rcases List.eq_nil_or_concat s with rfl | ⟨t, c, rfl⟩
    · cases h
    · rw [List.concat_eq_append] at h ⊢
      have ht : t.length = k := by simpa using h
      have h0 := beZ_nonneg t 0 (by omega)
      have hc : c.toNat < 256 := c.toNat_lt
      have e : beZ (t ++ [c]) 0 = beZ t 0 * 256 + c.toNat := by rw [beZ_append]; rfl
      rw [e, beB, show (beZ t 0 * 256 + c.toNat) / 256 = beZ t 0 by omega, ih t ht]
      congr 2
      unfold byteZ
      rw [show ((beZ t 0 * 256 + (c.toNat : Int)) % 256).toNat = c.toNat by omega]
      exact UInt8.ofNat_toNat
theorem top8 {s : Bs} (h : s.length = 8) : (127 < (s.getD 0 0).toNat → smallZ s < 0) ∧ (¬ 127 < (s.getD 0 0).toNat → 0 ≤ smallZ s ∧ smallZ s = beZ s 0) := by
  match s, h with
  | c :: r, h =>
    have hr : r.length = 7 := by simpa using h
    have e : (256 : Int) ^ r.length = 72057594037927936 := by rw [hr]; rfl
    have h1 := beZ_ge r c.toNat (by omega)
    have h2 := beZ_lt r c.toNat (by omega)
    have hc : c.toNat < 256 := c.toNat_lt
    have e2 : beZ (c :: r) 0 = beZ r c.toNat := by simp [beZ]
    rw [e] at h1 h2
    have e3 : ((c :: r).getD 0 0).toNat = c.toNat := rfl
    rw [e3]
    unfold smallZ
    rw [e2, wrap64]
    exact ⟨fun _ => by omega, fun _ => ⟨by omega, by omega⟩⟩
theorem take_sub (s : Bs) {i j : Nat} (h : i ≤ j) : s.take i ++ sub s i j = s.take j := by
  unfold sub
  rw [show s.take i = (s.take j).take i by rw [List.take_take, Nat.min_eq_left h], List.take_append_drop]
theorem sub_at {s : Bs} {i j : Nat} (hij : i < j) (h : j ≤ s.length) : (sub s i j).getD 0 0 = s.getD i 0 := by
  unfold sub
  simp only [List.getD_eq_getElem?_getD]
  rw [List.getElem?_drop, List.getElem?_take_of_lt (by omega)]; rfl
theorem sub_one {s : Bs} {i : Nat} (h : i < s.length) : sub s i (i + 1) = [s.getD i 0] := by
  unfold sub
  rw [List.take_succ_eq_append_getElem h, List.drop_append_of_le_length (by rw [List.length_take]; omega), List.drop_eq_nil_of_le (by rw [List.length_take]; omega)]
  simp [h]
theorem small_one (c : UInt8) : smallZ [c] = c.toNat := by
  have hc : c.toNat < 256 := c.toNat_lt
  show IntKind.i64.wrap ((0 : Int) * 256 + c.toNat) = _
  rw [i64w (by omega)]; omega
theorem small_area {s : Bs} (h : 7 ≤ s.length) : smallZ (sub s 6 7) = (s.getD 6 0).toNat := by rw [sub_one (i := 6) (by omega), small_one]
/-! ### A right mark -/
def bad1 (s : Bs) : Prop := s.take 2 ≠ [87, 77] ∨ sub s 31 60 ≠ List.replicate 29 0 ∨ sub s 2 6 ≠ s.drop 60 ∨ 127 < (s.getD 15 0).toNat ∨ 127 < (s.getD 23 0).toNat
def bad2 (δ : Dk) (n : Int) (s : Bs) : Prop := smallZ (sub s 2 6) < 1 ∨ smallZ (sub s 2 6) % 2 ≠ n ∨ 1 < (s.getD 6 0).toNat ∨ smallZ (sub s 7 11) > 64 * halfZ δ
theorem sec_take (m : Mk) : m.sec.take 2 = [87, 77] := by
  unfold Mk.sec
  simp only [List.append_assoc]
  exact List.take_left' rfl
theorem sec_zeros (m : Mk) : sub m.sec 31 60 = List.replicate 29 0 := by
  rw [show m.sec = ([87, 77] ++ beB m.count 4 ++ beB m.area 1 ++ beB m.len 4 ++ beB m.num 4 ++ beB m.a 8 ++ beB m.b 8) ++ List.replicate 29 0 ++ beB m.count 4 from rfl]
  exact sub_mid _ _ _ (by simp [beB_len]) (by simp [beB_len])
theorem right_law {δ : Dk} {n : Int} {s : Bs} (hl : s.length = 64) : badMk δ n s (parseZ s) ↔ bad1 s ∨ bad2 δ n s := by
  have ta := top8 (s := sub s 15 23) (by rw [sub_len (by omega)])
  have tb := top8 (s := sub s 23 31) (by rw [sub_len (by omega)])
  rw [sub_at (by decide) (by omega)] at ta tb
  have har := small_area (s := s) (by omega)
  constructor
  · intro h
    rcases Classical.em (bad1 s ∨ bad2 δ n s) with hb | hb
    · exact hb
    exfalso
    unfold bad1 bad2 at hb
    simp only [not_or, Classical.not_not] at hb
    obtain ⟨⟨b1, b2, b3, b4, b5⟩, c1, c2, c3, c4⟩ := hb
    have a1 := ta.2 b4
    have a2 := tb.2 b5
    have s4 : ∀ i j, j - i = 4 → j ≤ 64 → beB (smallZ (sub s i j)) 4 = sub s i j := by
      intro i j h1 h2
      have hln : (sub s i j).length = 4 := by rw [sub_len (by omega)]; exact h1
      rw [(smallZ_nonneg (by omega)).2.2, beB_of 4 _ hln]
    have s1 : beB (smallZ (sub s 6 7)) 1 = sub s 6 7 := by
      have hln : (sub s 6 7).length = 1 := by rw [sub_len (by omega)]
      rw [(smallZ_nonneg (by omega)).2.2, beB_of 1 _ hln]
    have sa : beB (smallZ (sub s 15 23)) 8 = sub s 15 23 := by rw [a1.2, beB_of 8 _ (by rw [sub_len (by omega)])]
    have sb : beB (smallZ (sub s 23 31)) 8 = sub s 23 31 := by rw [a2.2, beB_of 8 _ (by rw [sub_len (by omega)])]
    have hsec : s = (parseZ s).sec := by
      unfold Mk.sec parseZ
      dsimp only
      rw [s4 2 6 rfl (by decide), s4 7 11 rfl (by decide), s4 11 15 rfl (by decide), s1, sa, sb, ← b1, ← b2]
      rw [take_sub s (by decide), take_sub s (by decide), take_sub s (by decide), take_sub s (by decide), take_sub s (by decide), take_sub s (by decide), take_sub s (by decide), b3, List.take_append_drop]
    unfold badMk at h
    have har2 : (parseZ s).area = ((s.getD 6 0).toNat : Int) := har
    rcases h with h | h | h | h | h | h | h
    · exact c1 h
    · exact h c2
    · omega
    · exact c4 h
    · exact absurd a1.1 (by show ¬ 0 ≤ (parseZ s).a; omega)
    · exact absurd a2.1 (by show ¬ 0 ≤ (parseZ s).b; omega)
    · exact h hsec
  · intro hb
    rcases Classical.em (badMk δ n s (parseZ s)) with h | h
    · exact h
    exfalso
    unfold badMk at h
    simp only [not_or, Classical.not_not] at h
    obtain ⟨d1, d2, d3, d4, d5, d6, d7⟩ := h
    have har2 : (parseZ s).area = ((s.getD 6 0).toNat : Int) := har
    have e1 := sec_take (parseZ s)
    have e2 := sec_zeros (parseZ s)
    have e3 := sec_sub (parseZ s)
    have e4 := sec_drop (parseZ s)
    rw [← d7] at e1 e2 e3 e4
    rcases hb with (b1 | b2 | b3 | b4 | b5) | (c1 | c2 | c3 | c4)
    · exact b1 e1
    · exact b2 e2
    · exact b3 (e3.trans e4.symm)
    · exact d5 (ta.1 b4)
    · exact d6 (tb.1 b5)
    · exact d1 c1
    · exact c2 d2
    · omega
    · exact d4 c4
theorem found_right {δ : Dk} (hd : δ.dead = false) (hok : δ.Ok) (hs : 2 ≤ δ.now.length) {n : Int} (hn : 0 ≤ n ∧ n ≤ 1) : (bad1 (δ.now.getD n.toNat []) ∨ bad2 δ n (δ.now.getD n.toNat []) → foundZ δ n = none) ∧ (¬ (bad1 (δ.now.getD n.toNat []) ∨ bad2 δ n (δ.now.getD n.toNat [])) → foundZ δ n = some (parseZ (δ.now.getD n.toNat []))) := by
  have hl : (δ.now.getD n.toNat []).length = 64 := getD_mem64' hok.sec (by omega)
  have e := read_at hd (n := n) ⟨by omega, by omega⟩
  have hr := right_law (δ := δ) (n := n) hl
  unfold foundZ
  rw [e]
  dsimp only
  rw [if_neg (by decide)]
  exact ⟨fun h => if_pos (hr.2 h), fun h => if_neg (fun g => h (hr.1 g))⟩
theorem found_parse {δ : Dk} (hd : δ.dead = false) (hs : 2 ≤ δ.now.length) {n : Int} (hn : 0 ≤ n ∧ n ≤ 1) {m : Mk} (h : foundZ δ n = some m) : m = parseZ (δ.now.getD n.toNat []) := by
  have e := read_at hd (n := n) ⟨by omega, by omega⟩
  unfold foundZ at h
  rw [e] at h
  dsimp only at h
  rw [if_neg (by decide)] at h
  split at h
  · cases h
  · exact (Option.some.inj h).symm
/-! ### Steps -/
theorem rsmall_next {s : Bs} {i : Nat} (hi : i < s.length) : IntKind.i64.wrap (IntKind.i64.wrap (256 * IntKind.i64.wrap (beZ (s.take i) 0)) + IntKind.i64.wrap (s[i].toNat : Int)) = IntKind.i64.wrap (beZ (s.take (i + 1)) 0) := by
  rw [List.take_succ_eq_append_getElem hi, beZ_append]
  show _ = IntKind.i64.wrap (beZ (s.take i) 0 * 256 + s[i].toNat)
  rw [wrap64, wrap64, wrap64, wrap64, wrap64]; omega
/-! ### A log of the document's -/
def rlR (y x : Nat) (ω : Wl) : HP := fun h => ∃ v : Value, sep [ptc y [vptr x, v, vint ω.synced, vint ω.area, vint ω.count, vint ω.a, vint ω.b, .bool ω.doubt] 114, strR v ω.recs] h
section
variable {W : World} {n : Nat} {ds : List Deferred} {E : Env} {L R : List HP} {X : Act → World → Prop}
theorem G.rlOpen {y x : Nat} {ω : Wl} (hL : Pick (rlR y x ω) L R) (h : ∀ v, G W n ds E (ptc y [vptr x, v, vint ω.synced, vint ω.area, vint ω.count, vint ω.a, vint ω.b, .bool ω.doubt] 114 :: strR v ω.recs :: R) X) : G W n ds E L X :=
  G.focus hL (G.open (q := fun v : Value => [ptc y [vptr x, v, vint ω.synced, vint ω.area, vint ω.count, vint ω.a, vint ω.b, .bool ω.doubt] 114, strR v ω.recs]) (φ := fun _ => True) (fun _ ⟨v, hv⟩ => ⟨v, trivial, hv⟩) fun v _ => h v)
theorem G.rlFold {y x m : Nat} {ω : Wl} {v : Value} {l ys : List Value} (hL : Picks [ptc y l 114, slR 9 1 v m ys] L R) (h0 : l = [vptr x, v, vint ω.synced, vint ω.area, vint ω.count, vint ω.a, vint ω.b, .bool ω.doubt]) (h1 : m = ω.recs.length) (h2 : ys = strs ω.recs)
    (h : G W n ds E (rlR y x ω :: R) X) : G W n ds E L X := by
  subst h0; subst h1; subst h2
  exact G.fold hL (fun _ hp => ⟨v, hp⟩) h
end
def halfL (l : List Bs) : Int := ((l.length : Int) - 2) / 2
/-! ### Two disks that are the same -/
theorem open_facts {δ : Dk} (hok : δ.Ok) (hs : 2 ≤ δ.now.length) {ω : Wl} (h : openZ δ = some ω) : ω.doubt = false ∧ ((laidZ ω.recs).length : Int) ≤ 64 * halfZ δ := by
  rcases hb : bestZ δ with _ | m
  · rw [openZ_none hb] at h; cases h
  · rw [openZ_some hb] at h
    have hm := bestZ_some hok hb
    unfold openB at h
    split at h
    · cases h
    · rename_i l hp
      have e := Option.some.inj h
      subst e
      obtain ⟨h1, h2, h3, h4⟩ := bytesZ_len hok hs hm
      have hl := (partZ_laid hp).1
      have hml := hm.len
      refine ⟨rfl, ?_⟩
      dsimp only
      rw [hl, h3]; omega
end Go.Proofs.YtidjhgbdokcphaaGreat

/- Own work, by program: the document's log: numbers, records, marks: walked. -/

namespace Go.Proofs.YtidjhgbdokcphaaGreat
open Go
theorem rsmall_spec (s : Bs) (hs : s.length ≤ 9223372036854775807) : Fn Tryz.prog 168 #[vstr s] [] fun v L => v = vint (smallZ s) ∧ L = [] := by
 refine Fn.intro (vs := [vstr s]) Tryz.func168 rfl rfl ?_
 intro F W
 refine G.seq (G.region (G.ag rfl rfl (G.nil (G.then_n (G.seq (G.region (G.ag rfl rfl (G.nil (G.then_n (G.seq (G.seq (G.region (G.ag rfl rfl (G.nil (G.then_n (G.block ?_))))))))))))))))
 refine G.loopK (ι := Nat) (fun q E => (4, vint q) :: (3, vint (IntKind.i64.wrap (beZ (s.take q) 0))) :: E) (fun q => []) (fun q => q ≤ s.length) (fun q => s.length - q) (0) (ts := [0, 2]) (.cons rfl (.cons rfl (.nil))) (Nat.zero_le _) ⟨rfl, rfl, rfl, rfl, trivial⟩ (by (repeat' constructor)) ?_
 rintro i hi
 refine G.seq (G.seq (G.region (G.mv rfl rfl (G.mv rfl rfl (G.q (Quiet.strlen rfl Tryz.underlying9 rfl) rfl (G.q (Quiet.int rfl rfl rfl) rfl (G.nil (G.then_n ?_))))))))
 refine G.condD rfl (fun h8 => ?_) (fun h8 => ?_)
 ·have hi2 : i < s.length := by simpa [bs_size] using h8
  refine G.skip (G.then_n (G.seq (G.block (G.region (G.mv rfl rfl (G.q (Quiet.int rfl rfl rfl) rfl (G.mv rfl rfl (G.mv rfl rfl ?_))))))))
  refine G.q (Quiet.strIndex (c := s[i]) rfl rfl Tryz.underlying9 (by omega) (by simp)) rfl ?_
  refine G.q (Quiet.conv rfl Tryz.underlying5 Tryz.underlying3) rfl (G.q (Quiet.to (v' := vint (IntKind.i64.wrap (beZ (s.take (i + 1)) 0))) (Quiet.int rfl rfl rfl) (congrArg (Value.int .i64) (rsmall_next hi2))) rfl (G.ag rfl rfl (G.nil (G.blk_n (G.then_n (G.region (G.mv rfl rfl ?_)))))))
  refine G.q (Quiet.add rfl rfl (by omega)) rfl ?_
  refine G.ag rfl rfl (G.nil (G.then_n ?_))
  exact G.roundK (i + 1) (by omega) (by omega) ⟨rfl, rfl, rfl, rfl, trivial⟩ (by (repeat' constructor)) (by ((repeat (apply Have.cons; (repeat (first | exact Pick.here | apply Pick.there)))); apply Have.base; repeat' constructor))
 ·refine G.exit (G.then_e (G.then_e (G.blk_e (G.then_n (G.seq (G.region (G.mv rfl rfl (G.ag rfl rfl (G.nil (G.then_n (G.ret ?_)))))))))))
  exact G.dn (l := [.tmp 2]) rfl rfl ⟨by have hi3 : i = s.length := (by have h9 : ¬ (i : Int) < s.length := (by simpa [bs_size] using h8); omega); rw [hi3, List.take_length]; rfl, rfl⟩

def nthZ (n : Int) : Nat → Int
  | 0 => n
  | j + 1 => nthZ n j / 256
theorem nthZ_pow (n : Int) (j : Nat) : nthZ n j = n / 256 ^ j := by
  induction j with
  | zero => rw [nthZ, Int.pow_zero, Int.ediv_one]
  | succ j ih => rw [nthZ, ih, Int.ediv_ediv_of_nonneg (Int.le_of_lt (Int.pow_pos (by decide))), Int.pow_succ]
theorem rbig_le {n : Int} (h : 0 ≤ n ∧ n ≤ 9223372036854775807) (j : Nat) : 0 ≤ nthZ n j ∧ nthZ n j ≤ 9223372036854775807 := by
  rw [nthZ_pow]
  have hp : (0 : Int) < 256 ^ j := Int.pow_pos (by decide)
  exact ⟨Int.ediv_nonneg h.1 (Int.le_of_lt hp), Int.le_trans (Int.ediv_le_self _ h.1) h.2⟩
def dnZ (k : Int) : Nat → Int
  | 0 => k - 1
  | j + 1 => dnZ k j - 1
theorem dnZ_eq (k : Int) (j : Nat) : dnZ k j = k - 1 - j := by
  induction j with
  | zero => rw [dnZ]; omega
  | succ j ih => rw [dnZ, ih]; omega
theorem u8_mod (x : Int) : Value.int .u8 (IntKind.u8.wrap (x % 256)) = vbyte (byteZ x) := by
  rw [vbyteZ]; congr 1; show x % 256 % 256 = x % 256; omega
theorem rbig_spec (n : Int) (k : Nat) (h0 : 0 ≤ n ∧ n ≤ 9223372036854775807) (hk : k ≤ 8) : Fn Tryz.prog 122 #[vint n, vint k] [] fun v L => v = vstr (beB n k) ∧ L = [] := by
 refine Fn.intro (vs := [vint n, vint k]) Tryz.func122 rfl rfl ?_
 intro F W
 refine G.seq (G.region (G.ag rfl rfl (G.nil (G.then_n (G.seq (G.region (G.mv rfl rfl ?_)))))))
 refine G.oq (OpSpec.make rfl rfl el_125 ze_5 rfl ⟨by simp, by simp; rfl⟩ ?c3) ?nx4
 case c3 => omega
 rintro v L' ⟨bz, rfl, rfl⟩
 refine G.ag rfl rfl (G.nil ?_)
 simp only [Int.toNat_natCast, Nat.mul_one]
 refine G.ptCast (b := bz) (l' := fillB (List.replicate k zB) 0 n k 0) (by (repeat' constructor)) (fillB_0 _ _ _ _).symm ?_
 refine G.then_n (G.seq (G.seq (G.region (G.mv rfl rfl ?_))))
 refine G.q (Quiet.sub rfl rfl (by omega)) rfl ?_
 refine G.ag rfl rfl (G.nil (G.then_n (G.block ?_)))
 refine G.loopK (ι := Nat) (fun q E => (6, vint (dnZ k q)) :: (0, vint (nthZ n q)) :: E) (fun q => [ptc bz (fillB (List.replicate k zB) 0 n k q) 5]) (fun q => q ≤ k) (fun q => k - q) (0) (ts := [4, 5]) (.cons rfl (.cons rfl (.nil))) (Nat.zero_le _) ⟨rfl, rfl, rfl, rfl, trivial⟩ (by (repeat' constructor)) ?_
 rintro j hj
 have hdn := dnZ_eq (k : Int) j
 refine G.seq (G.seq (G.region (G.mv rfl rfl (G.q (Quiet.int rfl rfl rfl) rfl (G.nil (G.then_n ?_))))))
 refine G.condD rfl (fun h12 => ?_) (fun h12 => ?_)
 ·have hj2 : j < k := by omega
  have hq := rbig_le h0 j
  have hfl := fillB_len (l := List.replicate k zB) (off := 0) (n := n) (k := k) (i := j) (by omega) (by simp)
  rw [List.length_replicate] at hfl
  refine G.skip (G.then_n (G.seq (G.block (G.seq (G.region (G.mv rfl rfl (G.mv rfl rfl (G.mv rfl rfl ?_))))))))
  refine G.q (Quiet.remE rfl rfl hq.1 (by decide)) rfl ?_
  refine G.q (Quiet.as (v' := vbyte (byteZ (n / 256 ^ j))) (by rw [← nthZ_pow]; exact u8_mod _) (Quiet.conv rfl Tryz.underlying3 Tryz.underlying5)) rfl ?_
  refine G.q (Quiet.indexAddr rfl rfl el_125 (by omega)) rfl ?_
  refine G.oq (OpSpec.store rfl rfl rfl sz_5 ?c16 ?c17) ?nx18
  case c16 => omega
  case c17 => exact nfz0 _ _
  rintro v L' rfl
  refine G.nil (G.then_n (G.region (G.mv rfl rfl ?_)))
  refine G.q (Quiet.to (v' := vint (nthZ n (j + 1))) (Quiet.quoE rfl rfl hq (by decide)) rfl) rfl ?_
  refine G.ag rfl rfl (G.nil (G.blk_n (G.then_n (G.region (G.mv rfl rfl ?_)))))
  refine G.q (Quiet.sub rfl rfl (by omega)) rfl ?_
  refine G.ag rfl rfl (G.nil (G.then_n ?_))
  rw [show 0 + (dnZ (k : Int) j).toNat * 1 = 0 + (k - 1 - j) by omega, fillB_step hj2 (by simp)]
  exact G.roundK (j + 1) (by omega) (by omega) ⟨rfl, rfl, rfl, rfl, trivial⟩ (by (repeat' constructor)) (by ((repeat (apply Have.cons; (repeat (first | exact Pick.here | apply Pick.there)))); apply Have.base; repeat' constructor))
 ·obtain rfl : j = k := by omega
  refine G.ptCast (b := bz) (l' := bysL (beB n j)) (by (repeat' constructor)) (by rw [fillB_k]; exact spl_all (by simp [bysL_len, beB_len])) ?_
  refine G.exit (G.then_e (G.then_e (G.blk_e (G.then_n (G.seq (G.region (G.mv rfl rfl ?_)))))))
  refine G.q (Quiet.bytesPt (cs := beB n j) rfl Tryz.underlying125 Tryz.underlying5 Tryz.underlying9 (by (repeat' constructor)) (by rw [List.drop_zero]; exact List.take_of_length_le (by rw [bysL_len, beB_len]; omega)) (by rw [bysL_len, beB_len]; omega) (by omega)) rfl ?_
  refine G.ag rfl rfl (G.nil (G.then_n (G.ret ?_)))
  exact G.dn (l := [.tmp 4]) rfl rfl ⟨rfl, rfl⟩

theorem rrecord_spec (s : Bs) (hs : s.length ≤ 2147483648) : Fn Tryz.prog 123 #[vstr s] [] fun v L => v = vstr (recZ s) ∧ L = [] := by
 refine Fn.intro (vs := [vstr s]) Tryz.func123 rfl rfl ?_
 intro F W
 have hsum := sumZ_range (headZ s)
 have hh : (headZ s).length = s.length + 2 := by simp [headZ, beB_len]; omega
 have hb2 := beB_len 2 (s.length : Int)
 have hb4 := beB_len 4 (sumZ (headZ s))
 have hap : (beB (s.length : Int) 2 ++ s).length = s.length + 2 := hh
 refine G.seq (G.region (G.ag rfl rfl (G.nil (G.then_n (G.seq (G.region (G.mv rfl rfl (G.q (Quiet.strlen rfl Tryz.underlying9 rfl) rfl ?_))))))))
 refine G.oq (OpSpec.call Tryz.func122 rfl rfl (vs := [_, _]) rfl (rbig_spec s.length 2 (by omega) (by decide))) ?nx4
 rintro v L' ⟨rfl, rfl⟩
 refine G.mv rfl rfl ?_
 refine G.q (Quiet.concat rfl rfl (by omega)) rfl ?_
 refine G.ag rfl rfl (G.nil (G.then_n (G.seq (G.region (G.mv rfl rfl (G.mv rfl rfl ?_))))))
 refine G.oq (OpSpec.call Tryz.func164 rfl rfl (vs := [_]) rfl (rsum_spec (headZ s) (by omega))) ?nx8
 rintro v L' ⟨rfl, rfl⟩
 refine G.q (Quiet.as (v' := vint (sumZ (headZ s))) (by rw [i64w (by omega)]) (Quiet.conv rfl Tryz.underlying183 Tryz.underlying3)) rfl ?_
 refine G.oq (OpSpec.call Tryz.func122 rfl rfl (vs := [_, _]) rfl (rbig_spec (sumZ (headZ s)) 4 (by omega) (by decide))) ?nx11
 rintro v L' ⟨rfl, rfl⟩
 refine G.q (Quiet.concat rfl rfl (by omega)) rfl ?_
 refine G.ag rfl rfl (G.nil (G.then_n (G.ret ?_)))
 exact G.dn (l := [.tmp 2]) rfl rfl ⟨rfl, rfl⟩

theorem rhalf_spec (x : Nat) (vL vO vP : Value) (N At : Int) (Gone : Bool) (l : List Bs) (hl : 2 ≤ l.length ∧ l.length ≤ 32768) : Fn Tryz.prog 64 #[vptr x] [rkC x vL vO vP N At Gone, strR vL l] fun v L => v = vint (halfL l) ∧ L = [rkC x vL vO vP N At Gone, strR vL l] := by
 refine Fn.intro (vs := [vptr x]) Tryz.func64 rfl rfl ?_
 intro F W
 refine G.slAny (v := vL) (by (repeat' constructor)) fun aL cL e _ => ?_
 subst e
 refine G.seq (G.region (G.ag rfl rfl (G.nil (G.then_n (G.seq (G.region (G.mv rfl rfl (G.q (Quiet.nilp rfl) rfl (G.q (Quiet.fieldAddr rfl fo_58_0) rfl ?_)))))))))
 refine G.q (Quiet.ld rfl ag_46) rfl ?_
 refine G.q (Quiet.slen rfl Tryz.underlying46 rfl) rfl ?_
 refine G.q (Quiet.sub rfl rfl (by omega)) rfl ?_
 refine G.q (Quiet.quoE rfl rfl (by omega) (by decide)) rfl ?_
 refine G.ag rfl rfl (G.nil (G.then_n (G.ret ?_)))
 exact G.dn (l := [.tmp 2]) rfl rfl ⟨rfl, rfl⟩

theorem rright_spec (x : Nat) (vL vO vP : Value) (N At : Int) (Gone : Bool) (δ : Dk) (n : Int) (hn01 : 0 ≤ n ∧ n ≤ 1) (hd : δ.dead = false) (hok : δ.Ok) (hs : 2 ≤ δ.now.length ∧ δ.now.length ≤ 32768) : Fn Tryz.prog 167 #[vptr x, vint n] [rkC x vL vO vP N At Gone, strR vL δ.now] fun v L => v = .tuple #[vint ((foundZ δ n).elim 0 (·.count)), .bool (foundZ δ n).isSome] ∧ L = [rkC x vL vO vP N At Gone, strR vL δ.now] := by
 refine Fn.intro (vs := [vptr x, vint n]) Tryz.func167 rfl rfl ?_
 intro F W
 refine G.slAny (v := vL) (by (repeat' constructor)) fun aL cL e lL => ?_
 subst e
 have hn2 : n.toNat < δ.now.length := by omega
 have hsl : (δ.now[n.toNat]).length = 64 := hok.sec _ (List.getElem_mem _)
 generalize hsE0 : δ.now[n.toNat] = s at hsl
 have hsE : δ.now.getD n.toNat [] = s := by rw [← hsE0]; simp [hn2]
 have hH : halfZ δ = halfL δ.now := rfl
 have hs26 : (sub s 2 6).length = 4 := by rw [sub_len (by omega)]
 have hs71 : (sub s 7 11).length = 4 := by rw [sub_len (by omega)]
 have hhl : 0 ≤ halfL δ.now ∧ halfL δ.now ≤ 16383 := by unfold halfL; omega
 refine G.seq (G.region (G.ag rfl rfl (G.ag rfl rfl (G.nil (G.then_n (G.seq ?_))))))
 refine G.slShape (v := .slice aL _ cL) (by (repeat' constructor)) (by omega) fun bL cL' e mL _ => ?_
 simp only [Value.slice.injEq, true_and] at e
 obtain ⟨rfl, rfl⟩ := e
 refine G.region (G.mv rfl rfl (G.q (Quiet.nilp rfl) rfl (G.q (Quiet.fieldAddr rfl fo_58_0) rfl ?_)))
 refine G.q (Quiet.ld rfl ag_46) rfl ?_
 refine G.mv rfl rfl ?_
 refine G.q (Quiet.indexAddr rfl rfl el_46 (by omega)) rfl ?_
 refine G.q (Quiet.to (v' := vstr s) (Quiet.loadSl (v := vstr δ.now[n.toNat]) (i := n.toNat * 1) rfl ag_9 (by (repeat' constructor)) (by simp [hn2])) (by rw [hsE0])) rfl ?_
 refine G.ag rfl rfl (G.nil (G.then_n (G.seq (G.seq ?_))))
 refine G.draw [6] [[0, 1, 2, 3, 4, 5, 6, 7], [8, 9, 10, 11, 12, 13, 14, 15, 16, 17, 18, 19, 20, 21, 22, 23, 24, 25, 26]] mixed (by kernel_rfl) ?_
 refine Phases.go [] (by (repeat' constructor)) ?_
 refine D.kw [1, 2, 3, 4, 5, 6, 7] rfl (Quiet.move rfl) ?_
 refine D.kw [2, 3, 4, 5, 6, 7] rfl (Quiet.to (v' := vstr (s.take 2)) (Quiet.strTo (j := 2) rfl rfl Tryz.underlying9 (by omega)) rfl) ?_
 refine D.kw [3, 4, 5, 6, 7] rfl (Quiet.strne rfl rfl) ?_
 refine D.kw [4, 5, 6, 7] rfl (Quiet.move rfl) ?_
 refine D.ndec (t := 18) rfl (fun h2_18 => ?_) (fun h2_18 => ?_)
 ·refine D.kNT (t := 17) rfl h2_18 ?_
  refine D.gs (t := 18) rfl rfl rfl rfl (by kernel_rfl) ?_
  refine D.gs (t := 18) rfl rfl rfl rfl (by kernel_rfl) ?_
  refine D.gs (t := 18) rfl rfl rfl rfl (by kernel_rfl) ?_
  refine D.gs (t := 18) rfl rfl rfl rfl (by kernel_rfl) ?_
  refine D.ph ?_
  refine Phases.go [] (by (repeat' constructor)) ?_
  refine D.gs (t := 18) rfl rfl rfl rfl (by kernel_rfl) ?_
  refine D.kw [10, 11, 12, 13, 14, 15, 16, 17, 18, 19, 20, 21, 22, 23, 24, 25, 26] rfl (Quiet.pickT rfl rfl) ?_
  refine D.kw [11, 12, 13, 14, 15, 16, 17, 18, 19, 20, 21, 22, 23, 24, 25, 26] rfl (Quiet.move rfl) ?_
  refine D.gs (t := 25) rfl rfl rfl rfl (by kernel_rfl) ?_
  refine D.gs (t := 25) rfl rfl rfl rfl (by kernel_rfl) ?_
  refine D.gs (t := 25) rfl rfl rfl rfl (by kernel_rfl) ?_
  refine D.gs (t := 25) rfl rfl rfl rfl (by kernel_rfl) ?_
  refine D.gs (t := 25) rfl rfl rfl rfl (by kernel_rfl) ?_
  refine D.kw [17, 18, 19, 20, 21, 22, 23, 24, 25, 26] rfl (Quiet.pickT rfl rfl) ?_
  refine D.kw [18, 19, 20, 21, 22, 23, 24, 25, 26] rfl (Quiet.move rfl) ?_
  refine D.gs (t := 32) rfl rfl rfl rfl (by kernel_rfl) ?_
  refine D.gs (t := 32) rfl rfl rfl rfl (by kernel_rfl) ?_
  refine D.gs (t := 32) rfl rfl rfl rfl (by kernel_rfl) ?_
  refine D.kw [22, 23, 24, 25, 26] rfl (Quiet.pickT rfl rfl) ?_
  refine D.kw [23, 24, 25, 26] rfl (Quiet.move rfl) ?_
  refine D.gs (t := 37) rfl rfl rfl rfl (by kernel_rfl) ?_
  refine D.gs (t := 37) rfl rfl rfl rfl (by kernel_rfl) ?_
  refine D.gs (t := 37) rfl rfl rfl rfl (by kernel_rfl) ?_
  refine D.kw [] rfl (Quiet.pickT rfl rfl) ?_
  refine D.ph (Phases.fin (G.then_n (G.condT rfl (G.seq (G.region (G.ag rfl rfl (G.ag rfl rfl (G.nil (G.then_n (G.ret (G.then_r ?_)))))))))))
  exact G.dn (l := [.tmp 4, .tmp 5]) rfl rfl ⟨by rw [(found_right hd hok hs.1 hn01).1 (.inl (by rw [hsE]; unfold bad1; first | exact .inl (by simpa using h2_18) | exact .inr (.inl (by simpa using h2_25)) | exact .inr (.inr (.inl (by simpa using h2_32))) | exact .inr (.inr (.inr (.inl (by omega)))) | exact .inr (.inr (.inr (.inr (by omega))))))]; rfl, rfl⟩
 ·refine D.kNF (t := 17) rfl h2_18 ?_
  refine D.gq (t := 18) rfl rfl rfl (by kernel_rfl) (Quiet.move rfl) ?_
  refine D.gq (t := 18) rfl rfl rfl (by kernel_rfl) (Quiet.to (v' := vstr (sub s 31 60)) (Quiet.strMid (i := 31) (j := 60) rfl rfl rfl Tryz.underlying9 (by omega)) rfl) ?_
  refine D.gh (t := 18) rfl rfl rfl (by kernel_rfl) (OpSpec.make rfl rfl el_125 ze_5 rfl ⟨by simp, by simp; rfl⟩ ?c19) (by (repeat' constructor)) ?nx20
  case c19 => omega
  rintro v L' ⟨bz, rfl, rfl⟩
  refine D.gqw [] (t := 18) rfl rfl rfl (by kernel_rfl) (Quiet.bytesPt (cs := List.replicate 29 0) rfl Tryz.underlying125 Tryz.underlying5 Tryz.underlying9 (by (repeat' constructor)) (by first | (simp [List.map_replicate]; done) | (simp [List.map_replicate]; rfl)) (by simp) (by decide)) ?_
  refine D.ph ?_
  refine Phases.go [] (by (repeat' constructor)) ?_
  refine D.gqw [9, 10, 11, 12, 13, 14, 15, 16, 17, 18, 19, 20, 21, 22, 23, 24, 25, 26] (t := 18) rfl rfl rfl (by kernel_rfl) (Quiet.strne rfl rfl) ?_
  refine D.kw [10, 11, 12, 13, 14, 15, 16, 17, 18, 19, 20, 21, 22, 23, 24, 25, 26] rfl (Quiet.pickF rfl rfl) ?_
  refine D.kw [11, 12, 13, 14, 15, 16, 17, 18, 19, 20, 21, 22, 23, 24, 25, 26] rfl (Quiet.move rfl) ?_
  refine D.ndec (t := 25) rfl (fun h2_25 => ?_) (fun h2_25 => ?_)
  ·refine D.kNT (t := 23) rfl h2_25 (D.kNT (t := 24) rfl h2_25 ?_)
   refine D.gs (t := 25) rfl rfl rfl rfl (by kernel_rfl) ?_
   refine D.gs (t := 25) rfl rfl rfl rfl (by kernel_rfl) ?_
   refine D.gs (t := 25) rfl rfl rfl rfl (by kernel_rfl) ?_
   refine D.gs (t := 25) rfl rfl rfl rfl (by kernel_rfl) ?_
   refine D.gs (t := 25) rfl rfl rfl rfl (by kernel_rfl) ?_
   refine D.kw [17, 18, 19, 20, 21, 22, 23, 24, 25, 26] rfl (Quiet.pickT rfl rfl) ?_
   refine D.kw [18, 19, 20, 21, 22, 23, 24, 25, 26] rfl (Quiet.move rfl) ?_
   refine D.gs (t := 32) rfl rfl rfl rfl (by kernel_rfl) ?_
   refine D.gs (t := 32) rfl rfl rfl rfl (by kernel_rfl) ?_
   refine D.gs (t := 32) rfl rfl rfl rfl (by kernel_rfl) ?_
   refine D.kw [22, 23, 24, 25, 26] rfl (Quiet.pickT rfl rfl) ?_
   refine D.kw [23, 24, 25, 26] rfl (Quiet.move rfl) ?_
   refine D.gs (t := 37) rfl rfl rfl rfl (by kernel_rfl) ?_
   refine D.gs (t := 37) rfl rfl rfl rfl (by kernel_rfl) ?_
   refine D.gs (t := 37) rfl rfl rfl rfl (by kernel_rfl) ?_
   refine D.kw [] rfl (Quiet.pickT rfl rfl) ?_
   refine D.ph (Phases.fin (G.then_n (G.condT rfl (G.seq (G.region (G.ag rfl rfl (G.ag rfl rfl (G.nil (G.then_n (G.ret (G.then_r ?_)))))))))))
   exact G.dn (l := [.tmp 4, .tmp 5]) rfl rfl ⟨by rw [(found_right hd hok hs.1 hn01).1 (.inl (by rw [hsE]; unfold bad1; first | exact .inl (by simpa using h2_18) | exact .inr (.inl (by simpa using h2_25)) | exact .inr (.inr (.inl (by simpa using h2_32))) | exact .inr (.inr (.inr (.inl (by omega)))) | exact .inr (.inr (.inr (.inr (by omega))))))]; rfl, rfl⟩
  ·refine D.kNF (t := 23) rfl h2_25 (D.kNF (t := 24) rfl h2_25 ?_)
   refine D.gqw [12, 15, 16, 17, 18, 19, 20, 21, 22, 23, 24, 25, 26] (t := 25) rfl rfl rfl (by kernel_rfl) (Quiet.move rfl) ?_
   refine D.gqw [15, 16, 17, 18, 19, 20, 21, 22, 23, 24, 25, 26] (t := 25) rfl rfl rfl (by kernel_rfl) (Quiet.to (v' := vstr (sub s 2 6)) (Quiet.strMid (i := 2) (j := 6) rfl rfl rfl Tryz.underlying9 (by omega)) rfl) ?_
   refine D.gqw [14, 15, 16, 17, 18, 19, 20, 21, 22, 23, 24, 25, 26] (t := 25) rfl rfl rfl (by kernel_rfl) (Quiet.move rfl) ?_
   refine D.gqw [15, 16, 17, 18, 19, 20, 21, 22, 23, 24, 25, 26] (t := 25) rfl rfl rfl (by kernel_rfl) (Quiet.to (v' := vstr (s.drop 60)) (Quiet.strFrom (i := 60) rfl rfl Tryz.underlying9 (by omega)) rfl) ?_
   refine D.gqw [16, 17, 18, 19, 20, 21, 22, 23, 24, 25, 26] (t := 25) rfl rfl rfl (by kernel_rfl) (Quiet.strne rfl rfl) ?_
   refine D.kw [17, 18, 19, 20, 21, 22, 23, 24, 25, 26] rfl (Quiet.pickF rfl rfl) ?_
   refine D.kw [18, 19, 20, 21, 22, 23, 24, 25, 26] rfl (Quiet.move rfl) ?_
   refine D.ndec (t := 32) rfl (fun h2_32 => ?_) (fun h2_32 => ?_)
   ·refine D.kNT (t := 30) rfl h2_32 (D.kNT (t := 31) rfl h2_32 ?_)
    refine D.gs (t := 32) rfl rfl rfl rfl (by kernel_rfl) ?_
    refine D.gs (t := 32) rfl rfl rfl rfl (by kernel_rfl) ?_
    refine D.gs (t := 32) rfl rfl rfl rfl (by kernel_rfl) ?_
    refine D.kw [22, 23, 24, 25, 26] rfl (Quiet.pickT rfl rfl) ?_
    refine D.kw [23, 24, 25, 26] rfl (Quiet.move rfl) ?_
    refine D.gs (t := 37) rfl rfl rfl rfl (by kernel_rfl) ?_
    refine D.gs (t := 37) rfl rfl rfl rfl (by kernel_rfl) ?_
    refine D.gs (t := 37) rfl rfl rfl rfl (by kernel_rfl) ?_
    refine D.kw [] rfl (Quiet.pickT rfl rfl) ?_
    refine D.ph (Phases.fin (G.then_n (G.condT rfl (G.seq (G.region (G.ag rfl rfl (G.ag rfl rfl (G.nil (G.then_n (G.ret (G.then_r ?_)))))))))))
    exact G.dn (l := [.tmp 4, .tmp 5]) rfl rfl ⟨by rw [(found_right hd hok hs.1 hn01).1 (.inl (by rw [hsE]; unfold bad1; first | exact .inl (by simpa using h2_18) | exact .inr (.inl (by simpa using h2_25)) | exact .inr (.inr (.inl (by simpa using h2_32))) | exact .inr (.inr (.inr (.inl (by omega)))) | exact .inr (.inr (.inr (.inr (by omega))))))]; rfl, rfl⟩
   ·refine D.kNF (t := 30) rfl h2_32 (D.kNF (t := 31) rfl h2_32 ?_)
    refine D.gqw [19, 20, 21, 22, 23, 24, 25, 26] (t := 32) rfl rfl rfl (by kernel_rfl) (Quiet.move rfl) ?_
    refine D.gqw [20, 21, 22, 23, 24, 25, 26] (t := 32) rfl rfl rfl (by kernel_rfl) (Quiet.strIndex (c := s.getD 15 0) rfl rfl Tryz.underlying9 (by omega) (by simp [hsl])) ?_
    refine D.gqw [21, 22, 23, 24, 25, 26] (t := 32) rfl rfl rfl (by kernel_rfl) (Quiet.int rfl rfl rfl) ?_
    refine D.kw [22, 23, 24, 25, 26] rfl (Quiet.pickF rfl rfl) ?_
    refine D.kw [23, 24, 25, 26] rfl (Quiet.move rfl) ?_
    refine D.dec (t := 37) rfl (fun h2_37 => ?_) (fun h2_37 => ?_)
    ·refine D.kDT (t := 35) rfl h2_37 (D.kDT (t := 36) rfl h2_37 ?_)
     refine D.gs (t := 37) rfl rfl rfl rfl (by kernel_rfl) ?_
     refine D.gs (t := 37) rfl rfl rfl rfl (by kernel_rfl) ?_
     refine D.gs (t := 37) rfl rfl rfl rfl (by kernel_rfl) ?_
     refine D.kw [] rfl (Quiet.pickT rfl rfl) ?_
     refine D.ph (Phases.fin (G.then_n (G.condT rfl (G.seq (G.region (G.ag rfl rfl (G.ag rfl rfl (G.nil (G.then_n (G.ret (G.then_r ?_)))))))))))
     exact G.dn (l := [.tmp 4, .tmp 5]) rfl rfl ⟨by rw [(found_right hd hok hs.1 hn01).1 (.inl (by rw [hsE]; unfold bad1; first | exact .inl (by simpa using h2_18) | exact .inr (.inl (by simpa using h2_25)) | exact .inr (.inr (.inl (by simpa using h2_32))) | exact .inr (.inr (.inr (.inl (by omega)))) | exact .inr (.inr (.inr (.inr (by omega))))))]; rfl, rfl⟩
    ·refine D.kDF (t := 35) rfl h2_37 (D.kDF (t := 36) rfl h2_37 ?_)
     refine D.gqw [24, 25, 26] (t := 37) rfl rfl rfl (by kernel_rfl) (Quiet.move rfl) ?_
     refine D.gqw [25, 26] (t := 37) rfl rfl rfl (by kernel_rfl) (Quiet.strIndex (c := s.getD 23 0) rfl rfl Tryz.underlying9 (by omega) (by simp [hsl])) ?_
     refine D.gqw [26] (t := 37) rfl rfl rfl (by kernel_rfl) (Quiet.int rfl rfl rfl) ?_
     refine D.kw [] rfl (Quiet.pickF rfl rfl) ?_
     refine D.ph (Phases.fin (G.then_n ?_))
     refine G.condD rfl (fun h41 => ?_) (fun h41 => ?_)
     ·refine G.seq (G.region (G.ag rfl rfl (G.ag rfl rfl (G.nil (G.then_n (G.ret (G.then_r ?_)))))))
      exact G.dn (l := [.tmp 4, .tmp 5]) rfl rfl ⟨by rw [(found_right hd hok hs.1 hn01).1 (.inl (by rw [hsE]; unfold bad1; first | exact .inl (by simpa using h2_18) | exact .inr (.inl (by simpa using h2_25)) | exact .inr (.inr (.inl (by simpa using h2_32))) | exact .inr (.inr (.inr (.inl (by omega)))) | exact .inr (.inr (.inr (.inr (by omega))))))]; rfl, rfl⟩
     ·refine G.skip (G.then_n (G.seq (G.region (G.mv rfl rfl ?_))))
      refine G.q (Quiet.to (v' := vstr (sub s 2 6)) (Quiet.strMid (i := 2) (j := 6) rfl rfl rfl Tryz.underlying9 (by omega)) rfl) rfl ?_
      refine G.oq (OpSpec.call Tryz.func168 rfl rfl (vs := [_]) rfl (rsmall_spec _ ?hs46)) ?nx47
      case hs46 => first | (simp; omega) | omega
      rintro v L' ⟨rfl, rfl⟩
      refine G.ag rfl rfl (G.nil (G.then_n (G.seq (G.seq (G.region (G.mv rfl rfl (G.q (Quiet.int rfl rfl rfl) rfl (G.mv rfl rfl ?_))))))))
      refine G.dec (t := 47) rfl (fun h5_47 => ?_) (fun h5_47 => ?_)
      ·refine G.kDT (t := 46) rfl h5_47 (G.gskip (t := 47) rfl rfl rfl rfl (G.gskip (t := 47) rfl rfl rfl rfl (G.gskip (t := 47) rfl rfl rfl rfl (G.gskip (t := 47) rfl rfl rfl rfl (G.q (Quiet.pickT rfl rfl) rfl (G.mv rfl rfl (G.gskip (t := 53) rfl rfl rfl rfl (G.gskip (t := 53) rfl rfl rfl rfl (G.gskip (t := 53) rfl rfl rfl rfl (G.q (Quiet.pickT rfl rfl) rfl (G.mv rfl rfl (G.gskip (t := 58) rfl rfl rfl rfl (G.gskip (t := 58) rfl rfl rfl rfl (G.gskip (t := 58) rfl rfl rfl rfl (G.gskip (t := 58) rfl rfl rfl rfl (G.gskip (t := 58) rfl rfl rfl rfl (G.gskip (t := 58) rfl rfl rfl rfl (G.gskip (t := 58) rfl rfl rfl rfl (G.q (Quiet.pickT rfl rfl) rfl (G.nil (G.then_n (G.condT rfl (G.seq (G.region (G.ag rfl rfl (G.ag rfl rfl (G.nil (G.then_n (G.ret (G.then_r ?_))))))))))))))))))))))))))))))
       exact G.dn (l := [.tmp 4, .tmp 5]) rfl rfl ⟨by rw [(found_right hd hok hs.1 hn01).1 (.inr (by rw [hsE]; unfold bad2; first | exact .inl (by omega) | exact .inr (.inl (by omega)) | exact .inr (.inr (.inl (by omega))) | exact .inr (.inr (.inr (by rw [hH]; omega)))))]; rfl, rfl⟩
      ·refine G.kDF (t := 46) rfl h5_47 (G.grun (t := 47) rfl rfl rfl (G.mv rfl rfl (G.grun (t := 47) rfl rfl rfl ?_)))
       refine G.q (Quiet.remE rfl rfl (by omega) (by omega)) rfl ?_
       refine G.grun (t := 47) rfl rfl rfl (G.mv rfl rfl (G.grun (t := 47) rfl rfl rfl (G.q (Quiet.int rfl rfl rfl) rfl (G.q (Quiet.pickF rfl rfl) rfl (G.mv rfl rfl ?_)))))
       refine G.ndec (t := 53) rfl (fun h5_53 => ?_) (fun h5_53 => ?_)
       ·refine G.kNT (t := 51) rfl h5_53 (G.kNT (t := 52) rfl h5_53 (G.gskip (t := 53) rfl rfl rfl rfl (G.gskip (t := 53) rfl rfl rfl rfl (G.gskip (t := 53) rfl rfl rfl rfl (G.q (Quiet.pickT rfl rfl) rfl (G.mv rfl rfl (G.gskip (t := 58) rfl rfl rfl rfl (G.gskip (t := 58) rfl rfl rfl rfl (G.gskip (t := 58) rfl rfl rfl rfl (G.gskip (t := 58) rfl rfl rfl rfl (G.gskip (t := 58) rfl rfl rfl rfl (G.gskip (t := 58) rfl rfl rfl rfl (G.gskip (t := 58) rfl rfl rfl rfl (G.q (Quiet.pickT rfl rfl) rfl (G.nil (G.then_n (G.condT rfl (G.seq (G.region (G.ag rfl rfl (G.ag rfl rfl (G.nil (G.then_n (G.ret (G.then_r ?_)))))))))))))))))))))))))
        exact G.dn (l := [.tmp 4, .tmp 5]) rfl rfl ⟨by rw [(found_right hd hok hs.1 hn01).1 (.inr (by rw [hsE]; unfold bad2; first | exact .inl (by omega) | exact .inr (.inl (by omega)) | exact .inr (.inr (.inl (by omega))) | exact .inr (.inr (.inr (by rw [hH]; omega)))))]; rfl, rfl⟩
       ·refine G.kNF (t := 51) rfl h5_53 (G.kNF (t := 52) rfl h5_53 (G.grun (t := 53) rfl rfl rfl (G.mv rfl rfl (G.grun (t := 53) rfl rfl rfl ?_))))
        refine G.q (Quiet.strIndex (c := s.getD 6 0) rfl rfl Tryz.underlying9 (by omega) (by simp [hsl])) rfl ?_
        refine G.grun (t := 53) rfl rfl rfl (G.q (Quiet.int rfl rfl rfl) rfl (G.q (Quiet.pickF rfl rfl) rfl (G.mv rfl rfl ?_)))
        refine G.dec (t := 58) rfl (fun h5_58 => ?_) (fun h5_58 => ?_)
        ·refine G.kDT (t := 56) rfl h5_58 (G.kDT (t := 57) rfl h5_58 (G.gskip (t := 58) rfl rfl rfl rfl (G.gskip (t := 58) rfl rfl rfl rfl (G.gskip (t := 58) rfl rfl rfl rfl (G.gskip (t := 58) rfl rfl rfl rfl (G.gskip (t := 58) rfl rfl rfl rfl (G.gskip (t := 58) rfl rfl rfl rfl (G.gskip (t := 58) rfl rfl rfl rfl (G.q (Quiet.pickT rfl rfl) rfl (G.nil (G.then_n (G.condT rfl (G.seq (G.region (G.ag rfl rfl (G.ag rfl rfl (G.nil (G.then_n (G.ret (G.then_r ?_))))))))))))))))))))
         exact G.dn (l := [.tmp 4, .tmp 5]) rfl rfl ⟨by rw [(found_right hd hok hs.1 hn01).1 (.inr (by rw [hsE]; unfold bad2; first | exact .inl (by omega) | exact .inr (.inl (by omega)) | exact .inr (.inr (.inl (by omega))) | exact .inr (.inr (.inr (by rw [hH]; omega)))))]; rfl, rfl⟩
        ·refine G.kDF (t := 56) rfl h5_58 (G.kDF (t := 57) rfl h5_58 (G.grun (t := 58) rfl rfl rfl (G.mv rfl rfl (G.grun (t := 58) rfl rfl rfl ?_))))
         refine G.q (Quiet.to (v' := vstr (sub s 7 11)) (Quiet.strMid (i := 7) (j := 11) rfl rfl rfl Tryz.underlying9 (by omega)) rfl) rfl ?_
         refine G.grun (t := 58) rfl rfl rfl ?_
         refine G.oq (OpSpec.call Tryz.func168 rfl rfl (vs := [_]) rfl (rsmall_spec _ ?hs68)) ?nx69
         case hs68 => first | (simp; omega) | omega
         rintro v L' ⟨rfl, rfl⟩
         refine G.grun (t := 58) rfl rfl rfl (G.mv rfl rfl (G.grun (t := 58) rfl rfl rfl ?_))
         refine G.oq (OpSpec.call Tryz.func64 rfl rfl (vs := [_]) rfl (rhalf_spec _ _ _ _ _ _ _ _ ?hl72)) ?nx73
         case hl72 => exact hs
         rintro v L' ⟨rfl, rfl⟩
         refine G.grun (t := 58) rfl rfl rfl ?_
         refine G.q (Quiet.mul rfl rfl (by omega)) rfl ?_
         refine G.grun (t := 58) rfl rfl rfl (G.q (Quiet.int rfl rfl rfl) rfl (G.q (Quiet.pickF rfl rfl) rfl (G.nil (G.then_n ?_))))
         refine G.condD rfl (fun h66 => ?_) (fun h66 => ?_)
         ·refine G.seq (G.region (G.ag rfl rfl (G.ag rfl rfl (G.nil (G.then_n (G.ret (G.then_r ?_)))))))
          exact G.dn (l := [.tmp 4, .tmp 5]) rfl rfl ⟨by rw [(found_right hd hok hs.1 hn01).1 (.inr (by rw [hsE]; unfold bad2; first | exact .inl (by omega) | exact .inr (.inl (by omega)) | exact .inr (.inr (.inl (by omega))) | exact .inr (.inr (.inr (by rw [hH]; omega)))))]; rfl, rfl⟩
         ·refine G.skip (G.then_n (G.seq (G.region (G.mv rfl rfl (G.ag rfl rfl (G.ag rfl rfl (G.nil (G.then_n (G.ret ?_)))))))))
          exact G.dn (l := [.tmp 4, .tmp 5]) rfl rfl ⟨by rw [(found_right hd hok hs.1 hn01).2 (by rw [hsE]; unfold bad1 bad2; simp only [not_or]; exact ⟨⟨by simpa using h2_18, by simpa using h2_25, by simpa using h2_32, by omega, by omega⟩, by omega, by omega, by omega, by rw [hH]; omega⟩), hsE]; rfl, rfl⟩

end Go.Proofs.YtidjhgbdokcphaaGreat

/- Own work, by program: the document's log: records, Open: walked. -/

namespace Go.Proofs.YtidjhgbdokcphaaGreat
open Go
theorem rsize_spec (va : Value) (l : List Bs) (p : HP) (hp : ∀ h : Hp, p h → rdS 1 h va l.length (strs l)) (hll : (laidZ l).length ≤ 4000000000000) : Fn Tryz.prog 65 #[va] [p] fun v L => v = vint (laidZ l).length ∧ L = [p] := by
 refine Fn.intro (vs := [va]) Tryz.func65 rfl rfl ?_
 intro F W
 have hlm := laidZ_many l
 refine G.rdAny (p := p) hp (by (repeat' constructor)) fun aa ca e _ => ?_
 subst e
 refine G.seq (G.region (G.ag rfl rfl (G.nil (G.then_n (G.seq (G.region (G.ag rfl rfl (G.nil (G.then_n (G.seq (G.seq (G.region (G.ag rfl rfl (G.nil (G.then_n (G.block ?_))))))))))))))))
 refine G.loopK (ι := Nat) (fun q E => (4, vint q) :: (3, vint (laidZ (l.take q)).length) :: E) (fun q => []) (fun q => q ≤ l.length) (fun q => l.length - q) (0) (ts := [0, 2]) (.cons rfl (.cons rfl (.nil))) (Nat.zero_le _) ⟨rfl, rfl, rfl, rfl, trivial⟩ (by (repeat' constructor)) ?_
 rintro i hi
 refine G.seq (G.seq (G.region (G.mv rfl rfl (G.mv rfl rfl (G.q (Quiet.slen rfl Tryz.underlying46 rfl) rfl (G.q (Quiet.int rfl rfl rfl) rfl (G.nil (G.then_n ?_))))))))
 refine G.condD rfl (fun h8 => ?_) (fun h8 => ?_)
 ·have hi2 : i < l.length := by omega
  refine G.rdShape (p := p) hp (by (repeat' constructor)) (by omega) fun ba oa e => ?_
  subst e
  have hts := laidZ_take_len l (i + 1)
  have hsu : (laidZ (l.take (i + 1))).length = (laidZ (l.take i)).length + l[i].length + 6 := by rw [laidZ_succ hi2, List.length_append, recZ_len]; omega
  refine G.skip (G.then_n (G.seq (G.block (G.region (G.mv rfl rfl (G.mv rfl rfl (G.mv rfl rfl ?_)))))))
  refine G.q (Quiet.indexAddr rfl rfl el_46 (by omega)) rfl ?_
  refine G.q (Quiet.loadRd (sz := 1) (j := i) (p := p) (v := vstr l[i]) rfl ag_9 (by (repeat' constructor)) hp (by simp) (by simp [hi2])) rfl ?_
  refine G.q (Quiet.strlen rfl Tryz.underlying9 rfl) rfl ?_
  refine G.q (Quiet.add rfl rfl (by omega)) rfl ?_
  refine G.q (Quiet.as (v' := vint (laidZ (l.take (i + 1))).length) (by rw [hsu]; exact congrArg (Value.int .i64) (by omega)) (Quiet.add rfl rfl (by omega))) rfl ?_
  refine G.ag rfl rfl (G.nil (G.blk_n (G.then_n (G.region (G.mv rfl rfl ?_)))))
  refine G.q (Quiet.add rfl rfl (by omega)) rfl ?_
  refine G.ag rfl rfl (G.nil (G.then_n ?_))
  exact G.roundK (i + 1) (by omega) (by omega) ⟨rfl, rfl, rfl, rfl, trivial⟩ (by (repeat' constructor)) (by ((repeat (apply Have.cons; (repeat (first | exact Pick.here | apply Pick.there)))); apply Have.base; repeat' constructor))
 ·refine G.exit (G.then_e (G.then_e (G.blk_e (G.then_n (G.seq (G.region (G.mv rfl rfl (G.ag rfl rfl (G.nil (G.then_n (G.ret ?_)))))))))))
  exact G.dn (l := [.tmp 2]) rfl rfl ⟨by have hi3 : i = l.length := (by omega); rw [hi3, List.take_length], rfl⟩

theorem rrecords_spec (s : Bs) (num : Int) (hs : s.length ≤ 2147483648) : Fn Tryz.prog 169 #[vstr s, vint num] [] fun v L => (∃ l, partZ s num = some l ∧ (∃ a c, v = .tuple #[.slice a l.length c, .bool true] ∧ L = [strR (.slice a l.length c) l])) ∨ (partZ s num = none ∧ (∃ w, v = .tuple #[w, .bool false]) ∧ L = []) := by
 refine Fn.intro (vs := [vstr s, vint num]) Tryz.func169 rfl rfl ?_
 intro F W
 refine G.seq (G.region (G.ag rfl rfl (G.ag rfl rfl (G.nil (G.then_n (G.seq (G.region (G.ag rfl rfl (G.nil (G.then_n (G.seq (G.block (G.add (slR_nil 9 1) ?_)))))))))))))
 refine G.loopK (ι := Bs × (List Bs) × Nat × Value) (fun q E => (0, vstr q.1) :: (6, q.2.2.2) :: E) (fun q => [strR q.2.2.2 q.2.1]) (fun q => q.1.length < q.2.2.1 ∧ partF q.2.2.1 q.1 q.2.1 num = partZ s num ∧ q.2.1.length + q.1.length ≤ s.length ∧ ∃ a c, q.2.2.2 = .slice a q.2.1.length c) (fun q => q.1.length) (s, [], s.length + 1, .slice none 0 0) (ts := [1]) (.cons rfl (.nil)) (⟨Nat.lt_succ_self _, rfl, by simp, _, _, rfl⟩) ⟨rfl, rfl, rfl, trivial⟩ (by (repeat' constructor)) ?_
 rintro ⟨s2, out, f, u⟩ ⟨hf, hp, hle, au, cu, hu⟩
 dsimp only
 dsimp only at hf hp hle hu
 subst hu
 refine G.seq (G.seq (G.region (G.mv rfl rfl (G.q (Quiet.strlen rfl Tryz.underlying9 rfl) rfl (G.q (Quiet.int rfl rfl rfl) rfl (G.nil (G.then_n ?_)))))))
 refine G.condD rfl (fun h10 => ?_) (fun h10 => ?_)
 ·have h10b : 0 < s2.length := by simpa [bs_size] using h10
  obtain ⟨f, rfl⟩ : ∃ k, f = k + 1 := ⟨f - 1, by omega⟩
  simp only [partF] at hp
  rw [if_neg (by intro h; rw [h] at h10b; exact Nat.lt_irrefl _ h10b)] at hp
  refine G.skip (G.then_n (G.block (G.seq (G.seq (G.region (G.mv rfl rfl (G.q (Quiet.slen rfl Tryz.underlying46 rfl) rfl (G.mv rfl rfl (G.q (Quiet.int rfl rfl rfl) rfl (G.mv rfl rfl ?_))))))))))
  refine G.dec (t := 15) rfl (fun h3_15 => ?_) (fun h3_15 => ?_)
  ·refine G.kDT (t := 14) rfl h3_15 (G.gskip (t := 15) rfl rfl rfl rfl (G.gskip (t := 15) rfl rfl rfl rfl (G.gskip (t := 15) rfl rfl rfl rfl (G.q (Quiet.pickT rfl rfl) rfl (G.nil (G.then_n (G.condT rfl (G.seq (G.region (G.ag rfl rfl (G.ag rfl rfl (G.nil (G.then_n (G.ret (G.then_r (G.blk_r (G.then_r (G.blk_r (G.then_r ?_)))))))))))))))))))
   rw [if_pos (by first | exact .inl h3_15 | exact .inr (by omega))] at hp
   exact G.dn (l := [.tmp 4, .tmp 5]) rfl rfl (.inr ⟨hp.symm, ⟨_, rfl⟩, rfl⟩)
  ·refine G.kDF (t := 14) rfl h3_15 (G.grun (t := 15) rfl rfl rfl (G.mv rfl rfl (G.grun (t := 15) rfl rfl rfl (G.q (Quiet.strlen rfl Tryz.underlying9 rfl) rfl (G.grun (t := 15) rfl rfl rfl (G.q (Quiet.int rfl rfl rfl) rfl (G.q (Quiet.pickF rfl rfl) rfl (G.nil (G.then_n ?_)))))))))
   refine G.condD rfl (fun h19 => ?_) (fun h19 => ?_)
   ·refine G.seq (G.region (G.ag rfl rfl (G.ag rfl rfl (G.nil (G.then_n (G.ret (G.then_r (G.blk_r (G.then_r (G.blk_r (G.then_r ?_)))))))))))
    rw [if_pos (by first | exact .inl h3_15 | exact .inr (by omega))] at hp
    exact G.dn (l := [.tmp 4, .tmp 5]) rfl rfl (.inr ⟨hp.symm, ⟨_, rfl⟩, rfl⟩)
   ·refine G.skip (G.then_n (G.seq ?_))
    have h6 : 6 ≤ s2.length := by omega
    rw [if_neg (by rintro (h | h) <;> omega)] at hp
    refine G.region (G.mv rfl rfl ?_)
    refine G.q (Quiet.to (v' := vstr (s2.take 2)) (Quiet.strTo (j := 2) rfl rfl Tryz.underlying9 (by omega)) rfl) rfl ?_
    refine G.oq (OpSpec.call Tryz.func168 rfl rfl (vs := [_]) rfl (rsmall_spec (s2.take 2) ?hs21)) ?nx22
    case hs21 => rw [List.length_take]; omega
    rintro v L' ⟨rfl, rfl⟩
    refine G.ag rfl rfl (G.nil ?_)
    obtain ⟨hn0, hn1, -⟩ := smallZ_nonneg (s := s2.take 2) (by rw [List.length_take]; omega)
    generalize smallZ (s2.take 2) = n at *
    obtain ⟨k, rfl⟩ := Int.eq_ofNat_of_zero_le hn0
    simp only [Int.toNat_natCast] at hp
    have hn1 : k < 65536 := by rw [List.length_take, Nat.min_eq_left (by omega)] at hn1; have e : (256 : Int) ^ 2 = 65536 := rfl; omega
    refine G.then_n (G.seq (G.seq ?_))
    refine G.draw [] [[0, 1, 2, 3, 4, 5, 6, 7, 8, 9, 10, 11, 12, 13, 14, 15, 16, 17, 18, 19, 20]] mixed (by kernel_rfl) ?_
    refine Phases.go [] (by (repeat' constructor)) ?_
    refine D.kw [1, 2, 3, 4, 5, 6, 7, 8, 9, 10, 11, 12, 13, 14, 15, 16, 17, 18, 19, 20] rfl (Quiet.move rfl) ?_
    refine D.kw [2, 3, 4, 5, 6, 7, 8, 9, 10, 11, 12, 13, 14, 15, 16, 17, 18, 19, 20] rfl (Quiet.int rfl rfl rfl) ?_
    refine D.kw [3, 4, 5, 6, 7, 8, 9, 10, 11, 12, 13, 14, 15, 16, 17, 18, 19, 20] rfl (Quiet.move rfl) ?_
    refine D.dec (t := 25) rfl (fun h6_25 => ?_) (fun h6_25 => ?_)
    ·refine D.kDT (t := 24) rfl h6_25 ?_
     refine D.gs (t := 25) rfl rfl rfl rfl (by kernel_rfl) ?_
     refine D.gs (t := 25) rfl rfl rfl rfl (by kernel_rfl) ?_
     refine D.gs (t := 25) rfl rfl rfl rfl (by kernel_rfl) ?_
     refine D.gs (t := 25) rfl rfl rfl rfl (by kernel_rfl) ?_
     refine D.gs (t := 25) rfl rfl rfl rfl (by kernel_rfl) ?_
     refine D.kw [9, 10, 11, 12, 13, 14, 15, 16, 17, 18, 19, 20] rfl (Quiet.pickT rfl rfl) ?_
     refine D.kw [10, 11, 12, 13, 14, 15, 16, 17, 18, 19, 20] rfl (Quiet.move rfl) ?_
     refine D.gs (t := 32) rfl rfl rfl rfl (by kernel_rfl) ?_
     refine D.gs (t := 32) rfl rfl rfl rfl (by kernel_rfl) ?_
     refine D.gs (t := 32) rfl rfl rfl rfl (by kernel_rfl) ?_
     refine D.gs (t := 32) rfl rfl rfl rfl (by kernel_rfl) ?_
     refine D.gs (t := 32) rfl rfl rfl rfl (by kernel_rfl) ?_
     refine D.gs (t := 32) rfl rfl rfl rfl (by kernel_rfl) ?_
     refine D.gs (t := 32) rfl rfl rfl rfl (by kernel_rfl) ?_
     refine D.gs (t := 32) rfl rfl rfl rfl (by kernel_rfl) ?_
     refine D.gs (t := 32) rfl rfl rfl rfl (by kernel_rfl) ?_
     refine D.gs (t := 32) rfl rfl rfl rfl (by kernel_rfl) ?_
     refine D.kw [] rfl (Quiet.pickT rfl rfl) ?_
     refine D.ph (Phases.fin (G.then_n (G.condT rfl (G.seq (G.region (G.ag rfl rfl (G.ag rfl rfl (G.nil (G.then_n (G.ret (G.then_r (G.blk_r (G.then_r (G.blk_r (G.then_r ?_)))))))))))))))
     rw [if_pos (by first | exact .inl h6_25 | exact .inr (by omega))] at hp
     exact G.dn (l := [.tmp 4, .tmp 5]) rfl rfl (.inr ⟨hp.symm, ⟨_, rfl⟩, rfl⟩)
    ·refine D.kDF (t := 24) rfl h6_25 ?_
     refine D.gqw [4, 7, 8, 9, 10, 11, 12, 13, 14, 15, 16, 17, 18, 19, 20] (t := 25) rfl rfl rfl (by kernel_rfl) (Quiet.move rfl) ?_
     refine D.gqw [7, 8, 9, 10, 11, 12, 13, 14, 15, 16, 17, 18, 19, 20] (t := 25) rfl rfl rfl (by kernel_rfl) (Quiet.strlen rfl Tryz.underlying9 rfl) ?_
     refine D.gqw [6, 7, 8, 9, 10, 11, 12, 13, 14, 15, 16, 17, 18, 19, 20] (t := 25) rfl rfl rfl (by kernel_rfl) (Quiet.move rfl) ?_
     refine D.gqw [7, 8, 9, 10, 11, 12, 13, 14, 15, 16, 17, 18, 19, 20] (t := 25) rfl rfl rfl (by kernel_rfl) (Quiet.add rfl rfl (by omega)) ?_
     refine D.gqw [8, 9, 10, 11, 12, 13, 14, 15, 16, 17, 18, 19, 20] (t := 25) rfl rfl rfl (by kernel_rfl) (Quiet.int rfl rfl rfl) ?_
     refine D.kw [9, 10, 11, 12, 13, 14, 15, 16, 17, 18, 19, 20] rfl (Quiet.pickF rfl rfl) ?_
     refine D.kw [10, 11, 12, 13, 14, 15, 16, 17, 18, 19, 20] rfl (Quiet.move rfl) ?_
     refine D.dec (t := 32) rfl (fun h6_32 => ?_) (fun h6_32 => ?_)
     ·refine D.kDT (t := 30) rfl h6_32 (D.kDT (t := 31) rfl h6_32 ?_)
      refine D.gs (t := 32) rfl rfl rfl rfl (by kernel_rfl) ?_
      refine D.gs (t := 32) rfl rfl rfl rfl (by kernel_rfl) ?_
      refine D.gs (t := 32) rfl rfl rfl rfl (by kernel_rfl) ?_
      refine D.gs (t := 32) rfl rfl rfl rfl (by kernel_rfl) ?_
      refine D.gs (t := 32) rfl rfl rfl rfl (by kernel_rfl) ?_
      refine D.gs (t := 32) rfl rfl rfl rfl (by kernel_rfl) ?_
      refine D.gs (t := 32) rfl rfl rfl rfl (by kernel_rfl) ?_
      refine D.gs (t := 32) rfl rfl rfl rfl (by kernel_rfl) ?_
      refine D.gs (t := 32) rfl rfl rfl rfl (by kernel_rfl) ?_
      refine D.gs (t := 32) rfl rfl rfl rfl (by kernel_rfl) ?_
      refine D.kw [] rfl (Quiet.pickT rfl rfl) ?_
      refine D.ph (Phases.fin (G.then_n (G.condT rfl (G.seq (G.region (G.ag rfl rfl (G.ag rfl rfl (G.nil (G.then_n (G.ret (G.then_r (G.blk_r (G.then_r (G.blk_r (G.then_r ?_)))))))))))))))
      rw [if_pos (by first | exact .inl h6_25 | exact .inr (by omega))] at hp
      exact G.dn (l := [.tmp 4, .tmp 5]) rfl rfl (.inr ⟨hp.symm, ⟨_, rfl⟩, rfl⟩)
     ·have hk4 : k ≤ 4000 := by omega
      have hk6 : k + 6 ≤ s2.length := by omega
      refine D.kDF (t := 30) rfl h6_32 (D.kDF (t := 31) rfl h6_32 ?_)
      refine D.gqw [13, 14, 19, 20] (t := 32) rfl rfl rfl (by kernel_rfl) (Quiet.move rfl) ?_
      refine D.gqw [12, 13, 14, 19, 20] (t := 32) rfl rfl rfl (by kernel_rfl) (Quiet.move rfl) ?_
      refine D.gqw [13, 14, 19, 20] (t := 32) rfl rfl rfl (by kernel_rfl) (Quiet.add rfl rfl (by omega)) ?_
      refine D.gqw [14, 19, 20] (t := 32) rfl rfl rfl (by kernel_rfl) (Quiet.to (v' := vstr (sub s2 2 (k + 2))) (Quiet.strMid (i := 2) (j := 2 + (k : Int)) rfl rfl rfl Tryz.underlying9 (by omega)) (by rw [show (2 + (k : Int)).toNat = k + 2 by omega]; rfl)) ?_
      refine D.gm (t := 32) rfl rfl rfl (by kernel_rfl) (OpSpec.call Tryz.func123 rfl rfl (vs := [_]) rfl (rrecord_spec (sub s2 2 (k + 2)) (by rw [sub_len (by omega)]; omega))) (by (repeat' constructor)) ?nx39
      refine D.gqw [18, 19, 20] (t := 32) rfl rfl rfl (by kernel_rfl) (Quiet.move rfl) ?_
      refine D.gqw [17, 18, 19, 20] (t := 32) rfl rfl rfl (by kernel_rfl) (Quiet.move rfl) ?_
      refine D.gqw [18, 19, 20] (t := 32) rfl rfl rfl (by kernel_rfl) (Quiet.add rfl rfl (by omega)) ?_
      refine D.gqw [19, 20] (t := 32) rfl rfl rfl (by kernel_rfl) (Quiet.to (v' := vstr (s2.take (k + 6))) (Quiet.strTo (j := (k : Int) + 6) rfl rfl Tryz.underlying9 (by omega)) (by rw [show ((k : Int) + 6).toNat = k + 6 by omega])) ?_
      refine D.gqw [20] (t := 32) rfl rfl rfl (by kernel_rfl) (Quiet.strne rfl rfl) ?_
      refine D.kw [] rfl (Quiet.pickF rfl rfl) ?_
      refine D.ph (Phases.fin (G.then_n ?_))
      refine G.condN rfl (fun h43 => ?_) (fun h43 => ?_)
      ·refine G.seq (G.region (G.ag rfl rfl (G.ag rfl rfl (G.nil (G.then_n (G.ret (G.then_r (G.blk_r (G.then_r (G.blk_r (G.then_r ?_)))))))))))
       rw [if_neg (by rintro (h | h) <;> omega), if_pos (fun h => h43 h.symm)] at hp
       exact G.dn (l := [.tmp 4, .tmp 5]) rfl rfl (.inr ⟨hp.symm, ⟨_, rfl⟩, rfl⟩)
      ·refine G.skip (G.then_n (G.seq ?_))
       rw [if_neg (by rintro (h | h) <;> omega), if_neg (fun hc => hc (Eq.symm (by simpa using h43)))] at hp
       refine G.region (G.mv rfl rfl (G.mv rfl rfl (G.mv rfl rfl ?_)))
       refine G.q (Quiet.add rfl rfl (by omega)) rfl ?_
       refine G.q (Quiet.to (v' := vstr (sub s2 2 (k + 2))) (Quiet.strMid (i := 2) (j := 2 + (k : Int)) rfl rfl rfl Tryz.underlying9 (by omega)) (by rw [show (2 + (k : Int)).toNat = k + 2 by omega]; rfl)) rfl ?_
       refine G.oq (OpSpec.buildSlice1 (vs := [_]) el_46 ze_9 rfl rfl rfl rfl rfl (by decide)) ?nx51
       rintro v L' ⟨b8_5, rfl, rfl⟩
       refine G.oq (OpSpec.append1 rfl rfl rfl el_46 ze_9 rfl rfl ?c53 ?c54 (Nat.le_refl _) ?c55 (by decide)) ?nx56
       case c53 => (first | (simp [isCell]; done) | (simp [isCell, setAll, Value.cells]; done))
       case c54 => rfl
       case c55 => omega
       rintro v L' ⟨⟨a8_6, c8_6, rfl⟩, rfl⟩
       refine G.ag rfl rfl (G.nil ?_)
       refine G.slCast (m' := (out ++ [sub s2 2 (k + 2)]).length) (xs' := strs (out ++ [sub s2 2 (k + 2)])) (by (repeat' constructor)) (by simp) (by simp [strs]) ?_
       refine G.then_n (G.region (G.mv rfl rfl (G.mv rfl rfl ?_)))
       refine G.q (Quiet.add rfl rfl (by omega)) rfl ?_
       refine G.q (Quiet.to (v' := vstr (s2.drop (k + 6))) (Quiet.strFrom (i := (k : Int) + 6) rfl rfl Tryz.underlying9 (by omega)) (by rw [show ((k : Int) + 6).toNat = k + 6 by omega])) rfl ?_
       refine G.ag rfl rfl (G.nil (G.blk_n (G.then_n ?_)))
       exact G.roundK ((s2.drop (k + 6), out ++ [sub s2 2 (k + 2)], f, .slice a8_6 (out.length + 1) c8_6)) (⟨by dsimp only; rw [List.length_drop]; omega, hp, by dsimp only; rw [List.length_drop, List.length_append, List.length_singleton]; omega, _, _, by rw [List.length_append, List.length_singleton]⟩) (by dsimp only; rw [List.length_drop]; omega) ⟨rfl, rfl, rfl, trivial⟩ (by (repeat' constructor)) (by ((repeat (apply Have.cons; (repeat (first | exact Pick.here | apply Pick.there)))); apply Have.base; repeat' constructor))
 ·have h10 : s2 = [] := List.length_eq_zero_iff.1 (by have : ¬ 0 < s2.length := (by simpa [bs_size] using h10); omega)
  subst h10
  obtain ⟨f, rfl⟩ : ∃ k, f = k + 1 := ⟨f - 1, by simp at hf; omega⟩
  simp only [partF, eq_self, if_true] at hp
  refine G.exit (G.then_e (G.then_e (G.blk_e (G.then_n (G.seq (G.region (G.mv rfl rfl (G.mv rfl rfl (G.q (Quiet.slen rfl Tryz.underlying46 rfl) rfl (G.mv rfl rfl (G.q (Quiet.int rfl rfl rfl) rfl (G.ag rfl rfl (G.ag rfl rfl (G.nil (G.then_n (G.ret ?_))))))))))))))))
  split at hp
  · rename_i hq
    exact G.dn (l := [.tmp 4, .tmp 5]) rfl rfl (.inl ⟨out, hp.symm, _, _, by rw [decide_eq_true hq], rfl⟩)
  · rename_i hq
    exact G.dn (l := [.tmp 4, .tmp 5]) rfl rfl (.inr ⟨hp.symm, ⟨_, by rw [decide_eq_false hq]⟩, rfl⟩)

theorem ropen_spec (x : Nat) (ρ : Rk) (δ : Dk) (hL : ρ.L = δ.now) (hd : δ.dead = false) (hg : ρ.Gone = false) (hn : 2 ≤ δ.now.length ∧ δ.now.length ≤ 32768) (hok : δ.Ok) : Fn Tryz.prog 127 #[vptr x] [rkR x ρ] fun v L => (openZ δ = none ∧ v = .tuple #[.pointer none, vint 31] ∧ L = [rkR x ρ]) ∨ (∃ ω, openZ δ = some ω ∧ ∃ y, v = .tuple #[vptr y, vint 0] ∧ L = [rkR x ρ, rlR y x ω]) := by
 refine Fn.intro (vs := [vptr x]) Tryz.func127 rfl rfl ?_
 intro F W
 refine G.rkOpen .here fun vL vO vP hrok => ?_
 rw [hL, hg]
 refine G.slAny (v := vL) (by (repeat' constructor)) fun aL cL e lL => ?_
 subst e
 refine G.slShape (v := .slice aL _ cL) (by (repeat' constructor)) (by omega) fun bL cL' e mL _ => ?_
 simp only [Value.slice.injEq, true_and] at e
 obtain ⟨rfl, rfl⟩ := e
 have hn2 := hn.1
 have hHL : halfZ δ = halfL δ.now := rfl
 refine G.seq (G.region (G.ag rfl rfl (G.ag rfl rfl (G.nil (G.then_n (G.seq (G.seq (G.region (G.mv rfl rfl (G.q (Quiet.ptreq rfl rfl Tryz.underlying47) rfl (G.nil (G.then_n (G.condF rfl (G.skip (G.then_n (G.seq (G.seq (G.region (G.mv rfl rfl (G.q (Quiet.nilp rfl) rfl (G.q (Quiet.fieldAddr rfl fo_58_5) rfl ?_)))))))))))))))))))))
 refine G.q (Quiet.ld rfl ag_4) rfl ?_
 refine G.nil (G.then_n (G.condF rfl (G.skip (G.then_n (G.seq (G.region (G.mv rfl rfl ?_)))))))
 refine G.oq (OpSpec.call Tryz.func167 rfl rfl (vs := [_, _]) rfl (rright_spec x _ vO vP ρ.N ρ.At false δ 0 (by decide) hd hok hn)) ?nx10
 rintro v L' ⟨rfl, rfl⟩
 refine G.mv rfl rfl (G.q (Quiet.extract rfl rfl) rfl (G.q (Quiet.extract rfl rfl) rfl (G.ag rfl rfl (G.ag rfl rfl (G.nil (G.then_n (G.seq (G.region (G.mv rfl rfl ?_)))))))))
 refine G.oq (OpSpec.call Tryz.func167 rfl rfl (vs := [_, _]) rfl (rright_spec x _ vO vP ρ.N ρ.At false δ 1 (by decide) hd hok hn)) ?nx15
 rintro v L' ⟨rfl, rfl⟩
 refine G.mv rfl rfl (G.q (Quiet.extract rfl rfl) rfl (G.q (Quiet.extract rfl rfl) rfl (G.ag rfl rfl (G.ag rfl rfl (G.nil (G.then_n (G.seq ?_)))))))
 refine G.joinK (ι := Unit) (fun q E => E) (fun q => []) (fun q => ¬ (foundZ δ 0 = none ∧ foundZ δ 1 = none)) (pre := []) (ts := [0, 4, 5, 6, 7]) (.cons rfl (.cons rfl (.cons rfl (.cons rfl (.cons rfl (.nil)))))) (by (repeat' constructor)) ?_ ?_
 ·refine G.seq (G.region (G.mv rfl rfl (G.q (Quiet.not rfl) rfl (G.mv rfl rfl ?_))))
  refine G.bool (t := 33) rfl (fun h7_33 => ?_) (fun h7_33 => ?_)
  ·refine G.kB (t := 32) rfl h7_33 (G.grun (t := 33) rfl rfl rfl (G.mv rfl rfl (G.grun (t := 33) rfl rfl rfl (G.q (Quiet.not rfl) rfl (G.q (Quiet.pickT rfl rfl) rfl (G.nil (G.then_n ?_)))))))
   refine G.condB rfl (fun h36 => ?_) (fun h36 => ?_)
   ·refine G.seq (G.region (G.ag rfl rfl (G.ag rfl rfl (G.nil (G.then_n (G.ret (G.then_r ?_)))))))
    refine G.rkFold (ρ := ρ) (by (repeat' constructor)) (by rw [hg]) ⟨by rw [hL], by rw [hL]⟩ ⟨rfl, rfl⟩ ⟨rfl, rfl⟩ hrok ?_
    exact G.dn (l := [.tmp 2, .tmp 3]) rfl rfl (.inl ⟨openZ_none (by have g1 : foundZ δ 0 = none := (by rcases g : foundZ δ 0 with _ | q; rfl; rw [g] at h7_33; simp at h7_33); have g2 : foundZ δ 1 = none := (by rcases g : foundZ δ 1 with _ | q; rfl; rw [g] at h36; simp at h36); unfold bestZ; rw [g1, g2]), rfl, rfl⟩)
   ·refine G.skip (G.then_n ?_)
    exact G.meetK (()) (by rintro ⟨g1, g2⟩; rw [g2] at h36; simp at h36) ⟨rfl, rfl, rfl, rfl, rfl, trivial⟩ (by (repeat' constructor)) (by ((repeat (apply Have.cons; (repeat (first | exact Pick.here | apply Pick.there)))); apply Have.base; repeat' constructor))
  ·refine G.kB (t := 32) rfl h7_33 (G.gskip (t := 33) rfl rfl rfl rfl (G.gskip (t := 33) rfl rfl rfl rfl (G.q (Quiet.pickF rfl rfl) rfl (G.nil (G.then_n (G.condF rfl (G.skip (G.then_n ?_))))))))
   exact G.meetK (()) (by rintro ⟨g1, g2⟩; rw [g1] at h7_33; simp at h7_33) ⟨rfl, rfl, rfl, rfl, rfl, trivial⟩ (by (repeat' constructor)) (by ((repeat (apply Have.cons; (repeat (first | exact Pick.here | apply Pick.there)))); apply Have.base; repeat' constructor))
 ·rintro u0 hone
  refine G.seq (G.region (G.ag rfl rfl (G.nil (G.then_n (G.seq ?_)))))
  refine G.joinK (ι := Mk × Int) (fun q E => (8, vint q.2) :: (4, vint q.1.count) :: E) (fun q => []) (fun q => bestZ δ = some q.1 ∧ foundZ δ q.2 = some q.1 ∧ 0 ≤ q.2 ∧ q.2 ≤ 1) (pre := []) (ts := [0]) (.cons rfl (.nil)) (by (repeat' constructor)) ?_ ?_
  ·refine G.seq (G.region ?_)
   rcases hf0 : foundZ δ 0 with _ | m0
   ·refine G.mv rfl rfl ?_
    rcases hf1 : foundZ δ 1 with _ | m1
    ·exact absurd ⟨hf0, hf1⟩ hone
    ·refine G.q (Quiet.not rfl) rfl (G.mv rfl rfl (G.gskip (t := 39) rfl rfl rfl rfl (G.gskip (t := 39) rfl rfl rfl rfl (G.gskipU (t := 41) rfl rfl rfl (G.gskipU (t := 41) rfl rfl rfl (G.gskipU (t := 41) rfl rfl rfl (G.gskip (t := 39) rfl rfl rfl rfl (G.q (Quiet.pickT rfl rfl) rfl (G.nil (G.then_n (G.condT rfl (G.seq (G.region (G.ag rfl rfl (G.nil (G.then_n (G.region (G.mv rfl rfl (G.ag rfl rfl (G.nil (G.then_n ?_)))))))))))))))))))))
     exact G.meetK ((m1, 1)) (⟨by dsimp only; unfold bestZ; rw [hf0, hf1], hf1, by dsimp only; omega, by dsimp only; omega⟩) ⟨rfl, rfl, rfl, trivial⟩ (by (repeat' constructor)) (by ((repeat (apply Have.cons; (repeat (first | exact Pick.here | apply Pick.there)))); apply Have.base; repeat' constructor))
   ·refine G.mv rfl rfl ?_
    rcases hf1 : foundZ δ 1 with _ | m1
    ·refine G.q (Quiet.not rfl) rfl (G.mv rfl rfl (G.grun (t := 39) rfl rfl rfl (G.mv rfl rfl (G.grun (t := 39) rfl rfl rfl (G.mv rfl rfl (G.gskip (t := 41) rfl rfl rfl rfl (G.gskip (t := 41) rfl rfl rfl rfl (G.gskip (t := 41) rfl rfl rfl rfl (G.grun (t := 39) rfl rfl rfl (G.q (Quiet.pickF rfl rfl) rfl (G.q (Quiet.pickF rfl rfl) rfl (G.nil (G.then_n (G.condF rfl (G.skip (G.then_n ?_))))))))))))))))
     exact G.meetK ((m0, 0)) (⟨by dsimp only; unfold bestZ; rw [hf0, hf1], hf0, by dsimp only; omega, by dsimp only; omega⟩) ⟨rfl, rfl, rfl, trivial⟩ (by (repeat' constructor)) (by ((repeat (apply Have.cons; (repeat (first | exact Pick.here | apply Pick.there)))); apply Have.base; repeat' constructor))
    ·refine G.q (Quiet.not rfl) rfl (G.mv rfl rfl (G.grun (t := 39) rfl rfl rfl (G.mv rfl rfl (G.grun (t := 39) rfl rfl rfl (G.mv rfl rfl (G.grun (t := 41) rfl rfl rfl (G.mv rfl rfl (G.grun (t := 41) rfl rfl rfl (G.mv rfl rfl (G.grun (t := 41) rfl rfl rfl (G.q (Quiet.int rfl rfl rfl) rfl (G.grun (t := 39) rfl rfl rfl (G.q (Quiet.pickT rfl rfl) rfl (G.q (Quiet.pickF rfl rfl) rfl (G.nil (G.then_n ?_))))))))))))))))
     refine G.condD rfl (fun h46 => ?_) (fun h46 => ?_)
     ·refine G.seq (G.region (G.ag rfl rfl (G.nil (G.then_n (G.region (G.mv rfl rfl (G.ag rfl rfl (G.nil (G.then_n ?_)))))))))
      exact G.meetK ((m1, 1)) (⟨by dsimp only; unfold bestZ; rw [hf0, hf1]; exact congrArg some (if_pos h46), hf1, by dsimp only; omega, by dsimp only; omega⟩) ⟨rfl, rfl, rfl, trivial⟩ (by (repeat' constructor)) (by ((repeat (apply Have.cons; (repeat (first | exact Pick.here | apply Pick.there)))); apply Have.base; repeat' constructor))
     ·refine G.skip (G.then_n ?_)
      exact G.meetK ((m0, 0)) (⟨by dsimp only; unfold bestZ; rw [hf0, hf1]; exact congrArg some (if_neg h46), hf0, by dsimp only; omega, by dsimp only; omega⟩) ⟨rfl, rfl, rfl, trivial⟩ (by (repeat' constructor)) (by ((repeat (apply Have.cons; (repeat (first | exact Pick.here | apply Pick.there)))); apply Have.base; repeat' constructor))
  ·rintro ⟨m, n⟩ ⟨hbest, hfm, hn01⟩
   dsimp only
   dsimp only at hbest hfm hn01
   refine G.seq ?_
   have hm := bestZ_some hok hbest
   obtain ⟨e1, e2, e3, e4⟩ := bytesZ_len hok hn2 hm
   have hml := hm.len
   have hma := hm.area
   have hmn := hm.num
   have hhalf : halfZ δ ≤ 16383 := by unfold halfZ; omega
   have hpm := found_parse hd hn2 hn01 hfm
   have hnn : n.toNat < δ.now.length := by omega
   have hsl : (δ.now[n.toNat]).length = 64 := hok.sec _ (List.getElem_mem _)
   generalize hsE0 : δ.now[n.toNat] = s at hsl
   have hsE : δ.now.getD n.toNat [] = s := by rw [← hsE0]; simp [hnn]
   rw [hsE] at hpm
   have hz1 : smallZ (sub s 7 11) = m.len := by rw [hpm]; rfl
   have hz2 : smallZ (sub s 11 15) = m.num := by rw [hpm]; rfl
   have hz3 : smallZ (sub s 15 23) = m.a := by rw [hpm]; rfl
   have hz4 : smallZ (sub s 23 31) = m.b := by rw [hpm]; rfl
   have hz5 : m.area = ((s.getD 6 0).toNat : Int) := by rw [hpm]; exact small_area (by omega)
   have hq1 : (sub s 7 11).length = 4 := by rw [sub_len (by omega)]
   have hq2 : (sub s 11 15).length = 4 := by rw [sub_len (by omega)]
   have hq3 : (sub s 15 23).length = 8 := by rw [sub_len (by omega)]
   have hq4 : (sub s 23 31).length = 8 := by rw [sub_len (by omega)]
   refine G.region (G.mv rfl rfl (G.q (Quiet.nilp rfl) rfl (G.q (Quiet.fieldAddr rfl fo_58_0) rfl ?_)))
   refine G.q (Quiet.ld rfl ag_46) rfl ?_
   refine G.mv rfl rfl ?_
   refine G.q (Quiet.indexAddr rfl rfl el_46 (by omega)) rfl ?_
   refine G.q (Quiet.to (v' := vstr s) (Quiet.loadSl (v := vstr δ.now[n.toNat]) (i := n.toNat * 1) rfl ag_9 (by (repeat' constructor)) (by simp [hnn])) (by rw [hsE0])) rfl ?_
   refine G.ag rfl rfl (G.nil (G.then_n (G.seq (G.region (G.mv rfl rfl ?_)))))
   refine G.q (Quiet.strIndex (c := s.getD 6 0) rfl rfl Tryz.underlying9 (by omega) (by simp [hsl])) rfl ?_
   refine G.q (Quiet.as (v' := vint m.area) (by rw [hz5]; exact congrArg (Value.int .i64) (i64w (by omega))) (Quiet.conv rfl Tryz.underlying5 Tryz.underlying3)) rfl ?_
   refine G.ag rfl rfl (G.nil (G.then_n (G.seq (G.region (G.ag rfl rfl (G.nil (G.then_n (G.seq (G.seq (G.region (G.ag rfl rfl (G.nil (G.then_n (G.block (G.add (slR_nil 5 1) ?_)))))))))))))))
   refine G.loopK (ι := Nat × Value) (fun q E => (11, q.2) :: (12, vint q.1) :: E) (fun q => [bytR q.2 (areaZ δ m.area q.1)]) (fun q => q.1 ≤ secs m ∧ ∃ a c, q.2 = .slice a (areaZ δ m.area q.1).length c) (fun q => secs m - q.1) (0, .slice none 0 0) (ts := [0, 4, 9, 10]) (.cons rfl (.cons rfl (.cons rfl (.cons rfl (.nil))))) (⟨Nat.zero_le _, _, _, rfl⟩) ⟨rfl, rfl, rfl, rfl, rfl, rfl, trivial⟩ (by (repeat' constructor)) ?_
   rintro ⟨i, u⟩ ⟨hi, au, cu, hu⟩
   dsimp only
   dsimp only at hi hu
   subst hu
   have hal := areaZ_len hok hn2 hma i (by omega)
   refine G.seq (G.seq (G.region (G.mv rfl rfl (G.q (Quiet.slen rfl Tryz.underlying125 rfl) rfl (G.mv rfl rfl ?_)))))
   refine G.q (Quiet.to (v' := vstr (sub s 7 11)) (Quiet.strMid (i := 7) (j := 11) rfl rfl rfl Tryz.underlying9 (by omega)) rfl) rfl ?_
   refine G.oq (OpSpec.call Tryz.func168 rfl rfl (vs := [_]) rfl (rsmall_spec (sub s 7 11) (by omega))) ?nx56
   rintro v L' ⟨rfl, rfl⟩; rw [hz1]
   refine G.q (Quiet.int rfl rfl rfl) rfl (G.nil (G.then_n ?_))
   refine G.condD rfl (fun h63 => ?_) (fun h63 => ?_)
   ·have hi2 : i < secs m := by unfold secs; omega
    have hix := area_idx hn2 hma (i := i) (by omega)
    have hixn : (2 + m.area * halfZ δ + i).toNat < δ.now.length := by omega
    have hslx := getD_mem64' hok.sec (i := (2 + m.area * halfZ δ + i).toNat) (by omega)
    have hmul : 0 ≤ m.area * halfZ δ ∧ m.area * halfZ δ ≤ 16383 := by rcases (by omega : m.area = 0 ∨ m.area = 1) with h | h <;> rw [h] <;> unfold halfZ <;> omega
    refine G.skip (G.then_n (G.seq (G.block ?_)))
    refine G.draw [14] [[0, 1, 2, 3, 4, 5, 6, 7, 8, 9, 10, 11, 12, 13, 14], [15]] mixed (by kernel_rfl) ?_
    refine Phases.go [rkC x _ vO vP ρ.N ρ.At false, strR _ δ.now] (by (repeat' constructor)) ?_
    refine D.kw [14] rfl (Quiet.move rfl) ?_
    refine D.kw [2, 3, 4, 12, 13, 14] rfl (Quiet.move rfl) ?_
    refine D.kw [3, 4, 12, 13, 14] rfl (Quiet.nilp rfl) ?_
    refine D.kw [4, 12, 13, 14] rfl (Quiet.fieldAddr rfl fo_58_0) ?_
    refine D.kw [12, 13, 14] rfl (Quiet.ld rfl ag_46) ?_
    refine D.kw [8, 9, 11, 12, 13, 14] rfl (Quiet.move rfl) ?_
    refine D.kw [7, 8, 9, 11, 12, 13, 14] rfl (Quiet.move rfl) ?_
    refine D.m rfl (by kernel_rfl) (OpSpec.call Tryz.func64 rfl rfl (vs := [_]) rfl (rhalf_spec x _ vO vP ρ.N ρ.At false δ.now hn)) (by (repeat' constructor)) ?nx66
    rw [← hHL]
    refine D.kw [9, 11, 12, 13, 14] rfl (Quiet.mul rfl rfl (by omega)) ?_
    refine D.kw [11, 12, 13, 14] rfl (Quiet.add rfl rfl (by omega)) ?_
    refine D.kw [11, 12, 13, 14] rfl (Quiet.move rfl) ?_
    refine D.kw [12, 13, 14] rfl (Quiet.add rfl rfl (by omega)) ?_
    refine D.kw [13, 14] rfl (Quiet.indexAddr rfl rfl el_46 (by omega)) ?_
    refine D.kw [14] rfl (Quiet.to (v' := vstr (δ.now.getD (2 + m.area * halfZ δ + i).toNat [])) (Quiet.loadSl (v := vstr δ.now[(2 + m.area * halfZ δ + i).toNat]) (i := (2 + m.area * halfZ δ + i).toNat * 1) rfl ag_9 (by (repeat' constructor)) (by simp [hixn])) (by simp [hixn])) ?_
    refine D.h rfl (by kernel_rfl) (OpSpec.appendS rfl rfl rfl el_125 Tryz.underlying9 ze_5 rfl rfl ?hb74 (by decide)) (by (repeat' constructor)) ?nx75
    case hb74 => omega
    rintro v L' ⟨⟨a16, c16, rfl⟩, rfl⟩
    refine D.ph ?_
    refine Phases.go [] (by (repeat' constructor)) ?_
    refine D.kw [] rfl (Quiet.assign rfl) ?_
    refine D.ph (Phases.fin (G.blk_n (G.then_n (G.region (G.mv rfl rfl ?_)))))
    refine G.q (Quiet.add rfl rfl (by omega)) rfl ?_
    refine G.ag rfl rfl (G.nil (G.then_n ?_))
    rw [show bysL (areaZ δ m.area i) ++ (δ.now.getD (2 + m.area * halfZ δ + i).toNat []).map vbyte = bysL (areaZ δ m.area (i + 1)) by rw [areaZ_succ, bysL_append]; rfl, show (areaZ δ m.area i).length + (δ.now.getD (2 + m.area * halfZ δ + i).toNat []).length = (areaZ δ m.area (i + 1)).length by rw [areaZ_succ, List.length_append]]
    exact G.roundK ((i + 1, .slice a16 (areaZ δ m.area (i + 1)).length c16)) (⟨by dsimp only; omega, _, _, rfl⟩) (by dsimp only; omega) ⟨rfl, rfl, rfl, rfl, rfl, rfl, trivial⟩ (by (repeat' constructor)) (by ((repeat (apply Have.cons; (repeat (first | exact Pick.here | apply Pick.there)))); apply Have.base; repeat' constructor))
   ·have hi3 : i = secs m := by unfold secs; unfold secs at hi; omega
    subst hi3
    refine G.slAddr (a := au) (c := cu) (by (repeat' constructor)) fun hcap hadr => ?_
    refine G.slTo (m := (areaZ δ m.area (secs m)).length) (k := m.len.toNat) (by omega) (by (repeat' constructor)) ?_
    refine G.slCast (m' := (bytesZ δ m).length) (xs' := bysL (bytesZ δ m)) (by (repeat' constructor)) e3.symm (by rw [show bytesZ δ m = (areaZ δ m.area (secs m)).take m.len.toNat from rfl]; simp [bysL, List.map_take]) ?_
    rw [← e3]
    refine G.exit (G.then_e (G.then_e (G.blk_e (G.then_n (G.seq ?_)))))
    refine G.draw [9] [[0, 1, 2, 3, 4, 5, 6, 7, 8, 9], [10, 11, 12, 13, 14]] mixed (by kernel_rfl) ?_
    refine Phases.go [] (by (repeat' constructor)) ?_
    refine D.kw [4, 5, 9] rfl (Quiet.move rfl) ?_
    refine D.kw [2, 3, 4, 5, 8, 9] rfl (Quiet.move rfl) ?_
    refine D.kw [3, 4, 5, 8, 9] rfl (Quiet.to (v' := vstr (sub s 7 11)) (Quiet.strMid (i := 7) (j := 11) rfl rfl rfl Tryz.underlying9 (by omega)) rfl) ?_
    refine D.m rfl (by kernel_rfl) (OpSpec.call Tryz.func168 rfl rfl (vs := [_]) rfl (rsmall_spec (sub s 7 11) (by omega))) (by (repeat' constructor)) ?nx82
    rw [hz1]
    refine D.kw [5, 9] rfl (Quiet.to (v' := .slice au (bytesZ δ m).length cu) (Quiet.slTo (j := m.len) rfl el_125 rfl (by omega) hadr) (by rw [e3])) ?_
    refine D.kw [9] rfl (Quiet.bytesBy (cs := bytesZ δ m) (n := (bytesZ δ m).length) (p := bytR (.slice au (bytesZ δ m).length cu) (bytesZ δ m)) rfl Tryz.underlying125 Tryz.underlying5 Tryz.underlying9 (fun h hp => slR_rd hp) (by (repeat' constructor))) ?_
    refine D.kw [7, 8, 9] rfl (Quiet.move rfl) ?_
    refine D.kw [8, 9] rfl (Quiet.to (v' := vstr (sub s 11 15)) (Quiet.strMid (i := 11) (j := 15) rfl rfl rfl Tryz.underlying9 (by omega)) rfl) ?_
    refine D.m rfl (by kernel_rfl) (OpSpec.call Tryz.func168 rfl rfl (vs := [_]) rfl (rsmall_spec (sub s 11 15) (by omega))) (by (repeat' constructor)) ?nx88
    rw [hz2]
    refine D.h rfl (by kernel_rfl) (OpSpec.call Tryz.func169 rfl rfl (vs := [_, _]) rfl (rrecords_spec (bytesZ δ m) m.num ?hs90)) (by (repeat' constructor)) ?nx91
    case hs90 => omega
    rintro v L' (⟨l, hpart, ap, cp, rfl, rfl⟩ | ⟨hpart, ⟨w, rfl⟩, rfl⟩)
    ·obtain ⟨hl1, hl2⟩ := partZ_laid hpart
     have hlm := laidZ_many l
     rw [hl1] at hlm
     refine D.ph ?_
     refine Phases.go [] (by (repeat' constructor)) ?_
     refine D.kw [11, 12, 13, 14] rfl (Quiet.move rfl) ?_
     refine D.kw [13, 14] rfl (Quiet.extract rfl rfl) ?_
     refine D.kw [14] rfl (Quiet.extract rfl rfl) ?_
     refine D.kw [14] rfl (Quiet.assign rfl) ?_
     refine D.kw [] rfl (Quiet.assign rfl) ?_
     refine D.ph (Phases.fin (G.then_n (G.seq (G.seq (G.region (G.mv rfl rfl (G.q (Quiet.not rfl) rfl (G.nil (G.then_n (G.condF rfl (G.skip (G.then_n (G.seq ?_)))))))))))))
     refine G.draw [13] [[0, 1, 2, 3, 4, 5, 6, 7, 8, 9, 10, 11, 12, 13], [14, 15]] mixed (by kernel_rfl) ?_
     refine Phases.go [] (by (repeat' constructor)) ?_
     refine D.kw [12, 13] rfl (Quiet.move rfl) ?_
     refine D.kw [12, 13] rfl (Quiet.move rfl) ?_
     refine D.kw [3, 12, 13] rfl (Quiet.move rfl) ?_
     refine D.kw [12, 13] rfl (Quiet.slen rfl Tryz.underlying46 rfl) ?_
     refine D.kw [12, 13] rfl (Quiet.move rfl) ?_
     refine D.kw [12, 13] rfl (Quiet.move rfl) ?_
     refine D.kw [7, 8, 11, 12, 13] rfl (Quiet.move rfl) ?_
     refine D.kw [8, 11, 12, 13] rfl (Quiet.to (v' := vstr (sub s 15 23)) (Quiet.strMid (i := 15) (j := 23) rfl rfl rfl Tryz.underlying9 (by omega)) rfl) ?_
     refine D.m rfl (by kernel_rfl) (OpSpec.call Tryz.func168 rfl rfl (vs := [_]) rfl (rsmall_spec (sub s 15 23) (by omega))) (by (repeat' constructor)) ?nx102
     rw [hz3]
     refine D.kw [10, 11, 12, 13] rfl (Quiet.move rfl) ?_
     refine D.kw [11, 12, 13] rfl (Quiet.to (v' := vstr (sub s 23 31)) (Quiet.strMid (i := 23) (j := 31) rfl rfl rfl Tryz.underlying9 (by omega)) rfl) ?_
     refine D.m rfl (by kernel_rfl) (OpSpec.call Tryz.func168 rfl rfl (vs := [_]) rfl (rsmall_spec (sub s 23 31) (by omega))) (by (repeat' constructor)) ?nx106
     rw [hz4]
     refine D.kw [13] rfl (Quiet.build (us := [(0, _), (1, _), (2, _), (3, _), (4, _), (5, _), (6, _)]) fl_114 ze_114 rfl rfl (by simp [isCell])) ?_
     refine D.h rfl (by kernel_rfl) (OpSpec.box rfl) (by (repeat' constructor)) ?nx109
     rintro v L' ⟨y, rfl, rfl⟩
     refine D.ph ?_
     refine Phases.go [] (by (repeat' constructor)) ?_
     refine D.kw [15] rfl (Quiet.assign rfl) ?_
     refine D.kw [] rfl (Quiet.assign rfl) ?_
     refine D.ph (Phases.fin (G.then_n (G.ret ?_)))
     refine G.rlFold (y := y) (x := x) (ω := ⟨l, l.length, m.area, m.count, m.a, m.b, false⟩) (by (repeat' constructor)) rfl rfl rfl ?_
     refine G.rkFold (ρ := ρ) (by (repeat' constructor)) (by rw [hg]) ⟨by rw [hL], by rw [hL]⟩ ⟨rfl, rfl⟩ ⟨rfl, rfl⟩ hrok ?_
     exact G.dn (l := [.tmp 2, .tmp 3]) rfl rfl (.inr ⟨_, by rw [openZ_some hbest]; unfold openB; rw [hpart], _, rfl, rfl⟩)
    ·refine D.ph ?_
     refine Phases.go [] (by (repeat' constructor)) ?_
     refine D.kw [11, 12, 13, 14] rfl (Quiet.move rfl) ?_
     refine D.kw [13, 14] rfl (Quiet.extract rfl rfl) ?_
     refine D.kw [14] rfl (Quiet.extract rfl rfl) ?_
     refine D.kw [14] rfl (Quiet.assign rfl) ?_
     refine D.kw [] rfl (Quiet.assign rfl) ?_
     refine D.ph (Phases.fin (G.then_n (G.seq (G.seq (G.region (G.mv rfl rfl (G.q (Quiet.not rfl) rfl (G.nil (G.then_n (G.condT rfl (G.seq (G.region (G.ag rfl rfl (G.ag rfl rfl (G.nil (G.then_n (G.ret (G.then_r ?_))))))))))))))))))
     refine G.rkFold (ρ := ρ) (by (repeat' constructor)) (by rw [hg]) ⟨by rw [hL], by rw [hL]⟩ ⟨rfl, rfl⟩ ⟨rfl, rfl⟩ hrok ?_
     exact G.dn (l := [.tmp 2, .tmp 3]) rfl rfl (.inl ⟨by rw [openZ_some hbest]; unfold openB; rw [hpart], rfl, rfl⟩)

end Go.Proofs.YtidjhgbdokcphaaGreat

/- Own work: the document's disk that is as a plain one. -/

namespace Go.Proofs.YtidjhgbdokcphaaGreat
open Go

def dsR (x : Nat) (δ : Dk) : HP := fun h => ∃ ρ : Rk, (Rel δ ρ ∧ 0 ≤ ρ.N) ∧ sep [rkR x ρ] h
section
variable {P : Program} {W : World} {n : Nat} {ds : List Deferred} {E : Env} {L R : List HP} {X : Act → World → Prop}
theorem G.dsOpen {x : Nat} {δ : Dk} (hL : Pick (dsR x δ) L R) (h : ∀ ρ, Rel δ ρ → 0 ≤ ρ.N → G W n ds E (rkR x ρ :: R) X) : G W n ds E L X :=
  G.focus hL (G.open (q := fun ρ : Rk => [rkR x ρ]) (φ := fun ρ => Rel δ ρ ∧ 0 ≤ ρ.N) (fun _ hp => hp) fun ρ hr => h ρ hr.1 hr.2)
theorem G.dsFold {x : Nat} {δ : Dk} {ρ : Rk} (hL : Picks [rkR x ρ] L R) (hr : Rel δ ρ) (hn : 0 ≤ ρ.N) (h : G W n ds E (dsR x δ :: R) X) : G W n ds E L X :=
  G.fold hL (fun _ hp => ⟨ρ, ⟨hr, hn⟩, hp⟩) h
theorem Fn.dsUp {f : FuncId} {args : Array Value} {x : Nat} {δ δ' : Dk} {u : Value} (h : ∀ ρ, Rel δ ρ → 0 ≤ ρ.N → Fn P f args [rkR x ρ] fun v L => ∃ ρ', (Rel δ' ρ' ∧ 0 ≤ ρ'.N) ∧ v = u ∧ L = [rkR x ρ']) :
    Fn P f args [dsR x δ] fun v L => v = u ∧ L = [dsR x δ'] := by
  intro F w hs
  obtain ⟨h1, h2, hd, a1, a2, ⟨ρ, ⟨hr, hn⟩, hp⟩, hF⟩ := hs
  have hs' : St ([rkR x ρ] ++ F) w := sep_flat ⟨h1, h2, hd, a1, a2, hp, hF⟩
  refine (h ρ hr hn F w hs').mono ?_
  rintro e w' ⟨v, L, ⟨ρ', h3, rfl, rfl⟩, he, hs2, hk⟩
  refine ⟨_, _, ⟨rfl, rfl⟩, he, sep_imp (fun hh hq => ⟨ρ', h3, hh, fun _ => none, fun _ => .inr rfl, fun _ _ e => e, fun _ _ e => (by cases e), hq, trivial⟩) hs2, hk⟩
end
theorem rk_write_N (ρ : Rk) (n : Int) (s : Bs) (h : 0 ≤ ρ.N) : 0 ≤ (ρ.write n s).1.N := by
  unfold Rk.write
  split
  · exact h
  · split
    · exact h
    · show 0 ≤ ρ.N + 1; omega
theorem rk_sync_N (ρ : Rk) (h : 0 ≤ ρ.N) : 0 ≤ ρ.sync.1.N := by
  unfold Rk.sync
  split
  · exact h
  · split
    · show 0 ≤ ρ.N + 1; omega
    · show 0 ≤ ρ.N + 1; omega
theorem dswrite_spec (x : Nat) (δ : Dk) (n : Int) (s : Bs) (hA : δ.acts < 4611686018427387904) : Fn Tryz.prog 59 #[vptr x, vint n, vstr s] [dsR x δ] fun v L => v = vint (δ.write n s).2 ∧ L = [dsR x (δ.write n s).1] :=
  Fn.dsUp fun ρ hr hn => (rwrite_spec x ρ n s ⟨hn, by rw [← hr.acts]; exact hA⟩).mono fun v L ⟨h1, h2⟩ => by
    obtain ⟨q1, q2⟩ := hr.write (by rw [← hr.acts]; exact hA) n s
    exact ⟨_, ⟨q2, rk_write_N ρ n s hn⟩, by rw [h1, q1], h2⟩
theorem dssync_spec (x : Nat) (δ : Dk) (hA : δ.acts < 4611686018427387904) : Fn Tryz.prog 61 #[vptr x] [dsR x δ] fun v L => v = vint δ.sync.2 ∧ L = [dsR x δ.sync.1] :=
  Fn.dsUp fun ρ hr hn => (rsync_spec x ρ ⟨hn, by rw [← hr.acts]; exact hA⟩).mono fun v L ⟨h1, h2⟩ => by
    obtain ⟨q1, q2⟩ := hr.sync (by rw [← hr.acts]; exact hA)
    exact ⟨_, ⟨q2, rk_sync_N ρ hn⟩, by rw [h1, q1], h2⟩
abbrev lc (y x : Nat) (vr : Value) (sy ar ct a b : Int) (db : Bool) : HP := ptc y [vptr x, vr, vint sy, vint ar, vint ct, vint a, vint b, .bool db] 114
theorem laySec_eq (all : Bs) (i : Nat) (h : i * 64 < all.length) : ((all.take (min ((i + 1) * 64) all.length)).drop (i * 64)) ++ List.replicate (64 - ((all.take (min ((i + 1) * 64) all.length)).drop (i * 64)).length) 0 = laySec all i := by
  unfold laySec
  have e : (all.take (min ((i + 1) * 64) all.length)).drop (i * 64) = (all.drop (i * 64)).take 64 := by
    rw [List.drop_take]
    rcases Nat.le_total ((i + 1) * 64) all.length with g | g
    · rw [Nat.min_eq_left g, show (i + 1) * 64 - i * 64 = 64 by omega]
    · rw [Nat.min_eq_right g, List.take_of_length_le (by rw [List.length_drop]; exact Nat.le_refl _), List.take_of_length_le (by rw [List.length_drop]; omega)]
  rw [e]
  try rfl
end Go.Proofs.YtidjhgbdokcphaaGreat

/- Own work, by program: the document's log, what it writes: walked. -/

namespace Go.Proofs.YtidjhgbdokcphaaGreat
open Go
theorem rall_spec (va : Value) (l : List Bs) (p : HP) (hp : ∀ h : Hp, p h → rdS 1 h va l.length (strs l)) (hll : (laidZ l).length ≤ 2100000000) : Fn Tryz.prog 67 #[va] [p] fun v L => v = vstr (laidZ l) ∧ L = [p] := by
 refine Fn.intro (vs := [va]) Tryz.func67 rfl rfl ?_
 intro F W
 have hlm := laidZ_many l
 refine G.rdAny (p := p) hp (by (repeat' constructor)) fun aa ca e _ => ?_
 subst e
 refine G.seq (G.region (G.ag rfl rfl (G.nil (G.then_n (G.seq (G.region (G.ag rfl rfl (G.nil (G.then_n (G.seq (G.seq (G.region (G.ag rfl rfl (G.nil (G.then_n (G.block ?_))))))))))))))))
 refine G.loopK (ι := Nat) (fun q E => (4, vint q) :: (3, vstr (laidZ (l.take q))) :: E) (fun q => []) (fun q => q ≤ l.length) (fun q => l.length - q) (0) (ts := [0, 2]) (.cons rfl (.cons rfl (.nil))) (Nat.zero_le _) ⟨rfl, rfl, rfl, rfl, trivial⟩ (by (repeat' constructor)) ?_
 rintro i hi
 refine G.seq (G.seq (G.region (G.mv rfl rfl (G.mv rfl rfl (G.q (Quiet.slen rfl Tryz.underlying46 rfl) rfl (G.q (Quiet.int rfl rfl rfl) rfl (G.nil (G.then_n ?_))))))))
 refine G.condD rfl (fun h8 => ?_) (fun h8 => ?_)
 ·have hi2 : i < l.length := by omega
  refine G.rdShape (p := p) hp (by (repeat' constructor)) (by omega) fun ba oa e => ?_
  subst e
  have hts := laidZ_take_len l (i + 1)
  have hsu := laidZ_succ hi2
  have hsl : (laidZ (l.take (i + 1))).length = (laidZ (l.take i)).length + l[i].length + 6 := by rw [hsu, List.length_append, recZ_len]; omega
  refine G.skip (G.then_n (G.seq (G.block (G.region (G.mv rfl rfl (G.mv rfl rfl (G.mv rfl rfl ?_)))))))
  refine G.q (Quiet.indexAddr rfl rfl el_46 (by omega)) rfl ?_
  refine G.q (Quiet.loadRd (sz := 1) (j := i) (p := p) (v := vstr l[i]) rfl ag_9 (by (repeat' constructor)) hp (by simp) (by simp [hi2])) rfl ?_
  refine G.oq (OpSpec.call Tryz.func123 rfl rfl (vs := [_]) rfl (rrecord_spec l[i] (by omega))) ?nx13
  rintro v L' ⟨rfl, rfl⟩
  refine G.q (Quiet.as (v' := vstr (laidZ (l.take (i + 1)))) (by rw [hsu]) (Quiet.concat rfl rfl (by rw [recZ_len]; omega))) rfl ?_
  refine G.ag rfl rfl (G.nil (G.blk_n (G.then_n (G.region (G.mv rfl rfl ?_)))))
  refine G.q (Quiet.add rfl rfl (by omega)) rfl ?_
  refine G.ag rfl rfl (G.nil (G.then_n ?_))
  exact G.roundK (i + 1) (by omega) (by omega) ⟨rfl, rfl, rfl, rfl, trivial⟩ (by (repeat' constructor)) (by ((repeat (apply Have.cons; (repeat (first | exact Pick.here | apply Pick.there)))); apply Have.base; repeat' constructor))
 ·refine G.exit (G.then_e (G.then_e (G.blk_e (G.then_n (G.seq (G.region (G.mv rfl rfl (G.ag rfl rfl (G.nil (G.then_n (G.ret ?_)))))))))))
  exact G.dn (l := [.tmp 2]) rfl rfl ⟨by have hi3 : i = l.length := (by omega); rw [hi3, List.take_length], rfl⟩

theorem rmark4_spec (c ar a b : Int) (va : Value) (l : List Bs) (p : HP) (hp : ∀ h : Hp, p h → rdS 1 h va l.length (strs l)) (hll : (laidZ l).length ≤ 2100000000) (hc : 0 ≤ c ∧ c ≤ 4294967296) (har : 0 ≤ ar ∧ ar ≤ 1) (ha : 0 ≤ a ∧ a ≤ 9223372036854775807) (hb : 0 ≤ b ∧ b ≤ 9223372036854775807) : Fn Tryz.prog 60 #[vint c, vint ar, va, vint a, vint b] [p] fun v L => v = vstr (⟨c, ar, (laidZ l).length, l.length, a, b⟩ : Mk).sec ∧ L = [p] := by
 refine Fn.intro (vs := [vint c, vint ar, va, vint a, vint b]) Tryz.func60 rfl rfl ?_
 intro F W
 have hlm := laidZ_many l
 have e4 := beB_len 4
 have e1 := beB_len 1
 have e8 := beB_len 8
 refine G.rdAny (p := p) hp (by (repeat' constructor)) fun aa ca e _ => ?_
 subst e
 refine G.seq (G.region (G.ag rfl rfl (G.nil (G.then_n (G.seq (G.region (G.mv rfl rfl ?_)))))))
 refine G.oq (OpSpec.call Tryz.func122 rfl rfl (vs := [_, _]) rfl (rbig_spec c 4 (by omega) (by decide))) ?nx3
 rintro v L' ⟨rfl, rfl⟩
 refine G.q (Quiet.concat rfl rfl (by simp only [List.length_append, beB_len, List.length_cons, List.length_nil]; omega)) rfl ?_
 refine G.mv rfl rfl ?_
 refine G.oq (OpSpec.call Tryz.func122 rfl rfl (vs := [_, _]) rfl (rbig_spec ar 1 (by omega) (by decide))) ?nx7
 rintro v L' ⟨rfl, rfl⟩
 refine G.q (Quiet.concat rfl rfl (by simp only [List.length_append, beB_len, List.length_cons, List.length_nil]; omega)) rfl ?_
 refine G.mv rfl rfl ?_
 refine G.oq (OpSpec.call Tryz.func65 rfl rfl (vs := [_]) rfl (rsize_spec _ l p hp (by omega))) ?nx11
 rintro v L' ⟨rfl, rfl⟩
 refine G.oq (OpSpec.call Tryz.func122 rfl rfl (vs := [_, _]) rfl (rbig_spec ((laidZ l).length : Nat) 4 (by omega) (by decide))) ?nx13
 rintro v L' ⟨rfl, rfl⟩
 refine G.q (Quiet.concat rfl rfl (by simp only [List.length_append, beB_len, List.length_cons, List.length_nil]; omega)) rfl ?_
 refine G.mv rfl rfl (G.q (Quiet.slen rfl Tryz.underlying46 rfl) rfl ?_)
 refine G.oq (OpSpec.call Tryz.func122 rfl rfl (vs := [_, _]) rfl (rbig_spec (l.length : Nat) 4 (by omega) (by decide))) ?nx18
 rintro v L' ⟨rfl, rfl⟩
 refine G.q (Quiet.concat rfl rfl (by simp only [List.length_append, beB_len, List.length_cons, List.length_nil]; omega)) rfl ?_
 refine G.mv rfl rfl ?_
 refine G.oq (OpSpec.call Tryz.func122 rfl rfl (vs := [_, _]) rfl (rbig_spec a 8 (by omega) (by decide))) ?nx22
 rintro v L' ⟨rfl, rfl⟩
 refine G.q (Quiet.concat rfl rfl (by simp only [List.length_append, beB_len, List.length_cons, List.length_nil]; omega)) rfl ?_
 refine G.mv rfl rfl ?_
 refine G.oq (OpSpec.call Tryz.func122 rfl rfl (vs := [_, _]) rfl (rbig_spec b 8 (by omega) (by decide))) ?nx26
 rintro v L' ⟨rfl, rfl⟩
 refine G.q (Quiet.concat rfl rfl (by simp only [List.length_append, beB_len, List.length_cons, List.length_nil]; omega)) rfl ?_
 refine G.ag rfl rfl (G.nil (G.then_n (G.seq ?_)))
 refine G.draw [1] [[0, 4, 5, 1, 2, 3], [6, 7]] mixed (by kernel_rfl) ?_
 refine Phases.go [] (by (repeat' constructor)) ?_
 refine D.k rfl (Quiet.move rfl) ?_
 refine D.k rfl (Quiet.move rfl) ?_
 refine D.m rfl (by kernel_rfl) (OpSpec.call Tryz.func122 rfl rfl (vs := [_, _]) rfl (rbig_spec c 4 (by omega) (by decide))) (by (repeat' constructor)) ?nx30
 refine D.h rfl (by kernel_rfl) (OpSpec.make rfl rfl el_125 ze_5 rfl ⟨by simp, by simp; rfl⟩ ?c32) (by (repeat' constructor)) ?nx33
 case c32 => omega
 rintro v L' ⟨bz, rfl, rfl⟩
 refine D.kw [3] rfl (Quiet.bytesPt (cs := List.replicate 29 0) rfl Tryz.underlying125 Tryz.underlying5 Tryz.underlying9 (by (repeat' constructor)) (by first | (simp [List.map_replicate]; done) | (simp [List.map_replicate]; rfl)) (by simp) (by decide)) ?_
 refine D.kw [] rfl (Quiet.concat rfl rfl (by simp only [List.length_append, beB_len, List.length_cons, List.length_nil, List.length_replicate]; omega)) ?_
 refine D.ph ?_
 refine Phases.go [] (by (repeat' constructor)) ?_
 refine D.kw [7] rfl (Quiet.concat rfl rfl (by simp only [List.length_append, beB_len, List.length_cons, List.length_nil, List.length_replicate]; omega)) ?_
 refine D.kw [] rfl (Quiet.assign rfl) ?_
 refine D.ph (Phases.fin (G.then_n (G.ret ?_)))
 exact G.dn (l := [.tmp 10]) rfl rfl ⟨rfl, rfl⟩

theorem rdead_spec (y x : Nat) (vr : Value) (sy ar ct a b : Int) (db : Bool) : Fn Tryz.prog 63 #[vptr y] [lc y x vr sy ar ct a b db] fun v L => v = vint 2 ∧ L = [lc y x vr sy ar ct a b true] := by
 refine Fn.intro (vs := [vptr y]) Tryz.func63 rfl rfl ?_
 intro F W
 refine G.seq (G.region (G.ag rfl rfl (G.nil (G.then_n (G.seq (G.region (G.mv rfl rfl (G.q (Quiet.nilp rfl) rfl (G.q (Quiet.fieldAddr rfl fo_114_7) rfl ?_)))))))))
 refine G.oq (OpSpec.store rfl rfl rfl sz_4 ?c5 ?c6) ?nx7
 case c5 => first | decide | (simp; omega) | simp
 case c6 => exact nfz0 _ _
 rintro v L' rfl
 refine G.nil (G.then_n (G.seq (G.region (G.ag rfl rfl (G.nil (G.then_n (G.ret ?_)))))))
 exact G.dn (l := [.tmp 2]) rfl rfl ⟨rfl, rfl⟩

theorem dshalf_spec (x : Nat) (δ : Dk) (hn : 2 ≤ δ.now.length ∧ δ.now.length ≤ 32768) : Fn Tryz.prog 64 #[vptr x] [dsR x δ] fun v L => v = vint (halfZ δ) ∧ L = [dsR x δ] := by
 refine Fn.intro (vs := [vptr x]) Tryz.func64 rfl rfl ?_
 intro F W
 refine G.dsOpen (by (repeat' constructor)) fun ρ hr hN => ?_
 refine G.rkOpen (by (repeat' constructor)) fun vL vO vP hok => ?_
 refine G.slAny (v := vL) (by (repeat' constructor)) fun aL cL e _ => ?_
 subst e
 have hL := hr.L
 have hLl : ρ.L.length = δ.now.length := by rw [hL]
 refine G.seq (G.region (G.ag rfl rfl (G.nil (G.then_n (G.seq (G.region (G.mv rfl rfl (G.q (Quiet.nilp rfl) rfl (G.q (Quiet.fieldAddr rfl fo_58_0) rfl ?_)))))))))
 refine G.q (Quiet.ld rfl ag_46) rfl ?_
 refine G.q (Quiet.slen rfl Tryz.underlying46 rfl) rfl ?_
 refine G.q (Quiet.sub rfl rfl (by omega)) rfl ?_
 refine G.q (Quiet.quoE rfl rfl (by omega) (by decide)) rfl ?_
 refine G.ag rfl rfl (G.nil (G.then_n (G.ret ?_)))
 refine G.rkFold (ρ := ρ) (by (repeat' constructor)) rfl ⟨rfl, rfl⟩ ⟨rfl, rfl⟩ ⟨rfl, rfl⟩ hok ?_
 refine G.dsFold (δ := δ) (by (repeat' constructor)) hr hN ?_
 exact G.dn (l := [.tmp 2]) rfl rfl ⟨by unfold halfZ; rw [← hLl], rfl⟩

theorem lay_go {f : Nat} {δ : Dk} {area : Int} {all : Bs} {i : Nat} (h : i * 64 < all.length) : layF (f + 1) δ area all i = if (δ.write (2 + area * halfZ δ + i) (laySec all i)).2 ≠ 0 then ((δ.write (2 + area * halfZ δ + i) (laySec all i)).1, 2) else layF f (δ.write (2 + area * halfZ δ + i) (laySec all i)).1 area all (i + 1) := by
  show (if i * 64 < all.length then _ else _) = _
  rw [if_pos h]
theorem area_mul {area h : Int} (ha : 0 ≤ area ∧ area ≤ 1) (hh : 0 ≤ h ∧ h ≤ 16383) : 0 ≤ area * h ∧ area * h ≤ 16383 := by
  rcases (show area = 0 ∨ area = 1 by omega) with rfl | rfl
  · omega
  · omega
theorem rlays_spec (x : Nat) (area : Int) (s : Bs) (frm : Nat) (δ : Dk) (hn0 : 2 ≤ δ.now.length ∧ δ.now.length ≤ 32768) (har : 0 ≤ area ∧ area ≤ 1) (hs : s.length ≤ 4000000) (hf : frm ≤ 4000000) (hA : δ.acts + 9000000 < 4611686018427387904) : Fn Tryz.prog 66 #[vptr x, vint area, vstr s, vint frm] [dsR x δ] fun v L => ∃ e, (e = 0 ↔ (layZ δ area s frm).2 = 0) ∧ v = vint e ∧ L = [dsR x (layZ δ area s frm).1] := by
 refine Fn.intro (vs := [vptr x, vint area, vstr s, vint frm]) Tryz.func66 rfl rfl ?_
 intro F W
 refine G.seq (G.region (G.ag rfl rfl (G.nil (G.then_n (G.seq (G.seq (G.region (G.mv rfl rfl ?_))))))))
 refine G.q (Quiet.to (v' := vint ((frm / 64 : Nat) : Int)) (Quiet.quoE rfl rfl (by omega) (by decide)) (by rfl)) rfl ?_
 refine G.ag rfl rfl (G.nil (G.then_n (G.block ?_)))
 refine G.loopK (ι := Nat × Nat × Dk) (fun q E => (9, vint q.1) :: E) (fun q => [dsR x q.2.2]) (fun q => layF q.2.1 q.2.2 area s q.1 = layZ δ area s frm ∧ s.length + 1 ≤ q.2.1 + q.1 ∧ q.1 ≤ 4000001 + frm ∧ q.2.2.now.length = δ.now.length ∧ q.2.2.acts ≤ δ.acts + q.1) (fun q => s.length - q.1) (frm / 64, s.length + 1, δ) (ts := [0, 1, 2]) (.cons rfl (.cons rfl (.cons rfl (.nil)))) (⟨rfl, by dsimp only; omega, by dsimp only; omega, rfl, by dsimp only; omega⟩) ⟨rfl, rfl, rfl, rfl, trivial⟩ (by (repeat' constructor)) ?_
 rintro ⟨i, f, σ⟩ ⟨hl, hfu, hib, hnl, hac⟩
 dsimp only
 dsimp only at hl hfu hib hnl hac
 refine G.seq (G.seq (G.region (G.mv rfl rfl ?_)))
 refine G.q (Quiet.as (v' := vint ((i * 64 : Nat) : Int)) (by first | rfl | (congr 1; omega)) (Quiet.mul rfl rfl (by omega))) rfl ?_
 refine G.mv rfl rfl (G.q (Quiet.strlen rfl Tryz.underlying9 rfl) rfl (G.q (Quiet.int rfl rfl rfl) rfl (G.nil (G.then_n ?_))))
 refine G.condD rfl (fun h18 => ?_) (fun h18 => ?_)
 ·obtain ⟨f', rfl⟩ : ∃ f', f = f' + 1 := ⟨f - 1, by omega⟩
  have hn : 2 ≤ σ.now.length ∧ σ.now.length ≤ 32768 := by omega
  have hhl := half_le hn
  have ham := area_mul har hhl
  refine G.skip (G.then_n (G.seq (G.block (G.seq (G.region (G.mv rfl rfl (G.mv rfl rfl ?_)))))))
  refine G.q (Quiet.as (v' := vint ((i * 64 : Nat) : Int)) (by first | rfl | (congr 1; omega)) (Quiet.mul rfl rfl (by omega))) rfl ?_
  refine G.mv rfl rfl ?_
  refine G.q (Quiet.add rfl rfl (by omega)) rfl ?_
  refine G.q (Quiet.mul rfl rfl (by omega)) rfl ?_
  refine G.mv rfl rfl (G.q (Quiet.strlen rfl Tryz.underlying9 rfl) rfl ?_)
  refine G.q (Quiet.as (v' := vint ((min ((i + 1) * 64) s.length : Nat) : Int)) (by first | rfl | (congr 1; omega)) (Quiet.min2 rfl rfl)) rfl ?_
  refine G.q (Quiet.to (v' := vstr ((s.take (min ((i + 1) * 64) s.length)).drop (i * 64))) (Quiet.strMid rfl rfl rfl Tryz.underlying9 (by omega)) (by rfl)) rfl ?_
  refine G.ag rfl rfl (G.nil (G.then_n (G.seq ?_)))
  have hlay := laySec_eq s i (by omega)
  obtain ⟨t, ht⟩ : ∃ t, (s.take (min ((i + 1) * 64) s.length)).drop (i * 64) = t := ⟨_, rfl⟩
  rw [ht] at hlay ⊢
  have htl : t.length ≤ 64 := by rw [← ht, List.length_drop, List.length_take]; omega
  refine G.region (G.mv rfl rfl (G.mv rfl rfl (G.q (Quiet.strlen rfl Tryz.underlying9 rfl) rfl ?_)))
  refine G.q (Quiet.as (v' := vint ((64 - t.length : Nat) : Int)) (by first | rfl | (congr 1; omega)) (Quiet.sub rfl rfl (by omega))) rfl ?_
  refine G.oq (OpSpec.make rfl rfl el_125 ze_5 rfl ⟨by simp, by simp; rfl⟩ ?c21) ?nx22
  case c21 => omega
  rintro v L' ⟨bz, rfl, rfl⟩
  refine G.q (Quiet.bytesPt (cs := List.replicate (64 - t.length) 0) rfl Tryz.underlying125 Tryz.underlying5 Tryz.underlying9 (by (repeat' constructor)) (by first | (simp [List.map_replicate]; done) | (simp [List.map_replicate]; rfl)) (by simp) (by omega)) rfl ?_
  refine G.q (Quiet.as (v' := vstr (laySec s i)) (by exact congrArg vstr hlay) (Quiet.concat rfl rfl (by rw [List.length_replicate]; omega))) rfl ?_
  refine G.ag rfl rfl (G.nil (G.then_n (G.seq (G.region (G.mv rfl rfl (G.mv rfl rfl (G.mv rfl rfl ?_)))))))
  refine G.oq (OpSpec.call Tryz.func64 rfl rfl (vs := [_]) rfl (dshalf_spec x σ hn)) ?nx29
  rintro v L' ⟨rfl, rfl⟩
  refine G.q (Quiet.mul rfl rfl (by omega)) rfl ?_
  refine G.q (Quiet.add rfl rfl (by omega)) rfl ?_
  refine G.mv rfl rfl ?_
  refine G.q (Quiet.add rfl rfl (by omega)) rfl ?_
  refine G.mv rfl rfl ?_
  refine G.oq (OpSpec.call Tryz.func59 rfl rfl (vs := [_, _, _]) rfl (dswrite_spec x σ (2 + area * halfZ σ + i) (laySec s i) (by omega))) ?nx35
  rintro v L' ⟨rfl, rfl⟩
  refine G.ag rfl rfl (G.nil (G.then_n (G.seq (G.region (G.mv rfl rfl (G.q (Quiet.int rfl rfl rfl) rfl (G.nil (G.then_n ?_))))))))
  refine G.condN rfl (fun h49 => ?_) (fun h49 => ?_)
  ·refine G.seq (G.region (G.mv rfl rfl (G.ag rfl rfl (G.nil (G.then_n (G.ret (G.blk_r (G.then_r (G.then_r (G.blk_r (G.then_r ?_)))))))))))
   exact G.dn (l := [.tmp 8]) rfl rfl ⟨_, by rw [← hl, lay_go (by omega), if_pos h49]; exact ⟨fun g => absurd g h49, fun g => absurd g (by show ¬ (2 : Int) = 0; decide)⟩, rfl, by rw [← hl, lay_go (by omega), if_pos h49]⟩
  ·refine G.skip (G.blk_n (G.then_n (G.region (G.mv rfl rfl ?_))))
   refine G.q (Quiet.add rfl rfl (by omega)) rfl ?_
   refine G.ag rfl rfl (G.nil (G.then_n ?_))
   have hwk := write_keeps σ (2 + area * halfZ σ + i) (laySec s i)
   exact G.roundK ((i + 1, f', (σ.write (2 + area * halfZ σ + i) (laySec s i)).1)) (⟨by dsimp only; rw [← hl, lay_go (by omega), if_neg (by simpa using h49)], by dsimp only; omega, by dsimp only; omega, by dsimp only; omega, by dsimp only; omega⟩) (by dsimp only; omega) ⟨rfl, rfl, rfl, rfl, trivial⟩ (by (repeat' constructor)) (by ((repeat (apply Have.cons; (repeat (first | exact Pick.here | apply Pick.there)))); apply Have.base; repeat' constructor))
 ·refine G.exit (G.then_e (G.then_e (G.blk_e (G.then_n (G.seq (G.region (G.ag rfl rfl (G.nil (G.then_n (G.ret ?_))))))))))
  have hend := layF_end (f := f) (δ := σ) (area := area) (all := s) (i := i) (by omega)
  rw [hl] at hend
  exact G.dn (l := [.tmp 8]) rfl rfl ⟨0, by rw [hend], rfl, by rw [hend]⟩

theorem rputs_spec (y x : Nat) (vr : Value) (sy ar ct a b : Int) (db : Bool) (area a2 b2 : Int) (va : Value) (l : List Bs) (δ : Dk) (p : HP) (hp : ∀ h : Hp, p h → rdS 1 h va l.length (strs l)) (hll : (laidZ l).length ≤ 2100000000) (hc : 0 ≤ ct ∧ ct < 4294967295) (har : 0 ≤ area ∧ area ≤ 1) (ha : 0 ≤ a2 ∧ a2 ≤ 9223372036854775807) (hb : 0 ≤ b2 ∧ b2 ≤ 9223372036854775807) (hA : δ.acts < 4611686018427387904) : Fn Tryz.prog 62 #[vptr y, vint area, va, vint a2, vint b2] [lc y x vr sy ar ct a b db, dsR x δ, p] fun v L => v = vint (δ.write ((⟨ct + 1, area, (laidZ l).length, l.length, a2, b2⟩ : Mk).count % 2) (⟨ct + 1, area, (laidZ l).length, l.length, a2, b2⟩ : Mk).sec).2 ∧ L = [lc y x vr sy ar ct a b db, dsR x (δ.write ((⟨ct + 1, area, (laidZ l).length, l.length, a2, b2⟩ : Mk).count % 2) (⟨ct + 1, area, (laidZ l).length, l.length, a2, b2⟩ : Mk).sec).1, p] := by
 refine Fn.intro (vs := [vptr y, vint area, va, vint a2, vint b2]) Tryz.func62 rfl rfl ?_
 intro F W
 refine G.seq (G.region (G.ag rfl rfl (G.nil (G.then_n (G.seq (G.region (G.mv rfl rfl (G.q (Quiet.nilp rfl) rfl (G.q (Quiet.fieldAddr rfl fo_114_4) rfl ?_)))))))))
 refine G.q (Quiet.ld rfl ag_3) rfl ?_
 refine G.q (Quiet.add rfl rfl (by omega)) rfl ?_
 refine G.ag rfl rfl (G.nil (G.then_n (G.seq ?_)))
 refine G.draw [12] [[0, 1, 2, 3, 4, 5, 6, 7, 8, 9, 10, 11, 12], [13]] mixed (by kernel_rfl) ?_
 refine Phases.go [lc y x vr sy ar ct a b db, p] (by (repeat' constructor)) ?_
 refine D.kw [1, 2, 3, 12] rfl (Quiet.move rfl) ?_
 refine D.kw [2, 3, 12] rfl (Quiet.nilp rfl) ?_
 refine D.kw [3, 12] rfl (Quiet.fieldAddr rfl fo_114_0) ?_
 refine D.kw [12] rfl (Quiet.ld rfl ag_47) ?_
 refine D.kw [5, 12] rfl (Quiet.move rfl) ?_
 refine D.kw [12] rfl (Quiet.remE rfl rfl (by omega) (by decide)) ?_
 refine D.kw [11, 12] rfl (Quiet.move rfl) ?_
 refine D.kw [11, 12] rfl (Quiet.move rfl) ?_
 refine D.kw [11, 12] rfl (Quiet.move rfl) ?_
 refine D.kw [11, 12] rfl (Quiet.move rfl) ?_
 refine D.kw [11, 12] rfl (Quiet.move rfl) ?_
 refine D.m rfl (by kernel_rfl) (OpSpec.call Tryz.func60 rfl rfl (vs := [_, _, _, _, _]) rfl (rmark4_spec (ct + 1) area a2 b2 va l p hp hll (by omega) har ha hb)) (by (repeat' constructor)) ?nx16
 refine D.h rfl (by kernel_rfl) (OpSpec.call Tryz.func59 rfl rfl (vs := [_, _, _]) rfl (dswrite_spec x δ ((ct + 1) % 2) (⟨ct + 1, area, (laidZ l).length, l.length, a2, b2⟩ : Mk).sec hA)) (by (repeat' constructor)) ?nx18
 rintro v L' ⟨rfl, rfl⟩
 refine D.ph ?_
 refine Phases.go [] (by (repeat' constructor)) ?_
 refine D.kw [] rfl (Quiet.assign rfl) ?_
 refine D.ph (Phases.fin (G.then_n (G.ret ?_)))
 exact G.dn (l := [.tmp 10]) rfl rfl ⟨rfl, rfl⟩

theorem seal_s1 {δ : Dk} {ω : Wl} {area : Int} {l : List Bs} (h : ¬ δ.sync.2 = 0) : sealZ δ ω area l = (δ.sync.1, ω, 2) := by unfold sealZ; rw [if_pos h]
theorem seal_s2 {δ : Dk} {ω : Wl} {area : Int} {l : List Bs} (h : δ.sync.2 = 0) (h2 : ¬ (δ.sync.1.write ((ω.mark area l ω.a ω.b).count % 2) (ω.mark area l ω.a ω.b).sec).2 = 0) : sealZ δ ω area l = ((δ.sync.1.write ((ω.mark area l ω.a ω.b).count % 2) (ω.mark area l ω.a ω.b).sec).1, ω, 2) := by
  have e : nextZ δ.sync.1 (ω.mark area l ω.a ω.b) = ((δ.sync.1.write ((ω.mark area l ω.a ω.b).count % 2) (ω.mark area l ω.a ω.b).sec).1, 2) := by unfold nextZ; rw [if_pos h2]
  unfold sealZ; rw [if_neg (fun g => g h), e, if_pos (by show ¬ (2 : Int) = 0; decide)]
theorem seal_s3 {δ : Dk} {ω : Wl} {area : Int} {l : List Bs} (h : δ.sync.2 = 0) (h2 : (δ.sync.1.write ((ω.mark area l ω.a ω.b).count % 2) (ω.mark area l ω.a ω.b).sec).2 = 0) (h3 : ¬ (δ.sync.1.write ((ω.mark area l ω.a ω.b).count % 2) (ω.mark area l ω.a ω.b).sec).1.sync.2 = 0) : sealZ δ ω area l = ((δ.sync.1.write ((ω.mark area l ω.a ω.b).count % 2) (ω.mark area l ω.a ω.b).sec).1.sync.1, ω, 2) := by
  have e : nextZ δ.sync.1 (ω.mark area l ω.a ω.b) = ((δ.sync.1.write ((ω.mark area l ω.a ω.b).count % 2) (ω.mark area l ω.a ω.b).sec).1.sync.1, 2) := by unfold nextZ; rw [if_neg (fun g => g h2), if_pos h3]
  unfold sealZ; rw [if_neg (fun g => g h), e, if_pos (by show ¬ (2 : Int) = 0; decide)]
theorem seal_s4 {δ : Dk} {ω : Wl} {area : Int} {l : List Bs} (h : δ.sync.2 = 0) (h2 : (δ.sync.1.write ((ω.mark area l ω.a ω.b).count % 2) (ω.mark area l ω.a ω.b).sec).2 = 0) (h3 : (δ.sync.1.write ((ω.mark area l ω.a ω.b).count % 2) (ω.mark area l ω.a ω.b).sec).1.sync.2 = 0) : sealZ δ ω area l = ((δ.sync.1.write ((ω.mark area l ω.a ω.b).count % 2) (ω.mark area l ω.a ω.b).sec).1.sync.1, { ω with recs := l, synced := l.length, area := area, count := ω.count + 1 }, 0) := by
  have e : nextZ δ.sync.1 (ω.mark area l ω.a ω.b) = ((δ.sync.1.write ((ω.mark area l ω.a ω.b).count % 2) (ω.mark area l ω.a ω.b).sec).1.sync.1, 0) := by unfold nextZ; rw [if_neg (fun g => g h2), if_neg (fun g => g h3)]
  unfold sealZ; rw [if_neg (fun g => g h), e, if_neg (fun g => g rfl)]
theorem rseals_spec (y x : Nat) (vr : Value) (ω : Wl) (area : Int) (va : Value) (l : List Bs) (δ : Dk) (p : HP) (hp : ∀ h : Hp, p h → rdS 1 h va l.length (strs l)) (hll : (laidZ l).length ≤ 2100000000) (hc : 0 ≤ ω.count ∧ ω.count < 4294967295) (har : 0 ≤ area ∧ area ≤ 1) (ha : 0 ≤ ω.a ∧ ω.a ≤ 9223372036854775807) (hb : 0 ≤ ω.b ∧ ω.b ≤ 9223372036854775807) (hA : δ.acts + 10 < 4611686018427387904) : Fn Tryz.prog 68 #[vptr y, vint area, va] [lc y x (vr) (ω.synced) (ω.area) (ω.count) (ω.a) (ω.b) (ω.doubt), dsR x δ, p] fun v L => ((sealZ δ ω area l).2.2 = 2 ∧ v = vint 2 ∧ L = [lc y x (vr) (ω.synced) (ω.area) (ω.count) (ω.a) (ω.b) (true), dsR x (sealZ δ ω area l).1, p]) ∨ ((sealZ δ ω area l).2.2 = 0 ∧ v = vint 0 ∧ ∃ a9 c9, L = [lc y x (.slice a9 l.length c9) ((l.length : Nat)) (area) (ω.count + 1) (ω.a) (ω.b) (ω.doubt), dsR x (sealZ δ ω area l).1, p, strR (.slice a9 l.length c9) l]) := by
 refine Fn.intro (vs := [vptr y, vint area, va]) Tryz.func68 rfl rfl ?_
 intro F W
 have hlm := laidZ_many l
 have hk1 := sync_keeps δ
 have hk2 := write_keeps δ.sync.1 ((ω.mark area l ω.a ω.b).count % 2) (ω.mark area l ω.a ω.b).sec
 refine G.rdAny (p := p) hp (by (repeat' constructor)) fun aa ca e _ => ?_
 subst e
 refine G.seq (G.region (G.ag rfl rfl (G.nil (G.then_n (G.seq (G.seq ?_))))))
 refine G.draw [4, 18, 26] [[0, 1, 2, 3, 4], [5, 6, 7, 8, 9, 10, 11, 12, 13, 14, 15, 16, 17, 18], [19, 20, 21, 22, 23, 24, 25, 26], [27, 28]] mixed (by kernel_rfl) ?_
 refine Phases.go [] (by (repeat' constructor)) ?_
 refine D.kw [1, 2, 3, 4] rfl (Quiet.move rfl) ?_
 refine D.kw [2, 3, 4] rfl (Quiet.nilp rfl) ?_
 refine D.kw [3, 4] rfl (Quiet.fieldAddr rfl fo_114_0) ?_
 refine D.kw [4] rfl (Quiet.ld rfl ag_47) ?_
 refine D.h rfl (by kernel_rfl) (OpSpec.call Tryz.func61 rfl rfl (vs := [_]) rfl (dssync_spec x δ (by omega))) (by (repeat' constructor)) ?nx6
 rintro v L' ⟨rfl, rfl⟩
 refine D.ph ?_
 refine Phases.go [] (by (repeat' constructor)) ?_
 refine D.kw [6, 7, 8, 9, 10, 11, 12, 13, 14, 15, 16, 17, 18] rfl (Quiet.int rfl rfl rfl) ?_
 refine D.kw [7, 8, 9, 10, 11, 12, 13, 14, 15, 16, 17, 18] rfl (Quiet.move rfl) ?_
 refine D.ndec (t := 13) rfl (fun h1_13 => ?_) (fun h1_13 => ?_)
 ·refine D.kNT (t := 12) rfl h1_13 ?_
  refine D.gs (t := 13) rfl rfl rfl rfl (by kernel_rfl) ?_
  refine D.gs (t := 13) rfl rfl rfl rfl (by kernel_rfl) ?_
  refine D.gs (t := 13) rfl rfl rfl rfl (by kernel_rfl) ?_
  refine D.gs (t := 13) rfl rfl rfl rfl (by kernel_rfl) ?_
  refine D.gs (t := 13) rfl rfl rfl rfl (by kernel_rfl) ?_
  refine D.gs (t := 13) rfl rfl rfl rfl (by kernel_rfl) ?_
  refine D.gs (t := 13) rfl rfl rfl rfl (by kernel_rfl) ?_
  refine D.gs (t := 13) rfl rfl rfl rfl (by kernel_rfl) ?_
  refine D.gs (t := 13) rfl rfl rfl rfl (by kernel_rfl) ?_
  refine D.gs (t := 13) rfl rfl rfl rfl (by kernel_rfl) ?_
  refine D.gs (t := 13) rfl rfl rfl rfl (by kernel_rfl) ?_
  refine D.gs (t := 13) rfl rfl rfl rfl (by kernel_rfl) ?_
  refine D.ph ?_
  refine Phases.go [] (by (repeat' constructor)) ?_
  refine D.gs (t := 13) rfl rfl rfl rfl (by kernel_rfl) ?_
  refine D.kw [21, 22, 23, 24, 25, 26] rfl (Quiet.pickT rfl rfl) ?_
  refine D.kw [22, 23, 24, 25, 26] rfl (Quiet.move rfl) ?_
  refine D.gs (t := 28) rfl rfl rfl rfl (by kernel_rfl) ?_
  refine D.gs (t := 28) rfl rfl rfl rfl (by kernel_rfl) ?_
  refine D.gs (t := 28) rfl rfl rfl rfl (by kernel_rfl) ?_
  refine D.gs (t := 28) rfl rfl rfl rfl (by kernel_rfl) ?_
  refine D.gs (t := 28) rfl rfl rfl rfl (by kernel_rfl) ?_
  refine D.ph ?_
  refine Phases.go [] (by (repeat' constructor)) ?_
  refine D.gs (t := 28) rfl rfl rfl rfl (by kernel_rfl) ?_
  refine D.kw [] rfl (Quiet.pickT rfl rfl) ?_
  refine D.ph (Phases.fin (G.then_n (G.condT rfl (G.seq (G.region (G.mv rfl rfl ?_))))))
  refine G.oq (OpSpec.call Tryz.func63 rfl rfl (vs := [_]) rfl (rdead_spec y x vr ω.synced ω.area ω.count ω.a ω.b ω.doubt)) ?nx12
  rintro v L' ⟨rfl, rfl⟩
  refine G.ag rfl rfl (G.nil (G.then_n (G.ret (G.then_r ?_))))
  have hr := seal_s1 (ω := ω) (area := area) (l := l) h1_13
  rw [hr]
  exact G.dn (l := [.tmp 6]) rfl rfl (.inl ⟨rfl, rfl, rfl⟩)
 ·refine D.kNF (t := 12) rfl h1_13 ?_
  refine D.gqw [18] (t := 13) rfl rfl rfl (by kernel_rfl) (Quiet.move rfl) ?_
  refine D.gqw [18] (t := 13) rfl rfl rfl (by kernel_rfl) (Quiet.move rfl) ?_
  refine D.gqw [18] (t := 13) rfl rfl rfl (by kernel_rfl) (Quiet.move rfl) ?_
  refine D.gqw [11, 12, 13, 18] (t := 13) rfl rfl rfl (by kernel_rfl) (Quiet.move rfl) ?_
  refine D.gqw [12, 13, 18] (t := 13) rfl rfl rfl (by kernel_rfl) (Quiet.nilp rfl) ?_
  refine D.gqw [13, 18] (t := 13) rfl rfl rfl (by kernel_rfl) (Quiet.fieldAddr rfl fo_114_5) ?_
  refine D.gqw [18] (t := 13) rfl rfl rfl (by kernel_rfl) (Quiet.ld rfl ag_3) ?_
  refine D.gqw [15, 16, 17, 18] (t := 13) rfl rfl rfl (by kernel_rfl) (Quiet.move rfl) ?_
  refine D.gqw [16, 17, 18] (t := 13) rfl rfl rfl (by kernel_rfl) (Quiet.nilp rfl) ?_
  refine D.gqw [17, 18] (t := 13) rfl rfl rfl (by kernel_rfl) (Quiet.fieldAddr rfl fo_114_6) ?_
  refine D.gqw [18] (t := 13) rfl rfl rfl (by kernel_rfl) (Quiet.ld rfl ag_3) ?_
  refine D.gh (t := 13) rfl rfl rfl (by kernel_rfl) (OpSpec.call Tryz.func62 rfl rfl (vs := [_, _, _, _, _]) rfl (rputs_spec y x vr ω.synced ω.area ω.count ω.a ω.b ω.doubt area ω.a ω.b _ l δ.sync.1 p hp hll hc har ha hb (by omega))) (by (repeat' constructor)) ?nx25
  rintro v L' ⟨rfl, rfl⟩
  refine D.ph ?_
  refine Phases.go [] (by (repeat' constructor)) ?_
  refine D.gqw [20, 21, 22, 23, 24, 25, 26] (t := 13) rfl rfl rfl (by kernel_rfl) (Quiet.int rfl rfl rfl) ?_
  refine D.kw [21, 22, 23, 24, 25, 26] rfl (Quiet.pickF rfl rfl) ?_
  refine D.kw [22, 23, 24, 25, 26] rfl (Quiet.move rfl) ?_
  refine D.ndec (t := 28) rfl (fun h1_28 => ?_) (fun h1_28 => ?_)
  ·refine D.kNT (t := 26) rfl h1_28 (D.kNT (t := 27) rfl h1_28 ?_)
   refine D.gs (t := 28) rfl rfl rfl rfl (by kernel_rfl) ?_
   refine D.gs (t := 28) rfl rfl rfl rfl (by kernel_rfl) ?_
   refine D.gs (t := 28) rfl rfl rfl rfl (by kernel_rfl) ?_
   refine D.gs (t := 28) rfl rfl rfl rfl (by kernel_rfl) ?_
   refine D.gs (t := 28) rfl rfl rfl rfl (by kernel_rfl) ?_
   refine D.ph ?_
   refine Phases.go [] (by (repeat' constructor)) ?_
   refine D.gs (t := 28) rfl rfl rfl rfl (by kernel_rfl) ?_
   refine D.kw [] rfl (Quiet.pickT rfl rfl) ?_
   refine D.ph (Phases.fin (G.then_n (G.condT rfl (G.seq (G.region (G.mv rfl rfl ?_))))))
   refine G.oq (OpSpec.call Tryz.func63 rfl rfl (vs := [_]) rfl (rdead_spec y x vr ω.synced ω.area ω.count ω.a ω.b ω.doubt)) ?nx30
   rintro v L' ⟨rfl, rfl⟩
   refine G.ag rfl rfl (G.nil (G.then_n (G.ret (G.then_r ?_))))
   have hr := seal_s2 (area := area) (l := l) (ω := ω) h1_13 h1_28
   rw [hr]
   exact G.dn (l := [.tmp 6]) rfl rfl (.inl ⟨rfl, rfl, rfl⟩)
  ·refine D.kNF (t := 26) rfl h1_28 (D.kNF (t := 27) rfl h1_28 ?_)
   refine D.gqw [23, 24, 25, 26] (t := 28) rfl rfl rfl (by kernel_rfl) (Quiet.move rfl) ?_
   refine D.gqw [24, 25, 26] (t := 28) rfl rfl rfl (by kernel_rfl) (Quiet.nilp rfl) ?_
   refine D.gqw [25, 26] (t := 28) rfl rfl rfl (by kernel_rfl) (Quiet.fieldAddr rfl fo_114_0) ?_
   refine D.gqw [26] (t := 28) rfl rfl rfl (by kernel_rfl) (Quiet.ld rfl ag_47) ?_
   refine D.gh (t := 28) rfl rfl rfl (by kernel_rfl) (OpSpec.call Tryz.func61 rfl rfl (vs := [_]) rfl (dssync_spec x (δ.sync.1.write ((ω.mark area l ω.a ω.b).count % 2) (ω.mark area l ω.a ω.b).sec).1 (by omega))) (by (repeat' constructor)) ?nx36
   rintro v L' ⟨rfl, rfl⟩
   refine D.ph ?_
   refine Phases.go [] (by (repeat' constructor)) ?_
   refine D.gqw [28] (t := 28) rfl rfl rfl (by kernel_rfl) (Quiet.int rfl rfl rfl) ?_
   refine D.kw [] rfl (Quiet.pickF rfl rfl) ?_
   refine D.ph (Phases.fin (G.then_n ?_))
   refine G.condN rfl (fun h35 => ?_) (fun h35 => ?_)
   ·refine G.seq (G.region (G.mv rfl rfl ?_))
    refine G.oq (OpSpec.call Tryz.func63 rfl rfl (vs := [_]) rfl (rdead_spec y x vr ω.synced ω.area ω.count ω.a ω.b ω.doubt)) ?nx40
    rintro v L' ⟨rfl, rfl⟩
    refine G.ag rfl rfl (G.nil (G.then_n (G.ret (G.then_r ?_))))
    have hr := seal_s3 (area := area) (l := l) (ω := ω) h1_13 h1_28 h35
    rw [hr]
    exact G.dn (l := [.tmp 6]) rfl rfl (.inl ⟨rfl, rfl, rfl⟩)
   ·refine G.skip (G.then_n (G.seq (G.region (G.mv rfl rfl (G.q (Quiet.nilp rfl) rfl (G.q (Quiet.fieldAddr rfl fo_114_4) rfl ?_))))))
    refine G.q (Quiet.ld rfl ag_3) rfl ?_
    refine G.q (Quiet.add rfl rfl (by omega)) rfl ?_
    refine G.q (Quiet.nilp rfl) rfl (G.q (Quiet.fieldAddr rfl fo_114_4) rfl ?_)
    refine G.oq (OpSpec.store rfl rfl rfl sz_3 ?c49 ?c50) ?nx51
    case c49 => first | decide | (simp; omega) | simp
    case c50 => exact nfz0 _ _
    rintro v L' rfl
    refine G.nil (G.then_n (G.seq (G.region (G.mv rfl rfl (G.mv rfl rfl (G.q (Quiet.nilp rfl) rfl (G.q (Quiet.fieldAddr rfl fo_114_3) rfl ?_)))))))
    refine G.oq (OpSpec.store rfl rfl rfl sz_3 ?c56 ?c57) ?nx58
    case c56 => first | decide | (simp; omega) | simp
    case c57 => exact nfz0 _ _
    rintro v L' rfl
    refine G.nil (G.then_n (G.seq (G.add (slR_nil 9 1) (G.region (G.mv rfl rfl (G.mv rfl rfl ?_))))))
    refine G.oq (OpSpec.append (n := 0) (m := l.length) (ys := strs l) (p := p) rfl rfl rfl el_46 (.inl ⟨_, Tryz.underlying46⟩) ze_9 rfl rfl ?hc61 ?hr62 ?hb63 (by decide)) ?nx64
    case hc61 => exact strs_cell _
    case hr62 => exact hp
    case hb63 => omega
    rintro v L' ⟨⟨a8, c8, rfl⟩, rfl⟩; rw [Nat.zero_add, List.nil_append]
    refine G.q (Quiet.nilp rfl) rfl (G.q (Quiet.fieldAddr rfl fo_114_1) rfl ?_)
    refine G.oq (OpSpec.store rfl rfl rfl sz_46 ?c68 ?c69) ?nx70
    case c68 => first | decide | (simp; omega) | simp
    case c69 => exact nfz0 _ _
    rintro v L' rfl
    refine G.nil (G.then_n (G.seq (G.region (G.mv rfl rfl (G.mv rfl rfl (G.q (Quiet.slen rfl Tryz.underlying46 rfl) rfl (G.q (Quiet.nilp rfl) rfl (G.q (Quiet.fieldAddr rfl fo_114_2) rfl ?_))))))))
    refine G.oq (OpSpec.store rfl rfl rfl sz_3 ?c76 ?c77) ?nx78
    case c76 => first | decide | (simp; omega) | simp
    case c77 => exact nfz0 _ _
    rintro v L' rfl
    refine G.nil (G.then_n (G.seq (G.region (G.ag rfl rfl (G.nil (G.then_n (G.ret ?_)))))))
    have hr := seal_s4 (area := area) (l := l) (ω := ω) h1_13 h1_28 h35
    rw [hr]
    exact G.dn (l := [.tmp 6]) rfl rfl (.inr ⟨rfl, rfl, a8, c8, rfl⟩)

end Go.Proofs.YtidjhgbdokcphaaGreat

/- Own work, by program: the document's log, its calls: walked. -/
namespace Go.Proofs.YtidjhgbdokcphaaGreat
open Go
theorem sealX_two {δ : Dk} {ω : Wl} {ar : Int} {l : List Bs} (h : (sealZ δ ω ar l).2.2 = 2) : dbt (sealZ δ ω ar l) = ((sealZ δ ω ar l).1, { ω with doubt := true }, 2) := by
  have e : (sealZ δ ω ar l).2.1 = ω := by
    unfold sealZ at h ⊢
    split
    · rfl
    · rename_i h1
      rw [if_neg h1] at h
      split
      · rfl
      · rename_i h2; rw [if_neg h2] at h; exact absurd h (by show ¬ (0 : Int) = 2; decide)
  unfold dbt
  rw [if_pos h, e, h]
theorem sealX_nil {δ : Dk} {ω : Wl} {ar : Int} {l : List Bs} (h : (sealZ δ ω ar l).2.2 = 0) : dbt (sealZ δ ω ar l) = ((sealZ δ ω ar l).1, { ω with recs := l, synced := l.length, area := ar, count := ω.count + 1 }, 0) := by
  have e : (sealZ δ ω ar l).2.1 = { ω with recs := l, synced := l.length, area := ar, count := ω.count + 1 } := by
    unfold sealZ at h ⊢
    split
    · rename_i h1; rw [if_pos h1] at h; exact absurd h (by show ¬ (2 : Int) = 0; decide)
    · rename_i h1
      rw [if_neg h1] at h
      split
      · rename_i h2; rw [if_pos h2] at h; exact absurd h (by show ¬ (2 : Int) = 0; decide)
      · rfl
  unfold dbt
  rw [if_neg (by rw [h]; decide)]
  exact Prod.ext rfl (Prod.ext e h)
theorem laidZ_six (l : List Bs) : 6 * l.length ≤ (laidZ l).length := by
  induction l with
  | nil => simp
  | cons x l ih =>
    have e : laidZ (x :: l) = recZ x ++ laidZ l := by simp [laidZ]
    rw [e, List.length_append, recZ_len, List.length_cons]; omega
theorem next_s1 {δ : Dk} {m : Mk} (h : ¬ (δ.write (m.count % 2) m.sec).2 = 0) : nextZ δ m = ((δ.write (m.count % 2) m.sec).1, 2) := by unfold nextZ; rw [if_pos h]
theorem next_s2 {δ : Dk} {m : Mk} (h : (δ.write (m.count % 2) m.sec).2 = 0) (h2 : ¬ (δ.write (m.count % 2) m.sec).1.sync.2 = 0) : nextZ δ m = ((δ.write (m.count % 2) m.sec).1.sync.1, 2) := by unfold nextZ; rw [if_neg (fun g => g h), if_pos h2]
theorem next_s3 {δ : Dk} {m : Mk} (h : (δ.write (m.count % 2) m.sec).2 = 0) (h2 : (δ.write (m.count % 2) m.sec).1.sync.2 = 0) : nextZ δ m = ((δ.write (m.count % 2) m.sec).1.sync.1, 0) := by unfold nextZ; rw [if_neg (fun g => g h), if_neg (fun g => g h2)]
theorem layX_two {δ : Dk} {ω : Wl} {ar : Int} {s : Bs} {k : Nat} (h : ¬ (layZ δ ar s k).2 = 0) : dbt ((layZ δ ar s k).1, ω, (layZ δ ar s k).2) = ((layZ δ ar s k).1, { ω with doubt := true }, 2) := by
  have e := (layZ_err δ ar s k).resolve_left h
  unfold dbt; rw [e]; rfl
theorem rrenew_spec (y x : Nat) (ω : Wl) (δ : Dk) (va : Value) (l : List Bs) (p : HP) (hp : ∀ h : Hp, p h → rdS 1 h va l.length (strs l)) (hI : WlI δ ω) (hab : (0 ≤ ω.a ∧ ω.a ≤ 9223372036854775807) ∧ (0 ≤ ω.b ∧ ω.b ≤ 9223372036854775807)) (hll : (laidZ l).length ≤ 900000000) : Fn Tryz.prog 22 #[vptr y, va] [rlR y x ω, dsR x δ, p] fun v L => v = vint (renewZ δ ω l).2.2 ∧ L = [rlR y x (renewZ δ ω l).2.1, dsR x (renewZ δ ω l).1, p] := by
 refine Fn.intro (vs := [vptr y, va]) Tryz.func22 rfl rfl ?_
 intro F W
 refine G.rlOpen (ω := ω) (by (repeat' constructor)) fun vr => ?_
 refine G.slAny (v := vr) (by (repeat' constructor)) fun arr crr e hsl => ?_
 subst e
 refine G.slAddr (by (repeat' constructor)) fun hcap hra => ?_
 have hfi := hI.fits
 have hn := hI.size
 have hhl := half_le hI.size
 have hlm := laidZ_many ω.recs
 have hac := hI.acts
 have hct := hI.count
 have har := hI.area
 have hsy := hI.synced
 refine G.rdAny (p := p) hp (by (repeat' constructor)) fun aa ca e _ => ?_
 subst e
 have hlml := laidZ_many l
 refine G.seq (G.region (G.ag rfl rfl (G.nil (G.then_n (G.seq (G.seq (G.region (G.mv rfl rfl (G.q (Quiet.nilp rfl) rfl (G.q (Quiet.fieldAddr rfl fo_114_7) rfl ?_))))))))))
 refine G.q (Quiet.ld rfl ag_4) rfl ?_
 refine G.nil (G.then_n ?_)
 refine G.condB rfl (fun h9 => ?_) (fun h9 => ?_)
 ·refine G.seq (G.region (G.ag rfl rfl (G.nil (G.then_n (G.ret (G.then_r ?_))))))
  have hr : renewZ δ ω l = (δ, ω, 34) := by unfold renewZ; rw [if_pos h9]
  rw [hr]
  refine G.rlFold (y := y) (x := x) (ω := ω) (v := (.slice arr ω.recs.length crr)) (by (repeat' constructor)) (by exact rfl) (by first | rfl | simp) (by first | rfl | simp [strs]) ?_
  exact G.dn (l := [.tmp 4]) rfl rfl ⟨rfl, rfl⟩
 ·refine G.skip (G.then_n (G.seq (G.seq (G.region (G.ag rfl rfl (G.nil (G.then_n (G.block ?_))))))))
  refine G.loopK (ι := Nat) (fun q E => (5, vint q) :: E) (fun q => []) (fun q => q ≤ l.length ∧ ∀ j (hj : j < q) (hl : j < l.length), l[j].length ≤ 4000) (fun q => l.length - q) (0) (ts := [0, 1]) (.cons rfl (.cons rfl (.nil))) (⟨Nat.zero_le _, fun j hj => by omega⟩) ⟨rfl, rfl, rfl, trivial⟩ (by (repeat' constructor)) ?_
  rintro i ⟨hi, hbl⟩
  refine G.seq (G.seq (G.region (G.mv rfl rfl (G.mv rfl rfl (G.q (Quiet.slen rfl Tryz.underlying46 rfl) rfl (G.q (Quiet.int rfl rfl rfl) rfl (G.nil (G.then_n ?_))))))))
  refine G.condD rfl (fun h13 => ?_) (fun h13 => ?_)
  ·have hi2 : i < l.length := by omega
   refine G.rdShape (p := p) hp (by (repeat' constructor)) (by omega) fun ba oa e => ?_
   subst e
   refine G.skip (G.then_n (G.seq (G.block (G.seq (G.region (G.mv rfl rfl (G.mv rfl rfl ?_)))))))
   refine G.q (Quiet.indexAddr rfl rfl el_46 (by omega)) rfl ?_
   refine G.q (Quiet.loadRd (sz := 1) (j := i) (p := p) (v := vstr l[i]) rfl ag_9 (by (repeat' constructor)) hp (by simp) (by simp [hi2])) rfl ?_
   refine G.q (Quiet.strlen rfl Tryz.underlying9 rfl) rfl (G.q (Quiet.int rfl rfl rfl) rfl (G.nil (G.then_n ?_)))
   refine G.condD rfl (fun h21 => ?_) (fun h21 => ?_)
   ·refine G.seq (G.region (G.ag rfl rfl (G.nil (G.then_n (G.ret (G.blk_r (G.then_r (G.then_r (G.blk_r (G.then_r ?_))))))))))
    have hr : renewZ δ ω l = (δ, ω, 33) := by unfold renewZ; rw [if_neg (by rw [h9]; decide), if_pos (List.any_eq_true.2 ⟨l[i], List.getElem_mem hi2, by simpa using (by omega : l[i].length > 4000)⟩)]
    rw [hr]
    refine G.rlFold (y := y) (x := x) (ω := ω) (v := (.slice arr ω.recs.length crr)) (by (repeat' constructor)) (by exact rfl) (by first | rfl | simp) (by first | rfl | simp [strs]) ?_
    exact G.dn (l := [.tmp 4]) rfl rfl ⟨rfl, rfl⟩
   ·refine G.skip (G.blk_n (G.then_n (G.region (G.mv rfl rfl ?_))))
    refine G.q (Quiet.add rfl rfl (by omega)) rfl ?_
    refine G.ag rfl rfl (G.nil (G.then_n ?_))
    exact G.roundK (i + 1) (⟨by omega, fun j hj hl => by rcases Nat.lt_or_ge j i with g | g; exact hbl j g hl; obtain rfl : j = i := (by omega); omega⟩) (by omega) ⟨rfl, rfl, rfl, trivial⟩ (by (repeat' constructor)) (by ((repeat (apply Have.cons; (repeat (first | exact Pick.here | apply Pick.there)))); apply Have.base; repeat' constructor))
  ·have hany : (l.any fun s => decide (s.length > 4000)) = false := by rw [List.any_eq_false]; intro s hs; obtain ⟨j, hj, rfl⟩ := List.mem_iff_getElem.1 hs; have := hbl j (by omega) hj; simpa using this
   refine G.exit (G.then_e (G.then_e (G.blk_e (G.then_n (G.seq (G.seq ?_))))))
   refine G.draw [] [[0, 1, 2, 3, 4, 5, 6, 7, 8, 9, 10, 11, 12, 13, 14, 15, 16, 17, 18, 19, 20, 21, 22, 23, 24, 25, 26]] mixed (by kernel_rfl) ?_
   refine Phases.go [lc y x ((.slice arr ω.recs.length crr)) (ω.synced) (ω.area) (ω.count) (ω.a) (ω.b) (ω.doubt), dsR x δ, p] (by (repeat' constructor)) ?_
   refine D.kw [1, 8, 9, 10, 11, 12, 13, 14, 15, 16, 17, 18, 19, 20, 21, 22, 23, 24, 25, 26] rfl (Quiet.move rfl) ?_
   refine D.kw [8, 9, 10, 11, 12, 13, 14, 15, 16, 17, 18, 19, 20, 21, 22, 23, 24, 25, 26] rfl (Quiet.slen rfl Tryz.underlying46 rfl) ?_
   refine D.kw [3, 4, 5, 6, 7, 8, 9, 10, 11, 12, 13, 14, 15, 16, 17, 18, 19, 20, 21, 22, 23, 24, 25, 26] rfl (Quiet.move rfl) ?_
   refine D.kw [4, 5, 6, 7, 8, 9, 10, 11, 12, 13, 14, 15, 16, 17, 18, 19, 20, 21, 22, 23, 24, 25, 26] rfl (Quiet.nilp rfl) ?_
   refine D.kw [5, 6, 7, 8, 9, 10, 11, 12, 13, 14, 15, 16, 17, 18, 19, 20, 21, 22, 23, 24, 25, 26] rfl (Quiet.fieldAddr rfl fo_114_0) ?_
   refine D.kw [6, 7, 8, 9, 10, 11, 12, 13, 14, 15, 16, 17, 18, 19, 20, 21, 22, 23, 24, 25, 26] rfl (Quiet.ld rfl ag_47) ?_
   refine D.m rfl (by kernel_rfl) (OpSpec.call Tryz.func64 rfl rfl (vs := [_]) rfl (dshalf_spec x δ hn)) (by (repeat' constructor)) ?nx27
   refine D.kw [8, 9, 10, 11, 12, 13, 14, 15, 16, 17, 18, 19, 20, 21, 22, 23, 24, 25, 26] rfl (Quiet.mul rfl rfl (by omega)) ?_
   refine D.kw [9, 10, 11, 12, 13, 14, 15, 16, 17, 18, 19, 20, 21, 22, 23, 24, 25, 26] rfl (Quiet.int rfl rfl rfl) ?_
   refine D.kw [10, 11, 12, 13, 14, 15, 16, 17, 18, 19, 20, 21, 22, 23, 24, 25, 26] rfl (Quiet.move rfl) ?_
   refine D.dec (t := 31) rfl (fun h8_31 => ?_) (fun h8_31 => ?_)
   ·refine D.kDT (t := 30) rfl h8_31 ?_
    refine D.gs (t := 31) rfl rfl rfl rfl (by kernel_rfl) ?_
    refine D.gs (t := 31) rfl rfl rfl rfl (by kernel_rfl) ?_
    refine D.gs (t := 31) rfl rfl rfl rfl (by kernel_rfl) ?_
    refine D.gs (t := 31) rfl rfl rfl rfl (by kernel_rfl) ?_
    refine D.gs (t := 31) rfl rfl rfl rfl (by kernel_rfl) ?_
    refine D.gs (t := 31) rfl rfl rfl rfl (by kernel_rfl) ?_
    refine D.gs (t := 31) rfl rfl rfl rfl (by kernel_rfl) ?_
    refine D.gs (t := 31) rfl rfl rfl rfl (by kernel_rfl) ?_
    refine D.gs (t := 31) rfl rfl rfl rfl (by kernel_rfl) ?_
    refine D.kw [20, 21, 22, 23, 24, 25, 26] rfl (Quiet.pickT rfl rfl) ?_
    refine D.kw [21, 22, 23, 24, 25, 26] rfl (Quiet.move rfl) ?_
    refine D.gs (t := 42) rfl rfl rfl rfl (by kernel_rfl) ?_
    refine D.gs (t := 42) rfl rfl rfl rfl (by kernel_rfl) ?_
    refine D.gs (t := 42) rfl rfl rfl rfl (by kernel_rfl) ?_
    refine D.gs (t := 42) rfl rfl rfl rfl (by kernel_rfl) ?_
    refine D.gs (t := 42) rfl rfl rfl rfl (by kernel_rfl) ?_
    refine D.kw [] rfl (Quiet.pickT rfl rfl) ?_
    refine D.ph (Phases.fin (G.then_n (G.condT rfl (G.seq (G.region (G.ag rfl rfl (G.nil (G.then_n (G.ret (G.then_r ?_))))))))))
    have hr : renewZ δ ω l = (δ, ω, 30) := by unfold renewZ; rw [if_neg (by rw [h9]; decide), if_neg (by rw [hany]; decide)]; split; rfl; rename_i g1; rw [if_pos (by rintro g2; apply g1; have := laidZ_six l; omega)]
    rw [hr]
    refine G.rlFold (y := y) (x := x) (ω := ω) (v := (.slice arr ω.recs.length crr)) (by (repeat' constructor)) (by exact rfl) (by first | rfl | simp) (by first | rfl | simp [strs]) ?_
    exact G.dn (l := [.tmp 4]) rfl rfl ⟨rfl, rfl⟩
   ·refine D.kDF (t := 30) rfl h8_31 ?_
    refine D.gqw [11, 16, 17, 18, 19, 20, 21, 22, 23, 24, 25, 26] (t := 31) rfl rfl rfl (by kernel_rfl) (Quiet.move rfl) ?_
    refine D.gm (t := 31) rfl rfl rfl (by kernel_rfl) (OpSpec.call Tryz.func65 rfl rfl (vs := [_]) rfl (rsize_spec _ l p hp (by omega))) (by (repeat' constructor)) ?nx35
    refine D.gqw [13, 14, 15, 16, 17, 18, 19, 20, 21, 22, 23, 24, 25, 26] (t := 31) rfl rfl rfl (by kernel_rfl) (Quiet.move rfl) ?_
    refine D.gqw [14, 15, 16, 17, 18, 19, 20, 21, 22, 23, 24, 25, 26] (t := 31) rfl rfl rfl (by kernel_rfl) (Quiet.nilp rfl) ?_
    refine D.gqw [15, 16, 17, 18, 19, 20, 21, 22, 23, 24, 25, 26] (t := 31) rfl rfl rfl (by kernel_rfl) (Quiet.fieldAddr rfl fo_114_0) ?_
    refine D.gqw [16, 17, 18, 19, 20, 21, 22, 23, 24, 25, 26] (t := 31) rfl rfl rfl (by kernel_rfl) (Quiet.ld rfl ag_47) ?_
    refine D.gm (t := 31) rfl rfl rfl (by kernel_rfl) (OpSpec.call Tryz.func64 rfl rfl (vs := [_]) rfl (dshalf_spec x δ hn)) (by (repeat' constructor)) ?nx41
    refine D.gqw [18, 19, 20, 21, 22, 23, 24, 25, 26] (t := 31) rfl rfl rfl (by kernel_rfl) (Quiet.mul rfl rfl (by omega)) ?_
    refine D.gqw [19, 20, 21, 22, 23, 24, 25, 26] (t := 31) rfl rfl rfl (by kernel_rfl) (Quiet.int rfl rfl rfl) ?_
    refine D.kw [20, 21, 22, 23, 24, 25, 26] rfl (Quiet.pickF rfl rfl) ?_
    refine D.kw [21, 22, 23, 24, 25, 26] rfl (Quiet.move rfl) ?_
    refine D.dec (t := 42) rfl (fun h8_42 => ?_) (fun h8_42 => ?_)
    ·refine D.kDT (t := 40) rfl h8_42 (D.kDT (t := 41) rfl h8_42 ?_)
     refine D.gs (t := 42) rfl rfl rfl rfl (by kernel_rfl) ?_
     refine D.gs (t := 42) rfl rfl rfl rfl (by kernel_rfl) ?_
     refine D.gs (t := 42) rfl rfl rfl rfl (by kernel_rfl) ?_
     refine D.gs (t := 42) rfl rfl rfl rfl (by kernel_rfl) ?_
     refine D.gs (t := 42) rfl rfl rfl rfl (by kernel_rfl) ?_
     refine D.kw [] rfl (Quiet.pickT rfl rfl) ?_
     refine D.ph (Phases.fin (G.then_n (G.condT rfl (G.seq (G.region (G.ag rfl rfl (G.nil (G.then_n (G.ret (G.then_r ?_))))))))))
     have hr : renewZ δ ω l = (δ, ω, 30) := by unfold renewZ; rw [if_neg (by rw [h9]; decide), if_neg (by rw [hany]; decide)]; split; rfl; rename_i g1; rw [if_pos (by rintro g2; apply g1; have := laidZ_six l; omega)]
     rw [hr]
     refine G.rlFold (y := y) (x := x) (ω := ω) (v := (.slice arr ω.recs.length crr)) (by (repeat' constructor)) (by exact rfl) (by first | rfl | simp) (by first | rfl | simp [strs]) ?_
     exact G.dn (l := [.tmp 4]) rfl rfl ⟨rfl, rfl⟩
    ·refine D.kDF (t := 40) rfl h8_42 (D.kDF (t := 41) rfl h8_42 ?_)
     refine D.gqw [22, 23, 24, 25, 26] (t := 42) rfl rfl rfl (by kernel_rfl) (Quiet.move rfl) ?_
     refine D.gqw [23, 24, 25, 26] (t := 42) rfl rfl rfl (by kernel_rfl) (Quiet.nilp rfl) ?_
     refine D.gqw [24, 25, 26] (t := 42) rfl rfl rfl (by kernel_rfl) (Quiet.fieldAddr rfl fo_114_4) ?_
     refine D.gqw [25, 26] (t := 42) rfl rfl rfl (by kernel_rfl) (Quiet.ld rfl ag_3) ?_
     refine D.gqw [26] (t := 42) rfl rfl rfl (by kernel_rfl) (Quiet.int rfl rfl rfl) ?_
     refine D.kw [] rfl (Quiet.pickF rfl rfl) ?_
     refine D.ph (Phases.fin (G.then_n ?_))
     refine G.condD rfl (fun h48 => ?_) (fun h48 => ?_)
     ·refine G.seq (G.region (G.ag rfl rfl (G.nil (G.then_n (G.ret (G.then_r ?_))))))
      have hr : renewZ δ ω l = (δ, ω, 30) := by unfold renewZ; rw [if_neg (by rw [h9]; decide), if_neg (by rw [hany]; decide)]; split; rfl; rename_i g1; rw [if_pos (by rintro g2; apply g1; have := laidZ_six l; omega)]
      rw [hr]
      refine G.rlFold (y := y) (x := x) (ω := ω) (v := (.slice arr ω.recs.length crr)) (by (repeat' constructor)) (by exact rfl) (by first | rfl | simp) (by first | rfl | simp [strs]) ?_
      exact G.dn (l := [.tmp 4]) rfl rfl ⟨rfl, rfl⟩
     ·refine G.skip (G.then_n (G.seq (G.seq ?_)))
      refine G.draw [11] [[0, 1, 2, 3, 4, 5, 6, 7, 8, 9, 10, 11], [12]] mixed (by kernel_rfl) ?_
      refine Phases.go [lc y x ((.slice arr ω.recs.length crr)) (ω.synced) (ω.area) (ω.count) (ω.a) (ω.b) (ω.doubt), p] (by (repeat' constructor)) ?_
      refine D.kw [1, 2, 3, 11] rfl (Quiet.move rfl) ?_
      refine D.kw [2, 3, 11] rfl (Quiet.nilp rfl) ?_
      refine D.kw [3, 11] rfl (Quiet.fieldAddr rfl fo_114_0) ?_
      refine D.kw [11] rfl (Quiet.ld rfl ag_47) ?_
      refine D.kw [5, 6, 7, 8, 11] rfl (Quiet.move rfl) ?_
      refine D.kw [6, 7, 8, 11] rfl (Quiet.nilp rfl) ?_
      refine D.kw [7, 8, 11] rfl (Quiet.fieldAddr rfl fo_114_3) ?_
      refine D.kw [8, 11] rfl (Quiet.ld rfl ag_3) ?_
      refine D.kw [11] rfl (Quiet.sub rfl rfl (by omega)) ?_
      refine D.kw [10, 11] rfl (Quiet.move rfl) ?_
      refine D.m rfl (by kernel_rfl) (OpSpec.call Tryz.func67 rfl rfl (vs := [_]) rfl (rall_spec _ l p hp (by omega))) (by (repeat' constructor)) ?nx63
      refine D.h rfl (by kernel_rfl) (OpSpec.call Tryz.func66 rfl rfl (vs := [_, _, _, _]) rfl (rlays_spec x (1 - ω.area) (laidZ l) 0 δ hn (by omega) (by omega) (by omega) (by omega))) (by (repeat' constructor)) ?nx65
      rintro v L' ⟨e1, he1, rfl, rfl⟩
      refine D.ph ?_
      refine Phases.go [] (by (repeat' constructor)) ?_
      refine D.kw [] rfl (Quiet.int rfl rfl rfl) ?_
      refine D.ph (Phases.fin (G.then_n ?_))
      refine G.condN rfl (fun h61 => ?_) (fun h61 => ?_)
      ·refine G.seq (G.region (G.mv rfl rfl ?_))
       refine G.oq (OpSpec.call Tryz.func63 rfl rfl (vs := [_]) rfl (rdead_spec y x _ _ _ _ _ _ _)) ?nx69
       rintro v L' ⟨rfl, rfl⟩
       refine G.ag rfl rfl (G.nil (G.then_n (G.ret (G.then_r ?_))))
       have hl2 : ¬ (layZ δ (1 - ω.area) (laidZ l) 0).2 = 0 := fun g => h61 (he1.2 g)
       have hr : renewZ δ ω l = ((layZ δ (1 - ω.area) (laidZ l) 0).1, { ω with doubt := true }, 2) := by unfold renewZ; rw [if_neg (by rw [h9]; decide), if_neg (by rw [hany]; decide), if_neg (by have := laidZ_six l; omega), if_neg (by omega), if_pos hl2, layX_two hl2]
       rw [hr]
       refine G.rlFold (y := y) (x := x) (ω := { ω with doubt := true }) (v := (.slice arr ω.recs.length crr)) (by (repeat' constructor)) (by exact rfl) (by first | rfl | simp) (by first | rfl | simp [strs]) ?_
       exact G.dn (l := [.tmp 4]) rfl rfl ⟨rfl, rfl⟩
      ·refine G.skip (G.then_n (G.seq ?_))
       have hl2 : (layZ δ (1 - ω.area) (laidZ l) 0).2 = 0 := he1.1 h61
       have hlk := layZ_keeps δ (1 - ω.area) (laidZ l) 0
       refine G.region (G.mv rfl rfl (G.mv rfl rfl (G.q (Quiet.nilp rfl) rfl (G.q (Quiet.fieldAddr rfl fo_114_3) rfl ?_))))
       refine G.q (Quiet.ld rfl ag_3) rfl ?_
       refine G.q (Quiet.sub rfl rfl (by omega)) rfl ?_
       refine G.mv rfl rfl ?_
       refine G.oq (OpSpec.call Tryz.func68 rfl rfl (vs := [_, _, _]) rfl (rseals_spec y x (.slice arr ω.recs.length crr) ω (1 - ω.area) _ l (layZ δ (1 - ω.area) (laidZ l) 0).1 p hp (by omega) ⟨hct.1, by omega⟩ (by omega) hab.1 hab.2 (by have := hlk.2; omega))) ?nx78
       rintro v L' (⟨hs, rfl, rfl⟩ | ⟨hs, rfl, a9, c9, rfl⟩)
       ·refine G.ag rfl rfl (G.nil (G.then_n (G.ret ?_)))
        have hr : renewZ δ ω l = ((sealZ (layZ δ (1 - ω.area) (laidZ l) 0).1 ω (1 - ω.area) l).1, { ω with doubt := true }, 2) := by unfold renewZ; rw [if_neg (by rw [h9]; decide), if_neg (by rw [hany]; decide), if_neg (by have := laidZ_six l; omega), if_neg (by omega), if_neg (fun g => g hl2), sealX_two hs]
        rw [hr]
        refine G.rlFold (y := y) (x := x) (ω := { ω with doubt := true }) (v := (.slice arr ω.recs.length crr)) (by (repeat' constructor)) (by exact rfl) (by first | rfl | simp) (by first | rfl | simp [strs]) ?_
        exact G.dn (l := [.tmp 4]) rfl rfl ⟨rfl, rfl⟩
       ·refine G.ag rfl rfl (G.nil (G.then_n (G.ret ?_)))
        have hr : renewZ δ ω l = ((sealZ (layZ δ (1 - ω.area) (laidZ l) 0).1 ω (1 - ω.area) l).1, { ω with recs := l, synced := l.length, area := 1 - ω.area, count := ω.count + 1 }, 0) := by unfold renewZ; rw [if_neg (by rw [h9]; decide), if_neg (by rw [hany]; decide), if_neg (by have := laidZ_six l; omega), if_neg (by omega), if_neg (fun g => g hl2), sealX_nil hs]
        rw [hr]
        refine G.rlFold (y := y) (x := x) (ω := { ω with recs := l, synced := l.length, area := 1 - ω.area, count := ω.count + 1 }) (v := .slice a9 l.length c9) (by (repeat' constructor)) (by exact rfl) (by first | rfl | simp) (by first | rfl | simp [strs]) ?_
        exact G.dn (l := [.tmp 4]) rfl rfl ⟨rfl, rfl⟩

theorem rmark_spec (y x : Nat) (ω : Wl) (δ : Dk) (a b : Int) (hI : WlI δ ω) (ha : a ≤ 9223372036854775807) (hb : b ≤ 9223372036854775807) : Fn Tryz.prog 21 #[vptr y, vint a, vint b] [rlR y x ω, dsR x δ] fun v L => v = vint (setmZ δ ω a b).2.2 ∧ L = [rlR y x (setmZ δ ω a b).2.1, dsR x (setmZ δ ω a b).1] := by
 refine Fn.intro (vs := [vptr y, vint a, vint b]) Tryz.func21 rfl rfl ?_
 intro F W
 refine G.rlOpen (ω := ω) (by (repeat' constructor)) fun vr => ?_
 refine G.slAny (v := vr) (by (repeat' constructor)) fun arr crr e hsl => ?_
 subst e
 refine G.slAddr (by (repeat' constructor)) fun hcap hra => ?_
 have hfi := hI.fits
 have hn := hI.size
 have hhl := half_le hI.size
 have hlm := laidZ_many ω.recs
 have hac := hI.acts
 have hct := hI.count
 have har := hI.area
 have hsy := hI.synced
 refine G.seq (G.region (G.ag rfl rfl (G.nil (G.then_n (G.seq (G.seq (G.region (G.mv rfl rfl (G.q (Quiet.nilp rfl) rfl (G.q (Quiet.fieldAddr rfl fo_114_7) rfl ?_))))))))))
 refine G.q (Quiet.ld rfl ag_4) rfl ?_
 refine G.nil (G.then_n ?_)
 refine G.condB rfl (fun h10 => ?_) (fun h10 => ?_)
 ·refine G.seq (G.region (G.ag rfl rfl (G.nil (G.then_n (G.ret (G.then_r ?_))))))
  have hr : setmZ δ ω a b = (δ, ω, 34) := by unfold setmZ; rw [if_pos h10]
  rw [hr]
  refine G.rlFold (y := y) (x := x) (ω := ω) (v := (.slice arr ω.recs.length crr)) (by (repeat' constructor)) (by exact rfl) (by first | rfl | simp) (by first | rfl | simp [strs]) ?_
  exact G.dn (l := [.tmp 6]) rfl rfl ⟨rfl, rfl⟩
 ·refine G.skip (G.then_n (G.seq (G.seq (G.region (G.mv rfl rfl (G.q (Quiet.int rfl rfl rfl) rfl (G.mv rfl rfl ?_)))))))
  refine G.dec (t := 13) rfl (fun h3_13 => ?_) (fun h3_13 => ?_)
  ·refine G.kDT (t := 12) rfl h3_13 (G.gskip (t := 13) rfl rfl rfl rfl (G.gskip (t := 13) rfl rfl rfl rfl (G.q (Quiet.pickT rfl rfl) rfl (G.nil (G.then_n (G.condT rfl (G.seq (G.region (G.ag rfl rfl (G.nil (G.then_n (G.ret (G.then_r ?_)))))))))))))
   have hr : setmZ δ ω a b = (δ, ω, 1) := by unfold setmZ; rw [if_neg (by rw [h10]; decide), if_pos (by omega)]
   rw [hr]
   refine G.rlFold (y := y) (x := x) (ω := ω) (v := (.slice arr ω.recs.length crr)) (by (repeat' constructor)) (by exact rfl) (by first | rfl | simp) (by first | rfl | simp [strs]) ?_
   exact G.dn (l := [.tmp 6]) rfl rfl ⟨rfl, rfl⟩
  ·refine G.kDF (t := 12) rfl h3_13 (G.grun (t := 13) rfl rfl rfl (G.mv rfl rfl (G.grun (t := 13) rfl rfl rfl (G.q (Quiet.int rfl rfl rfl) rfl (G.q (Quiet.pickF rfl rfl) rfl (G.nil (G.then_n ?_)))))))
   refine G.condD rfl (fun h16 => ?_) (fun h16 => ?_)
   ·refine G.seq (G.region (G.ag rfl rfl (G.nil (G.then_n (G.ret (G.then_r ?_))))))
    have hr : setmZ δ ω a b = (δ, ω, 1) := by unfold setmZ; rw [if_neg (by rw [h10]; decide), if_pos (by omega)]
    rw [hr]
    refine G.rlFold (y := y) (x := x) (ω := ω) (v := (.slice arr ω.recs.length crr)) (by (repeat' constructor)) (by exact rfl) (by first | rfl | simp) (by first | rfl | simp [strs]) ?_
    exact G.dn (l := [.tmp 6]) rfl rfl ⟨rfl, rfl⟩
   ·refine G.skip (G.then_n (G.seq (G.seq (G.region (G.mv rfl rfl (G.q (Quiet.nilp rfl) rfl (G.q (Quiet.fieldAddr rfl fo_114_4) rfl ?_)))))))
    refine G.q (Quiet.ld rfl ag_3) rfl ?_
    refine G.q (Quiet.int rfl rfl rfl) rfl (G.nil (G.then_n ?_))
    refine G.condD rfl (fun h21 => ?_) (fun h21 => ?_)
    ·refine G.seq (G.region (G.ag rfl rfl (G.nil (G.then_n (G.ret (G.then_r ?_))))))
     have hr : setmZ δ ω a b = (δ, ω, 30) := by unfold setmZ; rw [if_neg (by rw [h10]; decide), if_neg (by omega), if_pos (by omega)]
     rw [hr]
     refine G.rlFold (y := y) (x := x) (ω := ω) (v := (.slice arr ω.recs.length crr)) (by (repeat' constructor)) (by exact rfl) (by first | rfl | simp) (by first | rfl | simp [strs]) ?_
     exact G.dn (l := [.tmp 6]) rfl rfl ⟨rfl, rfl⟩
    ·refine G.skip (G.then_n (G.seq (G.seq ?_)))
     have htl := laidZ_take_len ω.recs ω.synced.toNat
     have hkl : (ω.recs.take ω.synced.toNat).length = ω.synced.toNat := by rw [List.length_take]; omega
     have hwk := write_keeps δ ((ω.mark ω.area (ω.recs.take ω.synced.toNat) a b).count % 2) (ω.mark ω.area (ω.recs.take ω.synced.toNat) a b).sec
     refine G.draw [16, 23] [[0, 1, 2, 3, 4, 5, 6, 7, 8, 9, 10, 11, 12, 13, 14, 15, 16], [17, 18, 19, 20, 21, 22, 23], [24, 25]] mixed (by kernel_rfl) ?_
     refine Phases.go [] (by (repeat' constructor)) ?_
     refine D.kw [16] rfl (Quiet.move rfl) ?_
     refine D.kw [2, 3, 4, 16] rfl (Quiet.move rfl) ?_
     refine D.kw [3, 4, 16] rfl (Quiet.nilp rfl) ?_
     refine D.kw [4, 16] rfl (Quiet.fieldAddr rfl fo_114_3) ?_
     refine D.kw [16] rfl (Quiet.ld rfl ag_3) ?_
     refine D.kw [6, 7, 8, 13, 16] rfl (Quiet.move rfl) ?_
     refine D.kw [7, 8, 13, 16] rfl (Quiet.nilp rfl) ?_
     refine D.kw [8, 13, 16] rfl (Quiet.fieldAddr rfl fo_114_1) ?_
     refine D.kw [13, 16] rfl (Quiet.ld rfl ag_46) ?_
     refine D.kw [10, 11, 12, 13, 16] rfl (Quiet.move rfl) ?_
     refine D.kw [11, 12, 13, 16] rfl (Quiet.nilp rfl) ?_
     refine D.kw [12, 13, 16] rfl (Quiet.fieldAddr rfl fo_114_2) ?_
     refine D.kw [13, 16] rfl (Quiet.ld rfl ag_3) ?_
     refine D.kw [16] rfl (Quiet.slTo (j := ω.synced) rfl el_46 rfl (by omega) hra) ?_
     refine D.kw [16] rfl (Quiet.move rfl) ?_
     refine D.kw [16] rfl (Quiet.move rfl) ?_
     refine D.h rfl (by kernel_rfl) (OpSpec.call Tryz.func62 rfl rfl (vs := [_, _, _, _, _]) rfl (rputs_spec y x (.slice arr ω.recs.length crr) ω.synced ω.area ω.count ω.a ω.b ω.doubt ω.area a b (.slice arr ω.synced.toNat crr) (ω.recs.take ω.synced.toNat) δ (strR (.slice arr ω.recs.length crr) ω.recs) (rd_take (by omega) rfl) (by omega) ⟨hct.1, by omega⟩ har (by omega) (by omega) (by omega))) (by (repeat' constructor)) ?nx36
     rintro v L' ⟨rfl, rfl⟩
     refine D.ph ?_
     refine Phases.go [] (by (repeat' constructor)) ?_
     refine D.kw [18, 19, 20, 21, 22, 23] rfl (Quiet.int rfl rfl rfl) ?_
     refine D.kw [19, 20, 21, 22, 23] rfl (Quiet.move rfl) ?_
     refine D.ndec (t := 40) rfl (fun h7_40 => ?_) (fun h7_40 => ?_)
     ·refine D.kNT (t := 39) rfl h7_40 ?_
      refine D.gs (t := 40) rfl rfl rfl rfl (by kernel_rfl) ?_
      refine D.gs (t := 40) rfl rfl rfl rfl (by kernel_rfl) ?_
      refine D.gs (t := 40) rfl rfl rfl rfl (by kernel_rfl) ?_
      refine D.gs (t := 40) rfl rfl rfl rfl (by kernel_rfl) ?_
      refine D.gs (t := 40) rfl rfl rfl rfl (by kernel_rfl) ?_
      refine D.ph ?_
      refine Phases.go [] (by (repeat' constructor)) ?_
      refine D.gs (t := 40) rfl rfl rfl rfl (by kernel_rfl) ?_
      refine D.kw [] rfl (Quiet.pickT rfl rfl) ?_
      refine D.ph (Phases.fin (G.then_n (G.condT rfl (G.seq (G.region (G.mv rfl rfl ?_))))))
      refine G.oq (OpSpec.call Tryz.func63 rfl rfl (vs := [_]) rfl (rdead_spec y x _ _ _ _ _ _ _)) ?nx41
      rintro v L' ⟨rfl, rfl⟩
      refine G.ag rfl rfl (G.nil (G.then_n (G.ret (G.then_r ?_))))
      have hnx : nextZ δ (ω.mark ω.area (ω.recs.take ω.synced.toNat) a b) = ((δ.write ((ω.mark ω.area (ω.recs.take ω.synced.toNat) a b).count % 2) (ω.mark ω.area (ω.recs.take ω.synced.toNat) a b).sec).1, 2) := next_s1 (m := (ω.mark ω.area (ω.recs.take ω.synced.toNat) a b)) h7_40
      have hr : setmZ δ ω a b = ((δ.write ((ω.mark ω.area (ω.recs.take ω.synced.toNat) a b).count % 2) (ω.mark ω.area (ω.recs.take ω.synced.toNat) a b).sec).1, { ω with doubt := true }, 2) := by unfold setmZ; rw [if_neg (by rw [h10]; decide), if_neg (by omega), if_neg (by omega), hnx, if_pos (by show ¬ (2 : Int) = 0; decide)]; rfl
      rw [hr]
      refine G.rlFold (y := y) (x := x) (ω := { ω with doubt := true }) (v := (.slice arr ω.recs.length crr)) (by (repeat' constructor)) (by exact rfl) (by first | rfl | simp) (by first | rfl | simp [strs]) ?_
      exact G.dn (l := [.tmp 6]) rfl rfl ⟨rfl, rfl⟩
     ·refine D.kNF (t := 39) rfl h7_40 ?_
      refine D.gqw [20, 21, 22, 23] (t := 40) rfl rfl rfl (by kernel_rfl) (Quiet.move rfl) ?_
      refine D.gqw [21, 22, 23] (t := 40) rfl rfl rfl (by kernel_rfl) (Quiet.nilp rfl) ?_
      refine D.gqw [22, 23] (t := 40) rfl rfl rfl (by kernel_rfl) (Quiet.fieldAddr rfl fo_114_0) ?_
      refine D.gqw [23] (t := 40) rfl rfl rfl (by kernel_rfl) (Quiet.ld rfl ag_47) ?_
      refine D.gh (t := 40) rfl rfl rfl (by kernel_rfl) (OpSpec.call Tryz.func61 rfl rfl (vs := [_]) rfl (dssync_spec x (δ.write ((ω.mark ω.area (ω.recs.take ω.synced.toNat) a b).count % 2) (ω.mark ω.area (ω.recs.take ω.synced.toNat) a b).sec).1 (by omega))) (by (repeat' constructor)) ?nx47
      rintro v L' ⟨rfl, rfl⟩
      refine D.ph ?_
      refine Phases.go [] (by (repeat' constructor)) ?_
      refine D.gqw [25] (t := 40) rfl rfl rfl (by kernel_rfl) (Quiet.int rfl rfl rfl) ?_
      refine D.kw [] rfl (Quiet.pickF rfl rfl) ?_
      refine D.ph (Phases.fin (G.then_n ?_))
      refine G.condN rfl (fun h47 => ?_) (fun h47 => ?_)
      ·refine G.seq (G.region (G.mv rfl rfl ?_))
       refine G.oq (OpSpec.call Tryz.func63 rfl rfl (vs := [_]) rfl (rdead_spec y x _ _ _ _ _ _ _)) ?nx51
       rintro v L' ⟨rfl, rfl⟩
       refine G.ag rfl rfl (G.nil (G.then_n (G.ret (G.then_r ?_))))
       have hnx : nextZ δ (ω.mark ω.area (ω.recs.take ω.synced.toNat) a b) = ((δ.write ((ω.mark ω.area (ω.recs.take ω.synced.toNat) a b).count % 2) (ω.mark ω.area (ω.recs.take ω.synced.toNat) a b).sec).1.sync.1, 2) := next_s2 (m := (ω.mark ω.area (ω.recs.take ω.synced.toNat) a b)) h7_40 h47
       have hr : setmZ δ ω a b = ((δ.write ((ω.mark ω.area (ω.recs.take ω.synced.toNat) a b).count % 2) (ω.mark ω.area (ω.recs.take ω.synced.toNat) a b).sec).1.sync.1, { ω with doubt := true }, 2) := by unfold setmZ; rw [if_neg (by rw [h10]; decide), if_neg (by omega), if_neg (by omega), hnx, if_pos (by show ¬ (2 : Int) = 0; decide)]; rfl
       rw [hr]
       refine G.rlFold (y := y) (x := x) (ω := { ω with doubt := true }) (v := (.slice arr ω.recs.length crr)) (by (repeat' constructor)) (by exact rfl) (by first | rfl | simp) (by first | rfl | simp [strs]) ?_
       exact G.dn (l := [.tmp 6]) rfl rfl ⟨rfl, rfl⟩
      ·refine G.skip (G.then_n (G.seq (G.region (G.mv rfl rfl (G.q (Quiet.nilp rfl) rfl (G.q (Quiet.fieldAddr rfl fo_114_4) rfl ?_))))))
       refine G.q (Quiet.ld rfl ag_3) rfl ?_
       refine G.q (Quiet.add rfl rfl (by omega)) rfl ?_
       refine G.q (Quiet.nilp rfl) rfl (G.q (Quiet.fieldAddr rfl fo_114_4) rfl ?_)
       refine G.oq (OpSpec.store rfl rfl rfl sz_3 ?c60 ?c61) ?nx62
       case c60 => first | decide | (simp; omega) | simp
       case c61 => exact nfz0 _ _
       rintro v L' rfl
       refine G.nil (G.then_n (G.seq (G.region (G.mv rfl rfl (G.mv rfl rfl (G.q (Quiet.nilp rfl) rfl (G.q (Quiet.fieldAddr rfl fo_114_5) rfl ?_)))))))
       refine G.oq (OpSpec.store rfl rfl rfl sz_3 ?c67 ?c68) ?nx69
       case c67 => first | decide | (simp; omega) | simp
       case c68 => exact nfz0 _ _
       rintro v L' rfl
       refine G.nil (G.then_n (G.seq (G.region (G.mv rfl rfl (G.mv rfl rfl (G.q (Quiet.nilp rfl) rfl (G.q (Quiet.fieldAddr rfl fo_114_6) rfl ?_)))))))
       refine G.oq (OpSpec.store rfl rfl rfl sz_3 ?c74 ?c75) ?nx76
       case c74 => first | decide | (simp; omega) | simp
       case c75 => exact nfz0 _ _
       rintro v L' rfl
       refine G.nil (G.then_n (G.seq (G.region (G.ag rfl rfl (G.nil (G.then_n (G.ret ?_)))))))
       have hnx : nextZ δ (ω.mark ω.area (ω.recs.take ω.synced.toNat) a b) = ((δ.write ((ω.mark ω.area (ω.recs.take ω.synced.toNat) a b).count % 2) (ω.mark ω.area (ω.recs.take ω.synced.toNat) a b).sec).1.sync.1, 0) := next_s3 (m := (ω.mark ω.area (ω.recs.take ω.synced.toNat) a b)) h7_40 h47
       have hr : setmZ δ ω a b = ((δ.write ((ω.mark ω.area (ω.recs.take ω.synced.toNat) a b).count % 2) (ω.mark ω.area (ω.recs.take ω.synced.toNat) a b).sec).1.sync.1, { ω with a := a, b := b, count := ω.count + 1 }, 0) := by unfold setmZ; rw [if_neg (by rw [h10]; decide), if_neg (by omega), if_neg (by omega), hnx, if_neg (fun g => g rfl)]
       rw [hr]
       refine G.rlFold (y := y) (x := x) (ω := { ω with a := a, b := b, count := ω.count + 1 }) (v := (.slice arr ω.recs.length crr)) (by (repeat' constructor)) (by exact rfl) (by first | rfl | simp) (by first | rfl | simp [strs]) ?_
       exact G.dn (l := [.tmp 6]) rfl rfl ⟨rfl, rfl⟩

end Go.Proofs.YtidjhgbdokcphaaGreat

/- Own work: numbers, texts and counts as bytes, and back: plain. -/

namespace Go.Proofs.YtidjhgbdokcphaaGreat
open Go

def sevZ (u : Nat) : Bs := if u < 128 then [UInt8.ofNat u] else UInt8.ofNat (u % 128 + 128) :: sevZ (u / 128)
  termination_by u
  decreasing_by omega
def zigZ (n : Int) : Nat := if 0 ≤ n then (2 * n).toNat else (2 * (-(n + 1)) + 1).toNat
def zagZ (u : Nat) : Int := if u % 2 = 0 then (u / 2 : Nat) else -((u / 2 : Nat) : Int) - 1
def numB (n : Int) : Bs := sevZ (zigZ n)
def cntB (n : Nat) : Bs := sevZ n
def txtB (s : Bs) : Bs := cntB s.length ++ s
abbrev U64 : Nat := 18446744073709551616
theorem zig_zag {n : Int} : zagZ (zigZ n) = n := by
  unfold zagZ zigZ
  by_cases h : 0 ≤ n
  · rw [if_pos h, if_pos (by omega)]; omega
  · rw [if_neg h, if_neg (by omega)]; omega
theorem zag_zig (u : Nat) : zigZ (zagZ u) = u := by
  unfold zagZ zigZ
  by_cases h : u % 2 = 0
  · rw [if_pos h, if_pos (by omega)]; omega
  · rw [if_neg h, if_neg (by omega)]; omega
theorem zig_lt {n : Int} (h : -9223372036854775808 ≤ n ∧ n ≤ 9223372036854775807) : zigZ n < U64 := by
  unfold zigZ U64; split <;> omega
theorem zag_range {u : Nat} (h : u < U64) : -9223372036854775808 ≤ zagZ u ∧ zagZ u ≤ 9223372036854775807 := by
  unfold zagZ; unfold U64 at h; split <;> omega
theorem sev_len (u : Nat) : 0 < (sevZ u).length := by unfold sevZ; split <;> simp
theorem sev_len_le : ∀ (k u : Nat), u < 128 ^ k → 0 < k → (sevZ u).length ≤ k := by
  intro k
  induction k with
  | zero => intro u _ h; omega
  | succ k ih =>
    intro u h _
    unfold sevZ
    split
    · simp
    · rename_i h1
      have h2 : u / 128 < 128 ^ k := by rw [Nat.pow_succ] at h; omega
      have h3 : 0 < k := by
        rcases Nat.eq_zero_or_pos k with rfl | h3
        · simp at h; omega
        · exact h3
      have := ih _ h2 h3
      rw [List.length_cons]; omega
theorem sev_len10 {u : Nat} (h : u < U64) : (sevZ u).length ≤ 10 := sev_len_le 10 u (Nat.lt_of_lt_of_le h (by decide)) (by decide)
def sevP : Nat → Nat → Bs → Option (Nat × Bs)
  | _, _, [] => none
  | k, u, c :: s => if (k = 9 ∧ 1 < c.toNat) ∨ (c.toNat = 0 ∧ 0 < k) then none else if c.toNat < 128 then some (u + c.toNat % 128 * 128 ^ k, s) else sevP (k + 1) (u + c.toNat % 128 * 128 ^ k) s
abbrev Pa (α : Type) := Bs → Option (α × Bs)
def numP : Pa Int := fun s => (sevP 0 0 s).map fun x => (zagZ x.1, x.2)
def cntP (most : Nat) : Pa Nat := fun s => match sevP 0 0 s with
  | some x => if most < x.1 then none else some x
  | none => none
def txtP (most : Nat) : Pa Bs := fun s => match cntP most s with
  | some x => if x.2.length < x.1 then none else some (x.2.take x.1, x.2.drop x.1)
  | none => none
def bindP {α β : Type} (p : Pa α) (f : α → Pa β) : Pa β := fun s => match p s with
  | some x => f x.1 x.2
  | none => none
theorem pow128 (k : Nat) : 0 < 128 ^ k := Nat.pow_pos (by decide)
theorem u8_ofNat {u : Nat} (h : u < 256) : (UInt8.ofNat u).toNat = u := by
  rw [UInt8.toNat_ofNat']; exact Nat.mod_eq_of_lt h
theorem sev_back : ∀ (k u v : Nat) (r : Bs), v + u * 128 ^ k < U64 → k ≤ 9 → (0 < k → 0 < u) → sevP k v (sevZ u ++ r) = some (v + u * 128 ^ k, r)
  | k, u, v, r, h, hk, h0 => by
    unfold sevZ
    have hp := pow128 k
    split
    · rename_i hu
      rw [List.singleton_append]
      unfold sevP
      rw [u8_ofNat (by omega), if_neg, if_pos hu, Nat.mod_eq_of_lt hu]
      rintro (⟨rfl, h1⟩ | ⟨h1, h2⟩)
      · have : u * 128 ^ 9 < U64 := by omega
        unfold U64 at this; omega
      · have := h0 h2; omega
    · rename_i hu
      rw [List.cons_append]
      unfold sevP
      rw [u8_ofNat (by omega), if_neg, if_neg (by omega)]
      · have hk9 : k + 1 ≤ 9 := by
          rcases Nat.lt_or_ge k 9 with h2 | h2
          · omega
          · have : k = 9 := by omega
            subst this
            have : u * 128 ^ 9 < U64 := by omega
            unfold U64 at this; omega
        have e : v + (u % 128 + 128) % 128 * 128 ^ k + u / 128 * 128 ^ (k + 1) = v + u * 128 ^ k := by
          rw [Nat.add_mod_right, Nat.mod_mod, Nat.pow_succ, Nat.add_assoc, Nat.mul_comm (128 ^ k) 128, ← Nat.mul_assoc, ← Nat.add_mul]
          congr 2; omega
        rw [sev_back (k + 1) (u / 128) _ r (by rw [e]; exact h) hk9 (fun _ => by omega), e]
      · rintro (⟨rfl, -⟩ | ⟨h1, -⟩)
        · have : u * 128 ^ 9 < U64 := by omega
          unfold U64 at this; omega
        · omega
  termination_by _ u => u
  decreasing_by omega
theorem sev_back0 {u : Nat} (h : u < U64) (r : Bs) : sevP 0 0 (sevZ u ++ r) = some (u, r) := by
  have := sev_back 0 u 0 r (by omega) (by omega) (fun h => absurd h (by decide))
  simpa using this
theorem sev_form : ∀ (k u : Nat) (s : Bs) (v : Nat) (r : Bs), sevP k u s = some (v, r) → k ≤ 9 → u < 128 ^ k → ∃ x, v = u + x * 128 ^ k ∧ s = sevZ x ++ r ∧ (k + (sevZ x).length ≤ 10) ∧ (k = 9 → x ≤ 1) ∧ (0 < k → 0 < x)
  | k, u, [], v, r, h, _, _ => by unfold sevP at h; cases h
  | k, u, c :: s, v, r, h, hk, hu => by
    unfold sevP at h
    split at h
    · cases h
    · rename_i h1
      have h9 : k = 9 → c.toNat ≤ 1 := fun e => by
        rcases Nat.lt_or_ge 1 c.toNat with g | g
        · exact absurd (.inl ⟨e, g⟩) h1
        · exact g
      have h0 : 0 < k → 0 < c.toNat := fun e => by
        rcases Nat.eq_zero_or_pos c.toNat with g | g
        · exact absurd (.inr ⟨g, e⟩) h1
        · exact g
      split at h
      · rename_i h2
        simp only [Option.some.injEq, Prod.mk.injEq] at h
        obtain ⟨rfl, rfl⟩ := h
        have e : sevZ c.toNat = [c] := by unfold sevZ; rw [if_pos h2]; congr 1; exact UInt8.ofNat_toNat
        refine ⟨c.toNat, by rw [Nat.mod_eq_of_lt h2], by rw [e]; rfl, by rw [e]; simp; omega, h9, h0⟩
      · rename_i h2
        have hk9 : k + 1 ≤ 9 := by
          rcases Nat.lt_or_ge k 9 with g | g
          · omega
          · have := h9 (by omega); omega
        have hc := c.toNat_lt
        have hu' : u + c.toNat % 128 * 128 ^ k < 128 ^ (k + 1) := by
          have h3 : c.toNat % 128 * 128 ^ k ≤ 127 * 128 ^ k := Nat.mul_le_mul_right _ (by omega)
          rw [Nat.pow_succ]; omega
        obtain ⟨x, e1, e2, e3, e4, e5⟩ := sev_form (k + 1) _ s v r h hk9 hu'
        have hx := e5 (by omega)
        have e : sevZ (c.toNat % 128 + x * 128) = c :: sevZ x := by
          rw [sevZ, if_neg (by omega), show (c.toNat % 128 + x * 128) / 128 = x by omega, show (c.toNat % 128 + x * 128) % 128 + 128 = c.toNat by omega]
          congr 1; exact UInt8.ofNat_toNat
        refine ⟨c.toNat % 128 + x * 128, ?_, by rw [e, e2]; rfl, by rw [e, List.length_cons]; omega, fun g => by omega, fun _ => by omega⟩
        rw [e1, Nat.pow_succ, Nat.add_mul, Nat.mul_comm (128 ^ k) 128, ← Nat.mul_assoc, Nat.add_assoc]
theorem sevP_lt : ∀ (k u : Nat) (s : Bs) (v : Nat) (r : Bs), sevP k u s = some (v, r) → k ≤ 9 → u < 128 ^ k → v < U64
  | k, u, [], v, r, h, _, _ => by unfold sevP at h; cases h
  | k, u, c :: s, v, r, h, hk, hu => by
    unfold sevP at h
    split at h
    · cases h
    · rename_i h1
      have h9 : k = 9 → c.toNat ≤ 1 := fun e => by
        rcases Nat.lt_or_ge 1 c.toNat with g | g
        · exact absurd (.inl ⟨e, g⟩) h1
        · exact g
      have h3 : c.toNat % 128 * 128 ^ k ≤ 127 * 128 ^ k := Nat.mul_le_mul_right _ (by omega)
      split at h
      · simp only [Option.some.injEq, Prod.mk.injEq] at h
        obtain ⟨rfl, rfl⟩ := h
        rcases Nat.lt_or_ge k 9 with g | g
        · have h4 : 128 ^ k ≤ 128 ^ 8 := Nat.pow_le_pow_right (by decide) (by omega)
          have e8 : (128 : Nat) ^ 8 = 72057594037927936 := by decide
          unfold U64; omega
        · have : k = 9 := by omega
          subst this
          have h5 := h9 rfl
          have h6 : c.toNat % 128 * 128 ^ 9 ≤ 1 * 128 ^ 9 := Nat.mul_le_mul_right _ (by omega)
          have e9 : (128 : Nat) ^ 9 = 9223372036854775808 := by decide
          unfold U64; omega
      · have hk9 : k + 1 ≤ 9 := by
          rcases Nat.lt_or_ge k 9 with g | g
          · omega
          · have := h9 (by omega); omega
        exact sevP_lt (k + 1) _ s v r h hk9 (by rw [Nat.pow_succ]; omega)
theorem sev_form0 {s : Bs} {v : Nat} {r : Bs} (h : sevP 0 0 s = some (v, r)) : s = sevZ v ++ r ∧ v < U64 := by
  obtain ⟨x, e1, e2, e3, -, -⟩ := sev_form 0 0 s v r h (by decide) (by decide)
  have e1 : v = x := by simpa using e1
  subst e1
  refine ⟨e2, ?_⟩
  exact sevP_lt 0 0 _ _ _ h (by decide) (by decide)
theorem num_back {n : Int} (h : -9223372036854775808 ≤ n ∧ n ≤ 9223372036854775807) (r : Bs) : numP (numB n ++ r) = some (n, r) := by
  unfold numP numB
  rw [sev_back0 (zig_lt h)]
  simp [zig_zag]
theorem num_form {s r : Bs} {n : Int} (h : numP s = some (n, r)) : s = numB n ++ r ∧ -9223372036854775808 ≤ n ∧ n ≤ 9223372036854775807 := by
  unfold numP at h
  cases e : sevP 0 0 s with
  | none => rw [e] at h; cases h
  | some x =>
    obtain ⟨u, q⟩ := x
    rw [e] at h
    simp only [Option.map_some, Option.some.injEq, Prod.mk.injEq] at h
    obtain ⟨rfl, rfl⟩ := h
    obtain ⟨h1, h2⟩ := sev_form0 e
    unfold numB
    rw [zag_zig]
    exact ⟨h1, zag_range h2⟩
theorem cnt_back {n most : Nat} (h : n ≤ most) (hm : most < U64) (r : Bs) : cntP most (cntB n ++ r) = some (n, r) := by
  unfold cntP cntB
  rw [sev_back0 (by omega)]
  dsimp only
  rw [if_neg (by omega)]
theorem cnt_over {n most : Nat} (h : most < n) (hm : n < U64) (r : Bs) : cntP most (cntB n ++ r) = none := by
  unfold cntP cntB
  rw [sev_back0 (by omega)]
  dsimp only
  rw [if_pos h]
theorem cnt_form {s r : Bs} {n most : Nat} (h : cntP most s = some (n, r)) : s = cntB n ++ r ∧ n ≤ most := by
  unfold cntP at h
  cases e : sevP 0 0 s with
  | none => rw [e] at h; cases h
  | some x =>
    obtain ⟨u, q⟩ := x
    rw [e] at h
    dsimp only at h
    split at h
    · cases h
    · rename_i h1
      simp only [Option.some.injEq, Prod.mk.injEq] at h
      obtain ⟨rfl, rfl⟩ := h
      exact ⟨(sev_form0 e).1, by omega⟩
theorem txt_back {s : Bs} {most : Nat} (h : s.length ≤ most) (hm : most < U64) (r : Bs) : txtP most (txtB s ++ r) = some (s, r) := by
  unfold txtP txtB
  rw [List.append_assoc, cnt_back h hm]
  dsimp only
  rw [if_neg (by simp)]
  simp
theorem txt_over {s : Bs} {most : Nat} (h : most < s.length) (hm : s.length < U64) (r : Bs) : txtP most (txtB s ++ r) = none := by
  unfold txtP txtB
  rw [List.append_assoc, cnt_over h hm]
theorem txt_form {s r x : Bs} {most : Nat} (h : txtP most s = some (x, r)) : s = txtB x ++ r ∧ x.length ≤ most := by
  unfold txtP at h
  cases e : cntP most s with
  | none => rw [e] at h; cases h
  | some y =>
    obtain ⟨n, q⟩ := y
    rw [e] at h
    dsimp only at h
    split at h
    · cases h
    · rename_i h1
      simp only [Option.some.injEq, Prod.mk.injEq] at h
      obtain ⟨rfl, rfl⟩ := h
      obtain ⟨e1, e2⟩ := cnt_form e
      have hl : (q.take n).length = n := by rw [List.length_take]; omega
      refine ⟨?_, by omega⟩
      unfold txtB
      rw [hl, List.append_assoc, List.take_append_drop]
      exact e1
/-! ### A reader's state: what is still to be read, or that something was wrong -/
abbrev Rs := Option Bs
def runP {α : Type} (d : α) (p : Pa α) : Rs → α × Rs
  | none => (d, none)
  | some s => match p s with
    | some x => (x.1, some x.2)
    | none => (d, none)
end Go.Proofs.YtidjhgbdokcphaaGreat

/- Own work: a writer and a reader of bytes in memory. -/

namespace Go.Proofs.YtidjhgbdokcphaaGreat
open Go

def wrR (w : Nat) (bs : Bs) : HP := fun h => ∃ y : Option Addr × Nat, True ∧ sep [ptc w [.slice y.1 bs.length y.2, vint 0] 188, bytR (.slice y.1 bs.length y.2) bs] h
def rdW (r : Nat) (s : Bs) (at' : Nat) (e : Int) : HP := fun h => ∃ y : Nat × Nat, (at' ≤ s.length ∧ s.length ≤ 2147483648) ∧ sep [ptc r [.slice (some ⟨y.1, 0, none⟩) s.length y.2, vint at', vint e] 200, bytR (.slice (some ⟨y.1, 0, none⟩) s.length y.2) s] h
def stW (s : Bs) (at' : Nat) (e : Int) : Rs := if e = 0 then some (s.drop at') else none
def rdR (r : Nat) (st : Rs) : HP := fun h => ∃ y : Bs × (Nat × Int), stW y.1 y.2.1 y.2.2 = st ∧ sep [rdW r y.1 y.2.1 y.2.2] h
section
variable {P : Program} {W : World} {n : Nat} {ds : List Deferred} {E : Env} {L R : List HP} {X : Act → World → Prop}
theorem G.wrOpen {w : Nat} {bs : Bs} (hL : Pick (wrR w bs) L R) (h : ∀ a c, G W n ds E (ptc w [.slice a bs.length c, vint 0] 188 :: bytR (.slice a bs.length c) bs :: R) X) : G W n ds E L X :=
  G.focus hL (G.open (q := fun y : Option Addr × Nat => [ptc w [.slice y.1 bs.length y.2, vint 0] 188, bytR (.slice y.1 bs.length y.2) bs]) (φ := fun _ => True) (fun _ hp => hp) fun y _ => h y.1 y.2)
theorem G.wrFold {w : Nat} (bs : Bs) {l xs : List Value} {a : Option Addr} {c m : Nat} (hL : Picks [ptc w l 188, slR 5 1 (.slice a m c) m xs] L R) (hl : l = [.slice a m c, vint 0]) (hm : m = bs.length) (hx : xs = bysL bs) (h : G W n ds E (wrR w bs :: R) X) : G W n ds E L X := by
  subst hl; subst hm; subst hx
  exact G.fold hL (fun _ hp => ⟨(a, c), trivial, hp⟩) h
theorem G.rdOpen {r : Nat} {s : Bs} {k : Nat} {e : Int} (hL : Pick (rdW r s k e) L R) (h : ∀ a c, k ≤ s.length → s.length ≤ 2147483648 → G W n ds E (ptc r [.slice (some ⟨a, 0, none⟩) s.length c, vint k, vint e] 200 :: bytR (.slice (some ⟨a, 0, none⟩) s.length c) s :: R) X) : G W n ds E L X :=
  G.focus hL (G.open (q := fun y : Nat × Nat => [ptc r [.slice (some ⟨y.1, 0, none⟩) s.length y.2, vint k, vint e] 200, bytR (.slice (some ⟨y.1, 0, none⟩) s.length y.2) s]) (φ := fun _ => k ≤ s.length ∧ s.length ≤ 2147483648) (fun _ hp => hp) fun y hy => h y.1 y.2 hy.1 hy.2)
theorem G.rdFold {r : Nat} (s : Bs) (k : Nat) (e : Int) {l : List Value} {a c : Nat} (hL : Picks [ptc r l 200, bytR (.slice (some ⟨a, 0, none⟩) s.length c) s] L R) (hl : l = [.slice (some ⟨a, 0, none⟩) s.length c, vint k, vint e]) (hk : k ≤ s.length) (hs : s.length ≤ 2147483648) (h : G W n ds E (rdW r s k e :: R) X) : G W n ds E L X := by
  subst hl
  exact G.fold hL (fun _ hp => ⟨(a, c), ⟨hk, hs⟩, hp⟩) h
theorem Fn.rdUp {f : FuncId} {args : Array Value} {r : Nat} {α : Type} {d : α} {p : Pa α} {v : α → Value} (h : ∀ s k e, Fn P f args [rdW r s k e] fun u L => ∃ k' e', stW s k' e' = (runP d p (stW s k e)).2 ∧ u = v (runP d p (stW s k e)).1 ∧ L = [rdW r s k' e']) (st : Rs) :
    Fn P f args [rdR r st] fun u L => u = v (runP d p st).1 ∧ L = [rdR r (runP d p st).2] := by
  intro F w hs
  obtain ⟨h1, h2, hd, a1, a2, ⟨y, hy, hp⟩, hF⟩ := hs
  subst hy
  have hs' : St ([rdW r y.1 y.2.1 y.2.2] ++ F) w := sep_flat ⟨h1, h2, hd, a1, a2, hp, hF⟩
  refine (h _ _ _ F w hs').mono ?_
  rintro e w' ⟨u, L, ⟨k', e', h3, rfl, rfl⟩, he, hs2, hk⟩
  refine ⟨_, _, ⟨rfl, rfl⟩, he, sep_imp (fun hh hq => ⟨(y.1, (k', e')), h3, hh, fun _ => none, fun _ => .inr rfl, fun _ _ e => e, fun _ _ e => (by cases e), hq, trivial⟩) hs2, hk⟩
theorem Fn.rdEnd {f : FuncId} {args : Array Value} {r : Nat} (h : ∀ s k e, Fn P f args [rdW r s k e] fun u L => ∃ e1, (e1 = 0 ↔ stW s k e = some []) ∧ u = vint e1 ∧ L = [rdW r s k e1]) (st : Rs) :
    Fn P f args [rdR r st] fun u L => ∃ e1, (e1 = 0 ↔ st = some []) ∧ u = vint e1 ∧ ∃ st', L = [rdR r st'] := by
  intro F w hs
  obtain ⟨h1, h2, hd, a1, a2, ⟨y, hy, hp⟩, hF⟩ := hs
  subst hy
  have hs' : St ([rdW r y.1 y.2.1 y.2.2] ++ F) w := sep_flat ⟨h1, h2, hd, a1, a2, hp, hF⟩
  refine (h _ _ _ F w hs').mono ?_
  rintro e w' ⟨u, L, ⟨e1, h3, rfl, rfl⟩, he, hs2, hk⟩
  refine ⟨_, _, ⟨e1, h3, rfl, _, rfl⟩, he, sep_imp (fun hh hq => ⟨(y.1, (y.2.1, e1)), rfl, hh, fun _ => none, fun _ => .inr rfl, fun _ _ e => e, fun _ _ e => (by cases e), hq, trivial⟩) hs2, hk⟩
theorem rdW_up {r : Nat} {s : Bs} {k : Nat} {e : Int} {h : Hp} (hp : sep [rdW r s k e] h) : rdR r (stW s k e) h := ⟨(s, (k, e)), rfl, hp⟩
theorem G.rdUpF {r : Nat} {s : Bs} {k : Nat} {e : Int} {st : Rs} (hL : Pick (rdW r s k e) L R) (hs : stW s k e = st) (h : G W n ds E (rdR r st :: R) X) : G W n ds E L X := by
  subst hs; exact G.fold (.cons hL .nil) (fun _ hp => rdW_up hp) h
end
theorem slR_mid {b i j c : Nat} {s : Bs} {h : Hp} (hi : i ≤ j) (hj : j ≤ s.length) (hp : bytR (.slice (some ⟨b, 0, none⟩) s.length c) s h) : rdS 1 h (.slice (some (if c = i then ⟨b, 0, none⟩ else ⟨b, 0 + i * 1, none⟩)) (j - i) (c - i)) ((s.take j).drop i).length (((s.take j).drop i).map vbyte) := by
  obtain ⟨⟨rest, fr⟩, h1, h2, h3, h4, h5⟩ := slR_get hp
  have hl : ((s.take j).drop i).length = j - i := by rw [List.length_drop, List.length_take]; omega
  rcases Nat.lt_or_ge i j with g | g
  · refine .inr ⟨b, i, c - i, bysL s ++ rest, 5, fr, ?_, h1, ?_, ?_, by omega⟩
    · rw [if_neg (by omega), hl]; simp
    · rw [hl, Nat.mul_one, List.drop_append_of_le_length (by simp [bysL]; omega), List.take_append_of_le_length (by simp [bysL]; omega)]
      unfold bysL
      rw [← List.map_drop, ← List.map_take, List.drop_take]
    · rw [hl]; simp [bysL]; omega
  · refine .inl ⟨by omega, ?_, ?_⟩
    · rw [List.drop_eq_nil_of_le (by rw [List.length_take]; omega)]; rfl
    · rw [show j - i = 0 by omega]; exact ⟨_, _, rfl⟩
/-! ### Bits -/
theorem u64wrap (x : Int) : IntKind.u64.wrap x = x % 18446744073709551616 := rfl
theorem u8wrap (x : Int) : IntKind.u8.wrap x = x % 256 := rfl
theorem bv8_or : ∀ b : BitVec 8, (b ||| 128#8).toNat = b.toNat % 128 + 128 := by decide +kernel
theorem byte_or (u : Nat) : Value.int .u8 (IntKind.u8.wrap (BitVec.ofInt IntKind.u8.bits (IntKind.u8.wrap (u : Int)) ||| BitVec.ofInt IntKind.u8.bits 128).toNat) = vbyte (UInt8.ofNat (u % 128 + 128)) := by
  show Value.int .u8 _ = Value.int .u8 _
  congr 1
  have h : (BitVec.ofInt 8 (IntKind.u8.wrap (u : Int)) ||| BitVec.ofInt 8 128).toNat = u % 128 + 128 := by
    rw [show BitVec.ofInt 8 128 = 128#8 from rfl, bv8_or, BitVec.toNat_ofInt, u8wrap]
    omega
  show IntKind.u8.wrap ((BitVec.ofInt 8 (IntKind.u8.wrap (u : Int)) ||| BitVec.ofInt 8 128).toNat : Int) = _
  rw [h, u8wrap, u8_ofNat (by omega)]
  omega
theorem byte_low {u : Nat} (h : u < 128) : Value.int .u8 (IntKind.u8.wrap (u : Int)) = vbyte (UInt8.ofNat u) := by
  show Value.int .u8 _ = Value.int .u8 _
  rw [u8wrap, u8_ofNat (by omega)]
  congr 1; omega
theorem zig_bits {n : Int} (h : -9223372036854775808 ≤ n ∧ n ≤ 9223372036854775807) : IntKind.u64.wrap (BitVec.ofInt IntKind.u64.bits (IntKind.u64.wrap (IntKind.u64.wrap n * 2 ^ min (1 : Int).toNat IntKind.u64.bits)) ^^^ BitVec.ofInt IntKind.u64.bits (IntKind.u64.wrap (n.fdiv (2 ^ min (63 : Int).toNat IntKind.i64.bits)))).toNat = (zigZ n : Int) := by
  have e1 : (2 : Int) ^ min (1 : Int).toNat IntKind.u64.bits = 2 := rfl
  have e2 : (2 : Int) ^ min (63 : Int).toNat IntKind.i64.bits = 9223372036854775808 := rfl
  rw [e1, e2, Int.fdiv_eq_ediv_of_nonneg _ (by decide)]
  show IntKind.u64.wrap ((BitVec.ofInt 64 (IntKind.u64.wrap (IntKind.u64.wrap n * 2)) ^^^ BitVec.ofInt 64 (IntKind.u64.wrap (n / 9223372036854775808))).toNat : Int) = _
  unfold zigZ
  by_cases h0 : 0 ≤ n
  · rw [if_pos h0, show n / 9223372036854775808 = 0 by omega, show BitVec.ofInt 64 (IntKind.u64.wrap 0) = 0#64 from rfl, BitVec.xor_zero, BitVec.toNat_ofInt, u64wrap, u64wrap, u64wrap]
    omega
  · rw [if_neg h0, show n / 9223372036854775808 = -1 by omega, show BitVec.ofInt 64 (IntKind.u64.wrap (-1)) = BitVec.allOnes 64 from rfl, BitVec.xor_allOnes, BitVec.toNat_not, BitVec.toNat_ofInt, u64wrap, u64wrap, u64wrap]
    omega
theorem u64_and1 (u : Nat) : IntKind.u64.wrap (BitVec.ofInt IntKind.u64.bits (u : Int) &&& BitVec.ofInt IntKind.u64.bits 1).toNat = ((u % 2 : Nat) : Int) := by
  show IntKind.u64.wrap ((BitVec.ofInt 64 (u : Int) &&& BitVec.ofInt 64 1).toNat : Int) = _
  have h : (BitVec.ofInt 64 (u : Int) &&& BitVec.ofInt 64 1).toNat = u % 2 := by
    rw [BitVec.toNat_and, show (BitVec.ofInt 64 1).toNat = 1 from rfl, Nat.and_one_is_mod, BitVec.toNat_ofInt]
    have e : ((2 ^ 64 : Nat) : Int) = 18446744073709551616 := rfl
    rw [e]; omega
  rw [h, u64wrap]; omega
theorem zag_bits {u : Nat} (h : u < U64) : IntKind.i64.wrap (BitVec.ofInt IntKind.i64.bits (IntKind.i64.wrap ((u : Int).fdiv (2 ^ min (1 : Int).toNat IntKind.u64.bits))) ^^^ BitVec.ofInt IntKind.i64.bits (-((u % 2 : Nat) : Int))).toNat = zagZ u := by
  have e1 : (2 : Int) ^ min (1 : Int).toNat IntKind.u64.bits = 2 := rfl
  have e64 : ((2 ^ 64 : Nat) : Int) = 18446744073709551616 := rfl
  unfold U64 at h
  rw [e1, Int.fdiv_eq_ediv_of_nonneg _ (by decide)]
  show IntKind.i64.wrap ((BitVec.ofInt 64 (IntKind.i64.wrap ((u : Int) / 2)) ^^^ BitVec.ofInt 64 (-((u % 2 : Nat) : Int))).toNat : Int) = _
  have e3 : IntKind.i64.wrap ((u : Int) / 2) = (u : Int) / 2 := i64w (by omega)
  rw [e3]
  unfold zagZ
  by_cases h0 : u % 2 = 0
  · rw [if_pos h0, h0, show BitVec.ofInt 64 (-((0 : Nat) : Int)) = 0#64 from rfl, BitVec.xor_zero, BitVec.toNat_ofInt, wrap64, e64]
    omega
  · rw [if_neg h0, show u % 2 = 1 by omega, show BitVec.ofInt 64 (-((1 : Nat) : Int)) = BitVec.allOnes 64 from rfl, BitVec.xor_allOnes, BitVec.toNat_not, BitVec.toNat_ofInt, wrap64, e64]
    omega
theorem bv8_and : ∀ b : BitVec 8, (b &&& 127#8).toNat = b.toNat % 128 := by decide +kernel
theorem byte_and (c : UInt8) : IntKind.u64.wrap (IntKind.u8.wrap (BitVec.ofInt IntKind.u8.bits (c.toNat : Int) &&& BitVec.ofInt IntKind.u8.bits 127).toNat) = ((c.toNat % 128 : Nat) : Int) := by
  have hc := c.toNat_lt
  have h : (BitVec.ofInt 8 (c.toNat : Int) &&& BitVec.ofInt 8 127).toNat = c.toNat % 128 := by
    rw [show BitVec.ofInt 8 127 = 127#8 from rfl, bv8_and, BitVec.toNat_ofInt]
    have e : ((2 ^ 8 : Nat) : Int) = 256 := rfl
    rw [e]; omega
  show IntKind.u64.wrap (IntKind.u8.wrap ((BitVec.ofInt 8 (c.toNat : Int) &&& BitVec.ofInt 8 127).toNat : Int)) = _
  rw [h, u8wrap, u64wrap]; omega
theorem pow7 (k : Nat) : (2 : Nat) ^ (7 * k) = 128 ^ k := by rw [Nat.pow_mul]
theorem sev_bits {k u x : Nat} (hk : k ≤ 9) (hu : u < 128 ^ k) (hx : x < 128) (h9 : k = 9 → x ≤ 1) :
    IntKind.u64.wrap (BitVec.ofInt IntKind.u64.bits (u : Int) ||| BitVec.ofInt IntKind.u64.bits (IntKind.u64.wrap ((x : Int) * 2 ^ min (7 * (k : Int)).toNat IntKind.u64.bits))).toNat = ((u + x * 128 ^ k : Nat) : Int) := by
  have em : min (7 * (k : Int)).toNat IntKind.u64.bits = 7 * k := by
    have : IntKind.u64.bits = 64 := rfl
    omega
  have hb : x * 128 ^ k < 18446744073709551616 := by
    rcases Nat.lt_or_ge k 9 with g | g
    · have h4 : 128 ^ k ≤ 128 ^ 8 := Nat.pow_le_pow_right (by decide) (by omega)
      have e8 : (128 : Nat) ^ 8 = 72057594037927936 := by decide
      have : x * 128 ^ k ≤ 127 * 128 ^ 8 := Nat.mul_le_mul (by omega) h4
      omega
    · have : k = 9 := by omega
      subst this
      have := h9 rfl
      have e9 : (128 : Nat) ^ 9 = 9223372036854775808 := by decide
      have : x * 128 ^ 9 ≤ 1 * 128 ^ 9 := Nat.mul_le_mul_right _ (by omega)
      omega
  have hu64 : u < 18446744073709551616 := by
    have h4 : 128 ^ k ≤ 128 ^ 9 := Nat.pow_le_pow_right (by decide) hk
    have e9 : (128 : Nat) ^ 9 = 9223372036854775808 := by decide
    omega
  have hs : u + x * 128 ^ k < 18446744073709551616 := by
    rcases Nat.lt_or_ge k 9 with g | g
    · have h4 : 128 ^ (k + 1) ≤ 128 ^ 9 := Nat.pow_le_pow_right (by decide) (by omega)
      have e9 : (128 : Nat) ^ 9 = 9223372036854775808 := by decide
      have : x * 128 ^ k ≤ 127 * 128 ^ k := Nat.mul_le_mul_right _ (by omega)
      rw [Nat.pow_succ] at h4
      omega
    · have : k = 9 := by omega
      subst this
      have := h9 rfl
      have e9 : (128 : Nat) ^ 9 = 9223372036854775808 := by decide
      have : x * 128 ^ 9 ≤ 1 * 128 ^ 9 := Nat.mul_le_mul_right _ (by omega)
      omega
  rw [em]
  have e2 : (x : Int) * 2 ^ (7 * k) = ((x * 128 ^ k : Nat) : Int) := by
    rw [← pow7]; simp
  have e4 : IntKind.u64.wrap ((x * 128 ^ k : Nat) : Int) = ((x * 128 ^ k : Nat) : Int) := by rw [u64wrap]; exact Int.emod_eq_of_lt (by omega) (by omega)
  rw [e2, e4]
  show IntKind.u64.wrap ((BitVec.ofInt 64 (u : Int) ||| BitVec.ofInt 64 ((x * 128 ^ k : Nat) : Int)).toNat : Int) = _
  have e3 : (BitVec.ofInt 64 (u : Int) ||| BitVec.ofInt 64 ((x * 128 ^ k : Nat) : Int)).toNat = u + x * 128 ^ k := by
    have e64 : ((2 ^ 64 : Nat) : Int) = 18446744073709551616 := rfl
    have f1 : (BitVec.ofInt 64 (u : Int)).toNat = u := by rw [BitVec.toNat_ofInt, e64]; omega
    have f2 : (BitVec.ofInt 64 ((x * 128 ^ k : Nat) : Int)).toNat = x * 128 ^ k := by rw [BitVec.toNat_ofInt, e64]; omega
    rw [BitVec.toNat_or, f1, f2, Nat.or_comm, ← pow7, ← Nat.shiftLeft_eq, ← Nat.shiftLeft_add_eq_or_of_lt (by rw [pow7]; exact hu), Nat.add_comm]
  rw [e3, u64wrap]
  omega
end Go.Proofs.YtidjhgbdokcphaaGreat

/- Own work: structs that are compared, and structs as keys of maps. -/

namespace Go.Proofs.YtidjhgbdokcphaaGreat
open Go

def FEq (P : Program) (d : Nat) (xs ys : Array Value) (f : Field) (r : Bool) : Prop :=
  f.name ≠ "_" ∧ ∀ w, ∃ a b, (part f.type xs f.offset).run P w = .ok a w ∧ (part f.type ys f.offset).run P w = .ok b w ∧ (Op.equalIn d f.type a b).run P w = .ok r w
inductive FEqs (P : Program) (d : Nat) (xs ys : Array Value) : List Field → List Bool → Prop
  | nil : FEqs P d xs ys [] []
  | cons {f fs r rs} : FEq P d xs ys f r → FEqs P d xs ys fs rs → FEqs P d xs ys (f :: fs) (r :: rs)
section parts
variable {P : Program} {w : World}
end parts
section
variable {P : Program} {E : Env} {L R : List HP} {ty : TypeId} {w : World}
end
/-! ### Structs of bigger parts -/
def placesN (P : Program) (fs : Array Field) : Option (List (Nat × Nat)) := fs.toList.mapM fun f => (P.info? f.type).map fun i => (f.offset, i.size)
theorem mapM_placesN {P : Program} {fs : Array Field} {pl : List (Nat × Nat)} (h : placesN P fs = some pl) (w : World) : (fs.mapM (m := Sem) fun f => do pure (f.offset, ← sizeOf f.type)).run P w = .ok pl.toArray w := by
  have key : ∀ (l : List Field) (pl : List (Nat × Nat)), (l.mapM fun f => (P.info? f.type).map fun i => (f.offset, i.size)) = some pl → (l.mapM (m := Sem) fun f => do pure (f.offset, ← sizeOf f.type)).run P w = .ok pl w := by
    intro l
    induction l with
    | nil => intro pl h; simp at h; subst h; rfl
    | cons f l ih =>
      intro pl h
      rw [List.mapM_cons] at h
      simp only [bind, Option.bind_eq_some_iff, pure, Option.some.injEq, Option.map_eq_some_iff] at h
      obtain ⟨a, ⟨i, hi, rfl⟩, bs, hb, rfl⟩ := h
      rw [List.mapM_cons]
      have h2 : sizeOf' P f.type = some i.size := by unfold sizeOf'; rw [hi]; rfl
      rw [run_bind (a := (f.offset, i.size)) (w' := w) (by rw [run_bind (run_sizeOf h2)]; rfl), run_bind (ih bs hb)]
      rfl
  have hm : (fs.mapM (m := Sem) fun f => do pure (f.offset, ← sizeOf f.type)) = (Functor.map List.toArray (fs.toList.mapM (m := Sem) fun f => do pure (f.offset, ← sizeOf f.type))) := by
    rw [Array.mapM_eq_mapM_toList]
  rw [hm]
  rw [show (Functor.map List.toArray (fs.toList.mapM (m := Sem) fun f => do pure (f.offset, ← sizeOf f.type)) : Sem _) = ((fs.toList.mapM (m := Sem) fun f => do pure (f.offset, ← sizeOf f.type)) >>= fun l => pure l.toArray) from rfl]
  rw [run_bind (key _ _ h)]
  rfl
theorem Quiet.buildN {P : Program} {E : Env} {L : List HP} {ty : TypeId} {t : TypeId} {parts : Array (Nat × Operand)} {fs : Array Field} {pl : List (Nat × Nat)} {zl cells : List Value} {us : List (Nat × Value)} (hus : P.underlying t = some (.struct fs)) (hpl : placesN P fs = some pl) (hz : zeroOf P t = some (.agg zl.toArray))
    (hu : parts.toList.map (fun p => (p.1, ev E p.2)) = us.map (fun p => (p.1, some p.2))) (hfill : Instr.fill (fun i => pl.toArray[i]?) zl.toArray us = some cells.toArray) : Quiet P ⟨none, .build t parts, ty, "", #[], none⟩ E L (.agg cells.toArray) := by
  intro ρ w ha _
  refine run_v ?_
  show (Instr.build t (parts.map fun p => (p.1, ρ p.2))).run P w = _
  unfold Instr.build
  rw [run_bind (run_zero hz)]
  dsimp only
  rw [run_bind (run_underlying hus)]
  dsimp only
  rw [run_bind (mapM_placesN hpl w)]
  have hparts : (parts.map fun p => (p.1, ρ p.2)).toList = us := by
    rw [Array.toList_map]; exact agree_parts ha _ _ hu
  rw [hparts]
  rw [show Value.cells (.agg zl.toArray) = zl.toArray from rfl, hfill]
  rfl
/-! ### Keys -/
end Go.Proofs.YtidjhgbdokcphaaGreat

/- Own work, by program: package codec: walked. -/
namespace Go.Proofs.YtidjhgbdokcphaaGreat
open Go
theorem cnew_spec : Fn Tryz.prog 101 #[] [] fun v L => ∃ w, v = vptr w ∧ L = [wrR w []] := by
 refine Fn.intro (vs := []) Tryz.func101 rfl rfl ?_
 intro F W
 refine G.seq (G.region (G.ag rfl rfl (G.nil (G.then_n (G.seq (G.region ?_))))))
 refine G.q (Quiet.to (v' := .agg [.slice none 0 0, vint 0].toArray) (Quiet.buildN (pl := [(0, 2)]) (us := []) (cells := [.slice none 0 0, vint 0]) Tryz.underlying188 (by kernel_rfl) ze_188 rfl rfl) rfl) rfl ?_
 refine G.oq (OpSpec.box rfl) ?nx3
 rintro v L' ⟨w, rfl, rfl⟩
 refine G.ag rfl rfl (G.nil (G.then_n (G.ret (G.add (slR_nil 5 1) ?_))))
 refine G.wrFold (w := w) [] (a := none) (c := 0) (m := 0) (by (repeat' constructor)) rfl rfl rfl ?_
 exact G.dn (l := [.tmp 0]) rfl rfl ⟨w, rfl, rfl⟩

theorem cput_spec (w : Nat) (bs cs : Bs) (va : Value) (p : HP) (hp : ∀ h : Hp, p h → rdS 1 h va cs.length (bysL cs)) (hl : bs.length + cs.length ≤ 4294967296) : Fn Tryz.prog 188 #[vptr w, va] [wrR w bs, p] fun v L => v = .tuple #[] ∧ L = [wrR w (bs ++ cs), p] := by
 refine Fn.intro (vs := [vptr w, va]) Tryz.func188 rfl rfl ?_
 intro F W
 refine G.wrOpen (by (repeat' constructor)) fun wa wc => ?_
 refine G.region (G.mv rfl rfl (G.mv rfl rfl (G.q (Quiet.nilp rfl) rfl (G.q (Quiet.fieldAddr rfl fo_186_0) rfl ?_))))
 refine G.q (Quiet.ld rfl ag_125) rfl ?_
 refine G.mv rfl rfl ?_
 refine G.oq (OpSpec.append (n := bs.length) (m := cs.length) (ys := bysL cs) (p := p) rfl rfl rfl el_125 (.inl ⟨_, Tryz.underlying125⟩) ze_5 rfl rfl ?hc7 hp ?hb8 (by decide)) ?nx9
 case hc7 => exact bysL_cell _
 case hb8 => omega
 rintro v L' ⟨⟨a6, c6, rfl⟩, rfl⟩
 refine G.q (Quiet.nilp rfl) rfl (G.q (Quiet.fieldAddr rfl fo_186_0) rfl ?_)
 refine G.oq (OpSpec.store rfl rfl rfl sz_125 ?c13 ?c14) ?nx15
 case c13 => first | decide | (simp; omega) | simp
 case c14 => exact nfz0 _ _
 rintro v L' rfl
 refine G.nil (G.done_n ?_)
 refine G.wrFold (w := w) (bs ++ cs) (a := a6) (c := c6) (by (repeat' constructor)) (by rfl) (by simp) (by rw [bysL_append]) ?_
 exact G.dn (l := []) rfl rfl ⟨rfl, rfl⟩

theorem sev_step {u : Nat} (h : 127 < u) (bs : Bs) : bs ++ [UInt8.ofNat (u % 128 + 128)] ++ sevZ (u / 128) = bs ++ sevZ u := by
  rw [sevZ.eq_1 u, if_neg (by omega), List.append_assoc]; rfl
theorem sev_last {u : Nat} (h : ¬ 127 < u) (bs : Bs) : bs ++ [UInt8.ofNat u] = bs ++ sevZ u := by
  rw [sevZ.eq_1 u, if_pos (by omega)]
theorem shr7 (u : Nat) : Value.int .u64 ((u : Int).fdiv (2 ^ min (7 : Int).toNat IntKind.u64.bits)) = .int .u64 ((u / 128 : Nat) : Int) := by
  have e1 : (2 : Int) ^ min (7 : Int).toNat IntKind.u64.bits = 128 := rfl
  rw [e1, Int.fdiv_eq_ediv_of_nonneg _ (by decide)]; rfl
theorem csevens_spec (w : Nat) (bs0 : Bs) (u0 : Nat) (hu : u0 < U64) (hl : bs0.length ≤ 4294967200) : Fn Tryz.prog 152 #[vptr w, .int .u64 u0] [wrR w bs0] fun v L => v = .tuple #[] ∧ L = [wrR w (bs0 ++ sevZ u0)] := by
 refine Fn.intro (vs := [vptr w, .int .u64 u0]) Tryz.func152 rfl rfl ?_
 intro F W
 have hs10 := sev_len10 hu
 refine G.seq (G.block ?_)
 refine G.loopK (ι := Nat × Bs) (fun q E => (1, .int .u64 q.1) :: E) (fun q => [wrR w q.2]) (fun q => q.1 ≤ u0 ∧ q.2 ++ sevZ q.1 = bs0 ++ sevZ u0) (fun q => q.1) (u0, bs0) (ts := [0]) (.cons rfl (.nil)) (⟨Nat.le_refl _, rfl⟩) ⟨rfl, rfl, trivial⟩ (by (repeat' constructor)) ?_
 rintro ⟨u, bs⟩ ⟨hu0, heq⟩
 dsimp only
 dsimp only at hu0 heq
 have hbl := congrArg List.length heq
 simp only [List.length_append] at hbl
 have hsl := sev_len u
 refine G.seq (G.seq (G.region (G.mv rfl rfl (G.q (Quiet.int rfl rfl rfl) rfl (G.nil (G.then_n ?_))))))
 refine G.condD rfl (fun h5 => ?_) (fun h5 => ?_)
 ·have h127 : 127 < u := by omega
  refine G.skip (G.then_n (G.seq (G.block (G.region (G.mv rfl rfl (G.q (Quiet.nilp rfl) rfl (G.q (Quiet.fieldAddr rfl fo_188_0) rfl (G.mv rfl rfl (G.q (Quiet.conv rfl Tryz.underlying190 Tryz.underlying5) rfl ?_)))))))))
  refine G.q (Quiet.as (v' := vbyte (UInt8.ofNat (u % 128 + 128))) (by exact byte_or u) (Quiet.or rfl rfl)) rfl ?_
  refine G.oq (OpSpec.buildSlice1 (vs := [_]) el_125 ze_5 rfl rfl rfl rfl rfl (by decide)) ?nx9
  rintro v L' ⟨b2, rfl, rfl⟩
  refine G.slMake (b := b2) (n := 1) (c := 1) (xs := [vbyte (UInt8.ofNat (u % 128 + 128))]) (by (repeat' constructor)) (by decide) (by simp) rfl ?_
  refine G.oq (OpSpec.call Tryz.func188 rfl rfl (vs := [_, _]) rfl (cput_spec w bs [(UInt8.ofNat (u % 128 + 128))] _ (slR 5 1 (.slice (some ⟨b2, 0, none⟩) 1 1) 1 [vbyte (UInt8.ofNat (u % 128 + 128))]) (fun h hp => slR_rd hp) (by simp; omega))) ?nx11
  rintro v L' ⟨rfl, rfl⟩
  refine G.nil (G.blk_n (G.then_n (G.region (G.mv rfl rfl ?_))))
  refine G.q (Quiet.as (v' := .int .u64 ((u / 128 : Nat) : Int)) (by exact shr7 u) (Quiet.shr rfl rfl (by first | decide | omega))) rfl ?_
  refine G.ag rfl rfl (G.nil (G.then_n ?_))
  exact G.roundK ((u / 128, bs ++ [(UInt8.ofNat (u % 128 + 128))])) (⟨by dsimp only; omega, by dsimp only; rw [sev_step (by omega)]; exact heq⟩) (by dsimp only; omega) ⟨rfl, rfl, trivial⟩ (by (repeat' constructor)) (by ((repeat (apply Have.cons; (repeat (first | exact Pick.here | apply Pick.there)))); apply Have.base; repeat' constructor))
 ·have h127 : ¬ 127 < u := by omega
  refine G.exit (G.then_e (G.then_e (G.blk_e (G.then_n (G.region (G.mv rfl rfl (G.q (Quiet.nilp rfl) rfl (G.q (Quiet.fieldAddr rfl fo_188_0) rfl (G.mv rfl rfl ?_)))))))))
  refine G.q (Quiet.as (v' := vbyte (UInt8.ofNat u)) (by exact byte_low (by omega)) (Quiet.conv rfl Tryz.underlying190 Tryz.underlying5)) rfl ?_
  refine G.oq (OpSpec.buildSlice1 (vs := [_]) el_125 ze_5 rfl rfl rfl rfl rfl (by decide)) ?nx20
  rintro v L' ⟨b3, rfl, rfl⟩
  refine G.slMake (b := b3) (n := 1) (c := 1) (xs := [vbyte (UInt8.ofNat u)]) (by (repeat' constructor)) (by decide) (by simp) rfl ?_
  refine G.oq (OpSpec.call Tryz.func188 rfl rfl (vs := [_, _]) rfl (cput_spec w bs [(UInt8.ofNat u)] _ (slR 5 1 (.slice (some ⟨b3, 0, none⟩) 1 1) 1 [vbyte (UInt8.ofNat u)]) (fun h hp => slR_rd hp) (by simp; omega))) ?nx22
  rintro v L' ⟨rfl, rfl⟩
  refine G.nil (G.done_n ?_)
  rw [sev_last h127, heq]
  exact G.dn (l := []) rfl rfl ⟨rfl, rfl⟩

theorem cnum_spec (w : Nat) (bs : Bs) (n : Int) (hn : -9223372036854775808 ≤ n ∧ n ≤ 9223372036854775807) (hl : bs.length ≤ 4294967200) : Fn Tryz.prog 102 #[vptr w, vint n] [wrR w bs] fun v L => v = .tuple #[] ∧ L = [wrR w (bs ++ numB n)] := by
 refine Fn.intro (vs := [vptr w, vint n]) Tryz.func102 rfl rfl ?_
 intro F W
 have hz := zig_lt hn
 refine G.region (G.mv rfl rfl (G.mv rfl rfl (G.q (Quiet.conv rfl Tryz.underlying3 Tryz.underlying190) rfl ?_)))
 refine G.q (Quiet.shl rfl rfl (by first | decide | omega)) rfl ?_
 refine G.mv rfl rfl ?_
 refine G.q (Quiet.shr rfl rfl (by first | decide | omega)) rfl ?_
 refine G.q (Quiet.conv rfl Tryz.underlying3 Tryz.underlying190) rfl ?_
 refine G.q (Quiet.as (v' := .int .u64 (zigZ n : Nat)) (by exact congrArg (Value.int .u64) (zig_bits hn)) (Quiet.xor rfl rfl)) rfl ?_
 refine G.oq (OpSpec.call Tryz.func152 rfl rfl (vs := [_, _]) rfl (csevens_spec _ _ _ ?hu9 ?hl10)) ?nx11
 case hu9 => assumption
 case hl10 => omega
 rintro v L' ⟨rfl, rfl⟩
 refine G.nil (G.done_n ?_)
 exact G.dn (l := []) rfl rfl ⟨rfl, rfl⟩

theorem ccount_spec (w : Nat) (bs : Bs) (n : Nat) (hn : n ≤ 4294967296) (hl : bs.length ≤ 4294967200) : Fn Tryz.prog 103 #[vptr w, vint n] [wrR w bs] fun v L => v = .tuple #[] ∧ L = [wrR w (bs ++ cntB n)] := by
 refine Fn.intro (vs := [vptr w, vint n]) Tryz.func103 rfl rfl ?_
 intro F W
 have hz : n < U64 := by unfold U64; omega
 refine G.region (G.mv rfl rfl (G.mv rfl rfl (G.q (Quiet.max2 rfl rfl) rfl ?_)))
 refine G.q (Quiet.as (v' := .int .u64 (n : Nat)) (by exact congrArg (Value.int .u64) (by rw [u64wrap]; omega)) (Quiet.conv rfl Tryz.underlying3 Tryz.underlying190)) rfl ?_
 refine G.oq (OpSpec.call Tryz.func152 rfl rfl (vs := [_, _]) rfl (csevens_spec _ _ _ ?hu5 ?hl6)) ?nx7
 case hu5 => assumption
 case hl6 => omega
 rintro v L' ⟨rfl, rfl⟩
 refine G.nil (G.done_n ?_)
 exact G.dn (l := []) rfl rfl ⟨rfl, rfl⟩

theorem ctext_spec (w : Nat) (bs s : Bs) (hl : bs.length + s.length ≤ 4294967000) : Fn Tryz.prog 209 #[vptr w, vstr s] [wrR w bs] fun v L => v = .tuple #[] ∧ L = [wrR w (bs ++ txtB s)] := by
 refine Fn.intro (vs := [vptr w, vstr s]) Tryz.func209 rfl rfl ?_
 intro F W
 have hc : (cntB s.length).length ≤ 10 := sev_len10 (by unfold U64; omega)
 refine G.seq (G.region (G.mv rfl rfl (G.mv rfl rfl (G.q (Quiet.strlen rfl Tryz.underlying9 rfl) rfl ?_))))
 refine G.oq (OpSpec.call Tryz.func103 rfl rfl (vs := [_, _]) rfl (ccount_spec _ _ _ ?hn4 ?hb5)) ?nx6
 case hn4 => first | assumption | omega
 case hb5 => omega
 rintro v L' ⟨rfl, rfl⟩
 refine G.nil (G.then_n (G.region (G.mv rfl rfl (G.q (Quiet.nilp rfl) rfl (G.q (Quiet.fieldAddr rfl fo_188_0) rfl (G.mv rfl rfl ?_))))))
 refine G.oq (OpSpec.strBytes rfl Tryz.underlying9 Tryz.underlying125 Tryz.underlying5) ?nx12
 rintro v L' ⟨rfl, b8, c8, rfl⟩
 refine G.oq (OpSpec.call Tryz.func188 rfl rfl (vs := [_, _]) rfl (cput_spec w (bs ++ cntB s.length) s _ (slR 5 1 (.slice (some ⟨b8, 0, none⟩) s.length c8) s.length (s.map vbyte)) (fun h hp => slR_rd hp) (by simp; omega))) ?nx14
 rintro v L' ⟨rfl, rfl⟩
 refine G.nil (G.done_n ?_)
 rw [List.append_assoc]
 exact G.dn (l := []) rfl rfl ⟨rfl, rfl⟩

theorem cbytes_spec (w : Nat) (bs : Bs) : Fn Tryz.prog 104 #[vptr w] [wrR w bs] fun v L => v = vstr bs ∧ L = [wrR w bs] := by
 refine Fn.intro (vs := [vptr w]) Tryz.func104 rfl rfl ?_
 intro F W
 refine G.wrOpen (by (repeat' constructor)) fun wa wc => ?_
 refine G.seq (G.region (G.ag rfl rfl (G.nil (G.then_n (G.seq (G.region (G.mv rfl rfl (G.q (Quiet.nilp rfl) rfl (G.q (Quiet.fieldAddr rfl fo_188_0) rfl (G.q (Quiet.fieldAddr rfl fo_186_0) rfl ?_))))))))))
 refine G.q (Quiet.ld rfl ag_125) rfl ?_
 refine G.q (Quiet.bytesBy (cs := bs) (n := bs.length) (p := bytR (.slice wa bs.length wc) bs) rfl Tryz.underlying125 Tryz.underlying5 Tryz.underlying9 (fun h hp => slR_rd hp) (by (repeat' constructor))) rfl ?_
 refine G.ag rfl rfl (G.nil (G.then_n (G.ret ?_)))
 refine G.wrFold (w := w) bs (by (repeat' constructor)) rfl rfl rfl ?_
 exact G.dn (l := [.tmp 2]) rfl rfl ⟨rfl, rfl⟩

theorem rleft_spec (r : Nat) (s : Bs) (k : Nat) (e : Int) : Fn Tryz.prog 162 #[vptr r] [rdW r s k e] fun v L => v = vint ((s.length : Int) - k) ∧ L = [rdW r s k e] := by
 refine Fn.intro (vs := [vptr r]) Tryz.func162 rfl rfl ?_
 intro F W
 refine G.rdOpen (by (repeat' constructor)) fun ra rc hkl hsz => ?_
 refine G.seq (G.region (G.ag rfl rfl (G.nil (G.then_n (G.seq ?_)))))
 refine G.draw [] [[0, 1, 2, 3, 4, 5, 6, 7, 8, 9, 10]] mixed (by kernel_rfl) ?_
 refine Phases.go [] (by (repeat' constructor)) ?_
 refine D.kw [1, 2, 3, 4, 9, 10] rfl (Quiet.move rfl) ?_
 refine D.kw [2, 3, 4, 9, 10] rfl (Quiet.nilp rfl) ?_
 refine D.kw [3, 4, 9, 10] rfl (Quiet.fieldAddr rfl fo_186_0) ?_
 refine D.kw [4, 9, 10] rfl (Quiet.ld rfl ag_125) ?_
 refine D.kw [9, 10] rfl (Quiet.slen rfl Tryz.underlying125 rfl) ?_
 refine D.kw [6, 7, 8, 9, 10] rfl (Quiet.move rfl) ?_
 refine D.kw [7, 8, 9, 10] rfl (Quiet.nilp rfl) ?_
 refine D.kw [8, 9, 10] rfl (Quiet.fieldAddr rfl fo_186_1) ?_
 refine D.kw [9, 10] rfl (Quiet.ld rfl ag_3) ?_
 refine D.kw [10] rfl (Quiet.sub rfl rfl (by omega)) ?_
 refine D.kw [] rfl (Quiet.assign rfl) ?_
 refine D.ph (Phases.fin (G.then_n (G.ret ?_)))
 refine G.rdFold (r := r) s (k) (e) (by (repeat' constructor)) (by first | rfl | (simp only [List.set]; congr; omega)) (by omega) hsz ?_
 exact G.dn (l := [.tmp 2]) rfl rfl ⟨rfl, rfl⟩

theorem rfails_spec (r : Nat) (s : Bs) (k : Nat) (e e' : Int) : Fn Tryz.prog 161 #[vptr r, vint e'] [rdW r s k e] fun v L => v = .tuple #[] ∧ L = [rdW r s k (if e = 0 then e' else e)] := by
 refine Fn.intro (vs := [vptr r, vint e']) Tryz.func161 rfl rfl ?_
 intro F W
 refine G.rdOpen (by (repeat' constructor)) fun ra rc hkl hsz => ?_
 refine G.seq (G.region (G.mv rfl rfl (G.q (Quiet.nilp rfl) rfl (G.q (Quiet.fieldAddr rfl fo_200_1) rfl ?_))))
 refine G.q (Quiet.ld rfl ag_25) rfl ?_
 refine G.q (Quiet.int rfl rfl rfl) rfl (G.nil (G.then_n ?_))
 refine G.condD rfl (fun h8 => ?_) (fun h8 => ?_)
 ·refine G.region (G.mv rfl rfl (G.mv rfl rfl (G.q (Quiet.nilp rfl) rfl (G.q (Quiet.fieldAddr rfl fo_200_1) rfl ?_))))
  refine G.oq (OpSpec.store rfl rfl rfl sz_25 ?c10 ?c11) ?nx12
  case c10 => first | decide | (simp; omega) | simp
  case c11 => exact nfz0 _ _
  rintro v L' rfl
  refine G.nil (G.done_n ?_)
  refine G.rdFold (r := r) s (k) (if e = 0 then e' else e) (by (repeat' constructor)) (by rw [if_pos h8]; rfl) (by omega) hsz ?_
  exact G.dn (l := []) rfl rfl ⟨rfl, rfl⟩
 ·refine G.skip (G.done_n ?_)
  refine G.rdFold (r := r) s (k) (if e = 0 then e' else e) (by (repeat' constructor)) (by rw [if_neg h8]) (by omega) hsz ?_
  exact G.dn (l := []) rfl rfl ⟨rfl, rfl⟩

theorem rfail_spec (r : Nat) (s : Bs) (k : Nat) (e : Int) : Fn Tryz.prog 163 #[vptr r] [rdW r s k e] fun v L => v = .tuple #[] ∧ L = [rdW r s k (if e = 0 then 11 else e)] := by
 refine Fn.intro (vs := [vptr r]) Tryz.func163 rfl rfl ?_
 intro F W
 refine G.region (G.mv rfl rfl ?_)
 refine G.oq (OpSpec.call Tryz.func161 rfl rfl (vs := [_, _]) rfl (rfails_spec _ _ _ _ _)) ?nx2
 rintro v L' ⟨rfl, rfl⟩
 refine G.nil (G.done_n ?_)
 exact G.dn (l := []) rfl rfl ⟨rfl, rfl⟩

def SevA (s : Bs) (k : Nat) (e : Int) (u m : Nat) (e' : Int) : Prop :=
  ((e ≠ 0 ∨ sevP 0 0 (s.drop k) = none) ∧ u = 0 ∧ m = 0 ∧ e' ≠ 0) ∨ (e = 0 ∧ e' = 0 ∧ k + m ≤ s.length ∧ sevP 0 0 (s.drop k) = some (u, s.drop (k + m)))
def badB (k : Nat) (c : UInt8) : Prop := (k = 9 ∧ 1 < c.toNat) ∨ (c.toNat = 0 ∧ 0 < k)
instance (k : Nat) (c : UInt8) : Decidable (badB k c) := inferInstanceAs (Decidable (_ ∨ _))
theorem sevP_at {s : Bs} {k j u : Nat} (h : k + j < s.length) : sevP j u (s.drop (k + j)) = if badB j s[k + j] then none else if s[k + j].toNat < 128 then some (u + s[k + j].toNat % 128 * 128 ^ j, s.drop (k + j + 1)) else sevP (j + 1) (u + s[k + j].toNat % 128 * 128 ^ j) (s.drop (k + j + 1)) := by
  rw [List.drop_eq_getElem_cons h]
  conv => lhs; unfold sevP
  rfl
theorem sevP_out {s : Bs} {k j u : Nat} (h : s.length ≤ k + j) : sevP j u (s.drop (k + j)) = none := by
  rw [List.drop_eq_nil_of_le h]; unfold sevP; rfl
theorem rsevens_spec (r : Nat) (s : Bs) (k : Nat) (e : Int) : Fn Tryz.prog 160 #[vptr r] [rdW r s k e] fun v L => ∃ u m e', SevA s k e u m e' ∧ v = .tuple #[.int .u64 (u : Nat), vint (m : Nat)] ∧ L = [rdW r s k e'] := by
 refine Fn.intro (vs := [vptr r]) Tryz.func160 rfl rfl ?_
 intro F W
 refine G.rdOpen (by (repeat' constructor)) fun ra rc hkl hsz => ?_
 refine G.seq (G.region (G.ag rfl rfl (G.ag rfl rfl (G.nil (G.then_n (G.seq (G.seq (G.region ?_))))))))
 rcases Decidable.em (e = 0) with he0 | he0
 ·subst he0
  refine G.mv rfl rfl (G.q (Quiet.nilp rfl) rfl (G.q (Quiet.fieldAddr rfl fo_200_1) rfl ?_))
  refine G.q (Quiet.ld rfl ag_25) rfl ?_
  refine G.q (Quiet.as (v' := .bool false) (by rfl) (Quiet.int rfl rfl rfl)) rfl ?_
  refine G.nil (G.then_n (G.condF rfl (G.skip (G.then_n (G.seq (G.region (G.ag rfl rfl (G.nil (G.then_n (G.seq (G.seq (G.region (G.mv rfl rfl (G.q (Quiet.nilp rfl) rfl (G.q (Quiet.fieldAddr rfl fo_200_0) rfl ?_)))))))))))))))
  refine G.rdFold (r := r) s (k) (0) (by (repeat' constructor)) (by first | rfl | (simp only [List.set]; congr; omega)) (by omega) hsz ?_
  refine G.oq (OpSpec.call Tryz.func162 rfl rfl (vs := [_]) rfl (rleft_spec r s k 0)) ?nx12
  rintro v L' ⟨rfl, rfl⟩
  refine G.mv rfl rfl (G.nil ?_)
  refine G.rdOpen (by (repeat' constructor)) fun ra1 rc1 _ _ => ?_
  refine G.then_n (G.block ?_)
  refine G.loopK (ι := Nat × Nat) (fun q E => (16, vint q.1) :: (4, .int .u64 q.2) :: E) (fun q => []) (fun q => k + q.1 ≤ s.length ∧ q.1 ≤ 9 ∧ q.2 < 128 ^ q.1 ∧ sevP q.1 q.2 (s.drop (k + q.1)) = sevP 0 0 (s.drop k)) (fun q => s.length - q.1) (0, 0) (ts := [0, 15]) (.cons rfl (.cons rfl (.nil))) (⟨by dsimp only; omega, by dsimp only; omega, by dsimp only; decide, rfl⟩) ⟨rfl, rfl, rfl, rfl, trivial⟩ (by (repeat' constructor)) ?_
  rintro ⟨j, u⟩ ⟨hj, hj9, huj, hsv⟩
  dsimp only
  dsimp only at hj hj9 huj hsv
  refine G.seq (G.region (G.q (Quiet.int rfl rfl rfl) rfl (G.nil (G.then_n (G.seq ?_)))))
  refine G.condD rfl (fun h17 => ?_) (fun h17 => ?_)
  ·have hlt : k + j < s.length := by omega
   have hxl := s[k + j].toNat_lt
   refine G.skip (G.then_n (G.seq (G.block (G.seq (G.region (G.mv rfl rfl (G.ag rfl rfl (G.nil (G.then_n (G.seq ?_))))))))))
   refine G.draw [] [[0, 1, 2, 3, 4, 5, 6, 7, 8, 9, 10, 11, 12, 13, 14]] mixed (by kernel_rfl) ?_
   refine Phases.go [] (by (repeat' constructor)) ?_
   refine D.kw [1, 2, 3, 4, 12, 13, 14] rfl (Quiet.move rfl) ?_
   refine D.kw [2, 3, 4, 12, 13, 14] rfl (Quiet.nilp rfl) ?_
   refine D.kw [3, 4, 12, 13, 14] rfl (Quiet.fieldAddr rfl fo_200_0) ?_
   refine D.kw [4, 12, 13, 14] rfl (Quiet.fieldAddr rfl fo_186_0) ?_
   refine D.kw [12, 13, 14] rfl (Quiet.ld rfl ag_125) ?_
   refine D.kw [6, 7, 8, 9, 11, 12, 13, 14] rfl (Quiet.move rfl) ?_
   refine D.kw [7, 8, 9, 11, 12, 13, 14] rfl (Quiet.nilp rfl) ?_
   refine D.kw [8, 9, 11, 12, 13, 14] rfl (Quiet.fieldAddr rfl fo_200_0) ?_
   refine D.kw [9, 11, 12, 13, 14] rfl (Quiet.fieldAddr rfl fo_186_1) ?_
   refine D.kw [11, 12, 13, 14] rfl (Quiet.ld rfl ag_3) ?_
   refine D.kw [11, 12, 13, 14] rfl (Quiet.move rfl) ?_
   refine D.kw [12, 13, 14] rfl (Quiet.add rfl rfl (by omega)) ?_
   refine D.kw [13, 14] rfl (Quiet.indexAddr rfl rfl el_125 (by omega)) ?_
   refine D.kw [14] rfl (Quiet.loadRd (sz := 1) (j := k + j) (p := bytR (.slice _ s.length _) s) (v := vbyte s[k + j]) rfl ag_5 (by (repeat' constructor)) (fun h hp => slR_rd hp) (by omega) (by simp [bysL, List.getElem?_eq_getElem hlt])) ?_
   refine D.kw [] rfl (Quiet.assign rfl) ?_
   refine D.ph (Phases.fin (G.then_n (G.seq (G.seq ?_))))
   refine G.joinK (ι := Bool) (fun q E => (46, .bool q) :: E) (fun q => []) (fun q => q = decide (badB j s[k + j])) (pre := []) (ts := [0, 4, 5, 6, 15, 16, 17, 18, 19, 20, 21, 22, 23, 24, 25, 26, 27, 28, 29, 30, 31, 32]) (.cons rfl (.cons rfl (.cons rfl (.cons rfl (.cons rfl (.cons rfl (.cons rfl (.cons rfl (.cons rfl (.cons rfl (.cons rfl (.cons rfl (.cons rfl (.cons rfl (.cons rfl (.cons rfl (.cons rfl (.cons rfl (.cons rfl (.cons rfl (.cons rfl (.cons rfl (.nil))))))))))))))))))))))) (by (repeat' constructor)) ?_ ?_
   ·refine G.region (G.mv rfl rfl (G.q (Quiet.int rfl rfl rfl) rfl (G.mv rfl rfl ?_)))
    refine G.dec (t := 35) rfl (fun h8_35 => ?_) (fun h8_35 => ?_)
    ·refine G.kDT (t := 34) rfl h8_35 (G.grun (t := 35) rfl rfl rfl (G.mv rfl rfl (G.grun (t := 35) rfl rfl rfl (G.q (Quiet.int rfl rfl rfl) rfl (G.q (Quiet.pickT rfl rfl) rfl (G.mv rfl rfl ?_))))))
     refine G.dec (t := 39) rfl (fun h8_39 => ?_) (fun h8_39 => ?_)
     ·refine G.kDT (t := 37) rfl h8_39 (G.kDT (t := 38) rfl h8_39 (G.gskip (t := 39) rfl rfl rfl rfl (G.gskip (t := 39) rfl rfl rfl rfl (G.gskip (t := 39) rfl rfl rfl rfl (G.gskipU (t := 42) rfl rfl rfl (G.gskipU (t := 42) rfl rfl rfl (G.gskip (t := 39) rfl rfl rfl rfl (G.q (Quiet.pickT rfl rfl) rfl (G.nil (G.then_n ?_))))))))))
      exact G.meetK (true) ((by rw [decide_eq_true]; exact .inl ⟨by omega, by omega⟩)) ⟨rfl, rfl, rfl, rfl, rfl, rfl, rfl, rfl, rfl, rfl, rfl, rfl, rfl, rfl, rfl, rfl, rfl, rfl, rfl, rfl, rfl, rfl, rfl, trivial⟩ (by (repeat' constructor)) (by ((repeat (apply Have.cons; (repeat (first | exact Pick.here | apply Pick.there)))); apply Have.base; repeat' constructor))
     ·refine G.kDF (t := 37) rfl h8_39 (G.kDF (t := 38) rfl h8_39 (G.grun (t := 39) rfl rfl rfl (G.mv rfl rfl (G.grun (t := 39) rfl rfl rfl (G.q (Quiet.int rfl rfl rfl) rfl (G.grun (t := 39) rfl rfl rfl (G.mv rfl rfl ?_)))))))
      refine G.dec (t := 42) rfl (fun h8_42 => ?_) (fun h8_42 => ?_)
      ·refine G.kDT (t := 41) rfl h8_42 (G.grun (t := 42) rfl rfl rfl (G.mv rfl rfl (G.grun (t := 42) rfl rfl rfl (G.q (Quiet.int rfl rfl rfl) rfl (G.grun (t := 39) rfl rfl rfl (G.q (Quiet.pickT rfl rfl) rfl (G.q (Quiet.pickF rfl rfl) rfl (G.nil (G.then_n ?_)))))))))
       exact G.meetK ((decide ((j : Int) > 0))) ((by exact decide_eq_decide.2 ⟨fun g => .inr ⟨by omega, by omega⟩, fun g => by rcases g with ⟨g1, g2⟩ | ⟨g1, g2⟩ <;> omega⟩)) ⟨rfl, rfl, rfl, rfl, rfl, rfl, rfl, rfl, rfl, rfl, rfl, rfl, rfl, rfl, rfl, rfl, rfl, rfl, rfl, rfl, rfl, rfl, rfl, trivial⟩ (by (repeat' constructor)) (by ((repeat (apply Have.cons; (repeat (first | exact Pick.here | apply Pick.there)))); apply Have.base; repeat' constructor))
      ·refine G.kDF (t := 41) rfl h8_42 (G.gskip (t := 42) rfl rfl rfl rfl (G.gskip (t := 42) rfl rfl rfl rfl (G.grun (t := 39) rfl rfl rfl (G.q (Quiet.pickF rfl rfl) rfl (G.q (Quiet.pickF rfl rfl) rfl (G.nil (G.then_n ?_)))))))
       exact G.meetK (false) ((by exact (decide_eq_false (by rintro (⟨g1, g2⟩ | ⟨g1, g2⟩) <;> omega)).symm)) ⟨rfl, rfl, rfl, rfl, rfl, rfl, rfl, rfl, rfl, rfl, rfl, rfl, rfl, rfl, rfl, rfl, rfl, rfl, rfl, rfl, rfl, rfl, rfl, trivial⟩ (by (repeat' constructor)) (by ((repeat (apply Have.cons; (repeat (first | exact Pick.here | apply Pick.there)))); apply Have.base; repeat' constructor))
    ·refine G.kDF (t := 34) rfl h8_35 (G.gskip (t := 35) rfl rfl rfl rfl (G.gskip (t := 35) rfl rfl rfl rfl (G.q (Quiet.pickF rfl rfl) rfl (G.mv rfl rfl (G.grun (t := 39) rfl rfl rfl (G.mv rfl rfl (G.grun (t := 39) rfl rfl rfl (G.q (Quiet.int rfl rfl rfl) rfl (G.grun (t := 39) rfl rfl rfl (G.mv rfl rfl ?_))))))))))
     refine G.dec (t := 42) rfl (fun h8_42 => ?_) (fun h8_42 => ?_)
     ·refine G.kDT (t := 41) rfl h8_42 (G.grun (t := 42) rfl rfl rfl (G.mv rfl rfl (G.grun (t := 42) rfl rfl rfl (G.q (Quiet.int rfl rfl rfl) rfl (G.grun (t := 39) rfl rfl rfl (G.q (Quiet.pickT rfl rfl) rfl (G.q (Quiet.pickF rfl rfl) rfl (G.nil (G.then_n ?_)))))))))
      exact G.meetK ((decide ((j : Int) > 0))) ((by exact decide_eq_decide.2 ⟨fun g => .inr ⟨by omega, by omega⟩, fun g => by rcases g with ⟨g1, g2⟩ | ⟨g1, g2⟩ <;> omega⟩)) ⟨rfl, rfl, rfl, rfl, rfl, rfl, rfl, rfl, rfl, rfl, rfl, rfl, rfl, rfl, rfl, rfl, rfl, rfl, rfl, rfl, rfl, rfl, rfl, trivial⟩ (by (repeat' constructor)) (by ((repeat (apply Have.cons; (repeat (first | exact Pick.here | apply Pick.there)))); apply Have.base; repeat' constructor))
     ·refine G.kDF (t := 41) rfl h8_42 (G.gskip (t := 42) rfl rfl rfl rfl (G.gskip (t := 42) rfl rfl rfl rfl (G.grun (t := 39) rfl rfl rfl (G.q (Quiet.pickF rfl rfl) rfl (G.q (Quiet.pickF rfl rfl) rfl (G.nil (G.then_n ?_)))))))
      exact G.meetK (false) ((by exact (decide_eq_false (by rintro (⟨g1, g2⟩ | ⟨g1, g2⟩) <;> omega)).symm)) ⟨rfl, rfl, rfl, rfl, rfl, rfl, rfl, rfl, rfl, rfl, rfl, rfl, rfl, rfl, rfl, rfl, rfl, rfl, rfl, rfl, rfl, rfl, rfl, trivial⟩ (by (repeat' constructor)) (by ((repeat (apply Have.cons; (repeat (first | exact Pick.here | apply Pick.there)))); apply Have.base; repeat' constructor))
   ·rintro b hb
    subst hb
    refine G.condD rfl (fun h46 => ?_) (fun h46 => ?_)
    ·refine G.seq ?_
     refine G.rdFold (r := r) s (k) (0) (by (repeat' constructor)) (by first | rfl | (simp only [List.set]; congr; omega)) (by omega) hsz ?_
     refine G.region (G.mv rfl rfl ?_)
     refine G.oq (OpSpec.call Tryz.func161 rfl rfl (vs := [_, _]) rfl (rfails_spec r s k 0 11)) ?nx41
     rintro v L' ⟨rfl, rfl⟩; rw [if_pos rfl]
     refine G.nil (G.then_n (G.seq (G.region (G.ag rfl rfl (G.ag rfl rfl (G.nil (G.then_n (G.ret (G.then_r (G.blk_r (G.then_r (G.then_r (G.blk_r (G.then_r ?_))))))))))))))
     exact G.dn (l := [.tmp 2, .tmp 3]) rfl rfl ⟨0, 0, 11, .inl ⟨.inr (by rw [← hsv, sevP_at hlt, if_pos h46]), rfl, rfl, by decide⟩, rfl, rfl⟩
    ·have h9 : j = 9 → s[k + j].toNat ≤ 1 := fun g => by rcases Nat.lt_or_ge 1 s[k + j].toNat with g2 | g2; exact absurd (.inl ⟨g, g2⟩) h46; exact g2
     refine G.skip (G.then_n (G.seq (G.region (G.mv rfl rfl (G.mv rfl rfl (G.q (Quiet.and rfl rfl) rfl ?_))))))
     refine G.q (Quiet.as (v' := .int .u64 ((s[k + j].toNat % 128 : Nat) : Int)) (by exact congrArg (Value.int .u64) (byte_and _)) (Quiet.conv rfl Tryz.underlying5 Tryz.underlying190)) rfl ?_
     refine G.mv rfl rfl ?_
     refine G.q (Quiet.mul rfl rfl (by omega)) rfl ?_
     refine G.q (Quiet.shl rfl rfl (by first | decide | omega)) rfl ?_
     refine G.q (Quiet.as (v' := .int .u64 ((u + s[k + j].toNat % 128 * 128 ^ j : Nat) : Int)) (by exact congrArg (Value.int .u64) (sev_bits hj9 huj (by omega) (fun g => by have := h9 g; omega))) (Quiet.or rfl rfl)) rfl ?_
     refine G.ag rfl rfl (G.nil (G.then_n (G.seq (G.region (G.mv rfl rfl (G.q (Quiet.int rfl rfl rfl) rfl (G.nil (G.then_n ?_))))))))
     refine G.condD rfl (fun h58 => ?_) (fun h58 => ?_)
     ·refine G.seq (G.region (G.mv rfl rfl (G.mv rfl rfl ?_)))
      refine G.q (Quiet.add rfl rfl (by omega)) rfl ?_
      refine G.ag rfl rfl (G.ag rfl rfl (G.nil (G.then_n (G.ret (G.blk_r (G.then_r (G.then_r (G.blk_r (G.then_r ?_)))))))))
      refine G.rdFold (r := r) s (k) (0) (by (repeat' constructor)) (by first | rfl | (simp only [List.set]; congr; omega)) (by omega) hsz ?_
      exact G.dn (l := [.tmp 2, .tmp 3]) rfl rfl ⟨_, j + 1, 0, .inr ⟨rfl, rfl, by omega, by rw [← hsv, sevP_at hlt, if_neg h46, if_pos (by omega)]; rfl⟩, rfl, rfl⟩
     ·refine G.skip (G.blk_n (G.then_n (G.region ?_)))
      refine G.q (Quiet.add rfl rfl (by omega)) rfl ?_
      refine G.mv rfl rfl (G.nil (G.then_n ?_))
      exact G.roundK ((j + 1, u + s[k + j].toNat % 128 * 128 ^ j)) (⟨by dsimp only; omega, by dsimp only; rcases Nat.lt_or_ge j 9 with g | g; (omega); exact absurd (h9 (by omega)) (by omega), by dsimp only; rw [Nat.pow_succ]; have := Nat.mul_le_mul_right (128 ^ j) (show s[k + j].toNat % 128 ≤ 127 by omega); omega, by dsimp only; rw [← hsv, sevP_at hlt, if_neg h46, if_neg (by omega)]; rfl⟩) (by dsimp only; omega) ⟨rfl, rfl, rfl, rfl, trivial⟩ (by (repeat' constructor)) (by ((repeat (apply Have.cons; (repeat (first | exact Pick.here | apply Pick.there)))); apply Have.base; repeat' constructor))
  ·refine G.exit (G.then_e (G.then_e (G.blk_e (G.then_n (G.seq ?_)))))
   refine G.rdFold (r := r) s (k) (0) (by (repeat' constructor)) (by first | rfl | (simp only [List.set]; congr; omega)) (by omega) hsz ?_
   refine G.region (G.mv rfl rfl ?_)
   refine G.oq (OpSpec.call Tryz.func161 rfl rfl (vs := [_, _]) rfl (rfails_spec r s k 0 10)) ?nx59
   rintro v L' ⟨rfl, rfl⟩; rw [if_pos rfl]
   refine G.nil (G.then_n (G.seq (G.region (G.ag rfl rfl (G.ag rfl rfl (G.nil (G.then_n (G.ret ?_))))))))
   exact G.dn (l := [.tmp 2, .tmp 3]) rfl rfl ⟨0, 0, 10, .inl ⟨.inr (by rw [← hsv]; exact sevP_out (by omega)), rfl, rfl, by decide⟩, rfl, rfl⟩
 ·refine G.mv rfl rfl (G.q (Quiet.nilp rfl) rfl (G.q (Quiet.fieldAddr rfl fo_200_1) rfl ?_))
  refine G.q (Quiet.ld rfl ag_25) rfl ?_
  refine G.q (Quiet.as (v' := .bool true) (by simp [he0]) (Quiet.int rfl rfl rfl)) rfl ?_
  refine G.nil (G.then_n (G.condT rfl (G.seq (G.region (G.ag rfl rfl (G.ag rfl rfl (G.nil (G.then_n (G.ret (G.then_r ?_))))))))))
  refine G.rdFold (r := r) s (k) (e) (by (repeat' constructor)) (by first | rfl | (simp only [List.set]; congr; omega)) (by omega) hsz ?_
  exact G.dn (l := [.tmp 2, .tmp 3]) rfl rfl ⟨0, 0, e, .inl ⟨.inl he0, rfl, rfl, he0⟩, rfl, rfl⟩

theorem SevA.lt {s : Bs} {k : Nat} {e : Int} {u m : Nat} {e' : Int} (h : SevA s k e u m e') : u < U64 := by
  rcases h with ⟨-, rfl, -⟩ | ⟨-, -, -, h⟩
  · decide
  · exact sevP_lt 0 0 _ _ _ h (by decide) (by decide)
theorem SevA.le {s : Bs} {k : Nat} {e : Int} {u m : Nat} {e' : Int} (h : SevA s k e u m e') (hk : k ≤ s.length) : k + m ≤ s.length := by
  rcases h with ⟨-, -, rfl, -⟩ | ⟨-, -, h, -⟩
  · exact hk
  · exact h
theorem SevA.num {s : Bs} {k : Nat} {e : Int} {u m : Nat} {e' : Int} (h : SevA s k e u m e') : stW s (k + m) e' = (runP 0 numP (stW s k e)).2 ∧ zagZ u = (runP 0 numP (stW s k e)).1 := by
  rcases h with ⟨h1, rfl, rfl, h2⟩ | ⟨rfl, rfl, -, h⟩
  · have e2 : stW s (k + 0) e' = none := if_neg h2
    rw [e2]
    rcases h1 with h1 | h1
    · have e1 : stW s k e = none := if_neg h1
      rw [e1]; exact ⟨rfl, rfl⟩
    · unfold stW
      split
      · unfold runP numP; dsimp only; rw [h1]; exact ⟨rfl, rfl⟩
      · exact ⟨rfl, rfl⟩
  · have e1 : stW s k 0 = some (s.drop k) := if_pos rfl
    have e2 : stW s (k + m) 0 = some (s.drop (k + m)) := if_pos rfl
    rw [e1, e2]
    unfold runP numP; dsimp only; rw [h]; exact ⟨rfl, rfl⟩
theorem SevA.cntT {s : Bs} {k : Nat} {e : Int} {u m : Nat} {e' : Int} {most : Nat} (h : SevA s k e u m e') (hm : most < u) : runP 0 (cntP most) (stW s k e) = (0, none) := by
  rcases h with ⟨h1, rfl, rfl, h2⟩ | ⟨rfl, rfl, -, h⟩
  · omega
  · have e1 : stW s k 0 = some (s.drop k) := if_pos rfl
    rw [e1]
    unfold runP cntP; dsimp only; rw [h]; dsimp only; rw [if_pos hm]
theorem SevA.cntF {s : Bs} {k : Nat} {e : Int} {u m : Nat} {e' : Int} {most : Nat} (h : SevA s k e u m e') (hm : ¬ most < u) : stW s (k + m) e' = (runP 0 (cntP most) (stW s k e)).2 ∧ u = (runP 0 (cntP most) (stW s k e)).1 := by
  rcases h with ⟨h1, rfl, rfl, h2⟩ | ⟨rfl, rfl, -, h⟩
  · have e2 : stW s (k + 0) e' = none := if_neg h2
    rw [e2]
    rcases h1 with h1 | h1
    · have e1 : stW s k e = none := if_neg h1
      rw [e1]; exact ⟨rfl, rfl⟩
    · unfold stW
      split
      · unfold runP cntP; dsimp only; rw [h1]; exact ⟨rfl, rfl⟩
      · exact ⟨rfl, rfl⟩
  · have e1 : stW s k 0 = some (s.drop k) := if_pos rfl
    have e2 : stW s (k + m) 0 = some (s.drop (k + m)) := if_pos rfl
    rw [e1, e2]
    unfold runP cntP; dsimp only; rw [h]; dsimp only; rw [if_neg hm]; exact ⟨rfl, rfl⟩
theorem st_none {s : Bs} {k : Nat} {e x : Int} (hx : x ≠ 0) : stW s k (if e = 0 then x else e) = none := by
  refine if_neg ?_
  split
  · exact hx
  · assumption
theorem txt_run {s : Bs} {k : Nat} {e : Int} {most n k1 : Nat} {e1 : Int} (h1 : stW s k1 e1 = (runP 0 (cntP most) (stW s k e)).2) (hn : n = (runP 0 (cntP most) (stW s k e)).1) (hk : k1 ≤ s.length) :
    ((s.length : Int) - k1 < n → runP [] (txtP most) (stW s k e) = ([], none)) ∧ (¬ (s.length : Int) - k1 < n → stW s (k1 + n) e1 = (runP [] (txtP most) (stW s k e)).2 ∧ (s.take (k1 + n)).drop k1 = (runP [] (txtP most) (stW s k e)).1) := by
  cases hst : stW s k e with
  | none =>
    rw [hst] at h1 hn
    have h1 : stW s k1 e1 = none := h1
    have hn : n = 0 := hn
    subst hn
    refine ⟨fun h => by omega, fun _ => ⟨?_, ?_⟩⟩
    · unfold stW at h1 ⊢
      split at h1
      · cases h1
      · rename_i g; rw [if_neg g]; rfl
    · rw [Nat.add_zero, List.drop_eq_nil_of_le (by rw [List.length_take]; omega)]; rfl
  | some q =>
    rw [hst] at h1 hn
    cases hc : cntP most q with
    | none =>
      have f : runP 0 (cntP most) (some q) = (0, none) := by unfold runP; dsimp only; rw [hc]
      have f2 : runP [] (txtP most) (some q) = ([], none) := by unfold runP txtP; dsimp only; rw [hc]
      rw [f] at h1 hn
      rw [f2]
      have h1 : stW s k1 e1 = none := h1
      have hn : n = 0 := hn
      subst hn
      refine ⟨fun h => by omega, fun _ => ⟨?_, ?_⟩⟩
      · unfold stW at h1 ⊢
        split at h1
        · cases h1
        · rename_i g; rw [if_neg g]
      · rw [Nat.add_zero, List.drop_eq_nil_of_le (by rw [List.length_take]; omega)]
    | some x =>
      obtain ⟨m, z⟩ := x
      have f : runP 0 (cntP most) (some q) = (m, some z) := by unfold runP; dsimp only; rw [hc]
      rw [f] at h1 hn
      have h1 : stW s k1 e1 = some z := h1
      have hn : n = m := hn
      subst hn
      unfold stW at h1
      split at h1
      · rename_i g
        subst g
        have h1 : s.drop k1 = z := Option.some.inj h1
        subst h1
        have hl : (s.drop k1).length = s.length - k1 := List.length_drop
        refine ⟨fun h => ?_, fun h => ?_⟩
        · unfold runP txtP; dsimp only; rw [hc]; dsimp only; rw [if_pos (by omega)]
        · have e2 : stW s (k1 + n) 0 = some (s.drop (k1 + n)) := if_pos rfl
          have f2 : runP [] (txtP most) (some q) = ((s.drop k1).take n, some ((s.drop k1).drop n)) := by unfold runP txtP; dsimp only; rw [hc]; dsimp only; rw [if_neg (by omega)]
          rw [e2, f2, List.drop_drop, List.drop_take]
          exact ⟨rfl, by rw [show k1 + n - k1 = n by omega]⟩
      · cases h1
theorem rnumW_spec (r : Nat) (s : Bs) (k : Nat) (e : Int) : Fn Tryz.prog 118 #[vptr r] [rdW r s k e] fun v L => ∃ k' e', stW s k' e' = (runP 0 numP (stW s k e)).2 ∧ v = vint (runP 0 numP (stW s k e)).1 ∧ L = [rdW r s k' e'] := by
 refine Fn.intro (vs := [vptr r]) Tryz.func118 rfl rfl ?_
 intro F W
 refine G.seq (G.region (G.ag rfl rfl (G.nil (G.then_n (G.seq (G.region (G.mv rfl rfl ?_)))))))
 refine G.oq (OpSpec.call Tryz.func160 rfl rfl (vs := [_]) rfl (rsevens_spec r s k e)) ?nx3
 rintro v L' ⟨u, m, e', hA, rfl, rfl⟩; have hu := hA.lt
 refine G.mv rfl rfl (G.q (Quiet.extract rfl rfl) rfl (G.q (Quiet.extract rfl rfl) rfl (G.ag rfl rfl (G.ag rfl rfl (G.nil (G.then_n (G.seq ?_)))))))
 refine G.rdOpen (by (repeat' constructor)) fun ra rc hkl hsz => ?_
 have hkm := hA.le hkl
 refine G.region (G.mv rfl rfl (G.q (Quiet.nilp rfl) rfl (G.q (Quiet.fieldAddr rfl fo_200_0) rfl (G.q (Quiet.fieldAddr rfl fo_186_1) rfl ?_))))
 refine G.q (Quiet.ld rfl ag_3) rfl ?_
 refine G.mv rfl rfl ?_
 refine G.q (Quiet.add rfl rfl (by omega)) rfl ?_
 refine G.q (Quiet.nilp rfl) rfl (G.q (Quiet.fieldAddr rfl fo_200_0) rfl (G.q (Quiet.fieldAddr rfl fo_186_1) rfl ?_))
 refine G.oq (OpSpec.store rfl rfl rfl sz_3 ?c16 ?c17) ?nx18
 case c16 => first | decide | (simp; omega) | simp
 case c17 => exact nfz0 _ _
 rintro v L' rfl
 refine G.nil (G.then_n (G.seq (G.region (G.mv rfl rfl ?_))))
 refine G.q (Quiet.shr rfl rfl (by first | decide | omega)) rfl ?_
 refine G.q (Quiet.conv rfl Tryz.underlying190 Tryz.underlying3) rfl (G.mv rfl rfl ?_)
 refine G.q (Quiet.as (v' := .int .u64 ((u % 2 : Nat) : Int)) (by exact congrArg (Value.int .u64) (u64_and1 u)) (Quiet.and rfl rfl)) rfl ?_
 refine G.q (Quiet.as (v' := vint ((u % 2 : Nat) : Int)) (by rw [i64w (by omega)]) (Quiet.conv rfl Tryz.underlying190 Tryz.underlying3)) rfl ?_
 refine G.q (Quiet.neg rfl (by omega)) rfl ?_
 refine G.q (Quiet.as (v' := vint (zagZ u)) (by exact congrArg (Value.int .i64) (zag_bits hu)) (Quiet.xor rfl rfl)) rfl ?_
 refine G.ag rfl rfl (G.nil (G.then_n (G.ret ?_)))
 refine G.rdFold (r := r) s (k + m) (e') (by (repeat' constructor)) (by first | rfl | (simp only [List.set]; congr; omega)) (by omega) hsz ?_
 rw [hA.num.2]
 exact G.dn (l := [.tmp 2]) rfl rfl ⟨k + m, e', hA.num.1, rfl, rfl⟩

theorem rcountW_spec (r most : Nat) (hm : most ≤ 4294967296) (s : Bs) (k : Nat) (e : Int) : Fn Tryz.prog 119 #[vptr r, vint most] [rdW r s k e] fun v L => ∃ k' e', stW s k' e' = (runP 0 (cntP most) (stW s k e)).2 ∧ v = vint ((runP 0 (cntP most) (stW s k e)).1 : Nat) ∧ L = [rdW r s k' e'] := by
 refine Fn.intro (vs := [vptr r, vint most]) Tryz.func119 rfl rfl ?_
 intro F W
 refine G.seq (G.region (G.ag rfl rfl (G.nil (G.then_n (G.seq (G.region (G.mv rfl rfl ?_)))))))
 refine G.oq (OpSpec.call Tryz.func160 rfl rfl (vs := [_]) rfl (rsevens_spec r s k e)) ?nx3
 rintro v L' ⟨u, m, e', hA, rfl, rfl⟩; have hu := hA.lt
 refine G.mv rfl rfl (G.q (Quiet.extract rfl rfl) rfl (G.q (Quiet.extract rfl rfl) rfl (G.ag rfl rfl (G.ag rfl rfl (G.nil (G.then_n (G.seq (G.seq (G.region (G.mv rfl rfl (G.mv rfl rfl (G.q (Quiet.max2 rfl rfl) rfl ?_))))))))))))
 refine G.q (Quiet.as (v' := .int .u64 (most : Nat)) (by exact congrArg (Value.int .u64) (by rw [u64wrap]; omega)) (Quiet.conv rfl Tryz.underlying3 Tryz.underlying190)) rfl ?_
 refine G.q (Quiet.int rfl rfl rfl) rfl (G.nil (G.then_n ?_))
 refine G.condD rfl (fun h16 => ?_) (fun h16 => ?_)
 ·refine G.seq (G.region (G.mv rfl rfl ?_))
  refine G.oq (OpSpec.call Tryz.func161 rfl rfl (vs := [_, _]) rfl (rfails_spec r s k e' 12)) ?nx12
  rintro v L' ⟨rfl, rfl⟩
  refine G.nil (G.then_n (G.seq (G.region (G.ag rfl rfl (G.nil (G.then_n (G.ret (G.then_r ?_))))))))
  rw [hA.cntT (most := most) (by omega)]
  exact G.dn (l := [.tmp 4]) rfl rfl ⟨k, _, st_none (x := 12) (by decide), rfl, rfl⟩
 ·refine G.skip (G.then_n (G.seq ?_))
  refine G.rdOpen (by (repeat' constructor)) fun ra rc hkl hsz => ?_
  have hkm := hA.le hkl
  refine G.region (G.mv rfl rfl (G.q (Quiet.nilp rfl) rfl (G.q (Quiet.fieldAddr rfl fo_200_0) rfl (G.q (Quiet.fieldAddr rfl fo_186_1) rfl ?_))))
  refine G.q (Quiet.ld rfl ag_3) rfl ?_
  refine G.mv rfl rfl ?_
  refine G.q (Quiet.add rfl rfl (by omega)) rfl ?_
  refine G.q (Quiet.nilp rfl) rfl (G.q (Quiet.fieldAddr rfl fo_200_0) rfl (G.q (Quiet.fieldAddr rfl fo_186_1) rfl ?_))
  refine G.oq (OpSpec.store rfl rfl rfl sz_3 ?c24 ?c25) ?nx26
  case c24 => first | decide | (simp; omega) | simp
  case c25 => exact nfz0 _ _
  rintro v L' rfl
  refine G.nil (G.then_n (G.seq (G.region (G.mv rfl rfl ?_))))
  refine G.q (Quiet.as (v' := vint (u : Nat)) (by rw [i64w (by omega)]) (Quiet.conv rfl Tryz.underlying190 Tryz.underlying3)) rfl ?_
  refine G.ag rfl rfl (G.nil (G.then_n (G.ret ?_)))
  refine G.rdFold (r := r) s (k + m) (e') (by (repeat' constructor)) (by first | rfl | (simp only [List.set]; congr; omega)) (by omega) hsz ?_
  obtain ⟨hc1, hc2⟩ := hA.cntF (most := most) (by omega)
  rw [hc2]
  exact G.dn (l := [.tmp 4]) rfl rfl ⟨k + m, e', hc1, rfl, rfl⟩

theorem rtextW_spec (r most : Nat) (hm : most ≤ 4294967296) (s : Bs) (k : Nat) (e : Int) : Fn Tryz.prog 212 #[vptr r, vint most] [rdW r s k e] fun v L => ∃ k' e', stW s k' e' = (runP [] (txtP most) (stW s k e)).2 ∧ v = vstr (runP [] (txtP most) (stW s k e)).1 ∧ L = [rdW r s k' e'] := by
 refine Fn.intro (vs := [vptr r, vint most]) Tryz.func212 rfl rfl ?_
 intro F W
 refine G.rdOpen (by (repeat' constructor)) fun ra rc hkl hsz => ?_
 refine G.seq (G.region (G.ag rfl rfl (G.nil (G.then_n (G.seq (G.region (G.mv rfl rfl (G.q (Quiet.nilp rfl) rfl (G.q (Quiet.fieldAddr rfl fo_200_0) rfl (G.q (Quiet.fieldAddr rfl fo_186_1) rfl ?_))))))))))
 refine G.q (Quiet.ld rfl ag_3) rfl ?_
 refine G.ag rfl rfl (G.nil ?_)
 refine G.rdFold (r := r) s (k) (e) (by (repeat' constructor)) (by first | rfl | (simp only [List.set]; congr; omega)) (by omega) hsz ?_
 refine G.then_n (G.seq (G.region (G.mv rfl rfl (G.mv rfl rfl ?_))))
 refine G.oq (OpSpec.call Tryz.func119 rfl rfl (vs := [_, _]) rfl (rcountW_spec r most hm s k e)) ?nx9
 rintro v L' ⟨k1, e1, hs1, rfl, rfl⟩
 obtain ⟨n, hn⟩ : ∃ n, n = (runP 0 (cntP most) (stW s k e)).1 := ⟨_, rfl⟩
 rw [← hn]
 refine G.ag rfl rfl (G.nil ?_)
 refine G.rdOpen (by (repeat' constructor)) fun ra2 rc2 hk1 _ => ?_
 have hrun := txt_run hs1 hn hk1
 refine G.rdFold (r := r) s k1 e1 (by (repeat' constructor)) rfl hk1 hsz ?_
 refine G.then_n (G.seq (G.seq (G.region (G.mv rfl rfl (G.q (Quiet.nilp rfl) rfl (G.q (Quiet.fieldAddr rfl fo_200_0) rfl ?_))))))
 refine G.oq (OpSpec.call Tryz.func162 rfl rfl (vs := [_]) rfl (rleft_spec r s k1 e1)) ?nx14
 rintro v L' ⟨rfl, rfl⟩
 refine G.mv rfl rfl (G.q (Quiet.int rfl rfl rfl) rfl (G.nil (G.then_n ?_)))
 refine G.condD rfl (fun h20 => ?_) (fun h20 => ?_)
 ·refine G.seq ?_
  refine G.rdOpen (by (repeat' constructor)) fun ra3 rc3 _ _ => ?_
  refine G.region (G.mv rfl rfl (G.mv rfl rfl (G.q (Quiet.nilp rfl) rfl (G.q (Quiet.fieldAddr rfl fo_200_0) rfl (G.q (Quiet.fieldAddr rfl fo_186_1) rfl ?_)))))
  refine G.oq (OpSpec.store rfl rfl rfl sz_3 ?c21 ?c22) ?nx23
  case c21 => first | decide | (simp; omega) | simp
  case c22 => exact nfz0 _ _
  rintro v L' rfl
  refine G.nil ?_
  refine G.rdFold (r := r) s (k) (e1) (by (repeat' constructor)) (by first | rfl | (simp only [List.set]; congr; omega)) (by omega) hsz ?_
  refine G.then_n (G.seq (G.region (G.mv rfl rfl ?_)))
  refine G.oq (OpSpec.call Tryz.func161 rfl rfl (vs := [_, _]) rfl (rfails_spec r s k e1 10)) ?nx25
  rintro v L' ⟨rfl, rfl⟩
  refine G.nil (G.then_n (G.seq (G.region (G.ag rfl rfl (G.nil (G.then_n (G.ret (G.then_r ?_))))))))
  rw [hrun.1 h20]
  exact G.dn (l := [.tmp 4]) rfl rfl ⟨k, _, st_none (x := 10) (by decide), rfl, rfl⟩
 ·refine G.skip (G.then_n (G.seq ?_))
  refine G.rdOpen (by (repeat' constructor)) fun ra3 rc3 _ _ => ?_
  obtain ⟨hr1, hr2⟩ := hrun.2 h20
  refine G.region (G.mv rfl rfl (G.q (Quiet.nilp rfl) rfl (G.q (Quiet.fieldAddr rfl fo_200_0) rfl (G.q (Quiet.fieldAddr rfl fo_186_1) rfl ?_))))
  refine G.q (Quiet.ld rfl ag_3) rfl ?_
  refine G.mv rfl rfl ?_
  refine G.q (Quiet.add rfl rfl (by omega)) rfl ?_
  refine G.q (Quiet.nilp rfl) rfl (G.q (Quiet.fieldAddr rfl fo_200_0) rfl (G.q (Quiet.fieldAddr rfl fo_186_1) rfl ?_))
  refine G.oq (OpSpec.store rfl rfl rfl sz_3 ?c37 ?c38) ?nx39
  case c37 => first | decide | (simp; omega) | simp
  case c38 => exact nfz0 _ _
  rintro v L' rfl
  refine G.nil ?_
  refine G.ptCast (b := r) (l' := [.slice (some ⟨ra3, 0, none⟩) s.length rc3, vint ((k1 + n : Nat) : Int), vint e1]) (by (repeat' constructor)) rfl ?_
  refine G.slAddr (by (repeat' constructor)) fun hcap _ => ?_
  refine G.then_n (G.seq ?_)
  refine G.draw [] [[0, 1, 2, 3, 4, 5, 6, 7, 8, 9, 10, 11, 12, 13, 14, 15, 16, 17, 18, 19]] mixed (by kernel_rfl) ?_
  refine Phases.go [] (by (repeat' constructor)) ?_
  refine D.kw [1, 2, 3, 4, 17, 18, 19] rfl (Quiet.move rfl) ?_
  refine D.kw [2, 3, 4, 17, 18, 19] rfl (Quiet.nilp rfl) ?_
  refine D.kw [3, 4, 17, 18, 19] rfl (Quiet.fieldAddr rfl fo_200_0) ?_
  refine D.kw [4, 17, 18, 19] rfl (Quiet.fieldAddr rfl fo_186_0) ?_
  refine D.kw [17, 18, 19] rfl (Quiet.ld rfl ag_125) ?_
  refine D.kw [6, 7, 8, 9, 11, 17, 18, 19] rfl (Quiet.move rfl) ?_
  refine D.kw [7, 8, 9, 11, 17, 18, 19] rfl (Quiet.nilp rfl) ?_
  refine D.kw [8, 9, 11, 17, 18, 19] rfl (Quiet.fieldAddr rfl fo_200_0) ?_
  refine D.kw [9, 11, 17, 18, 19] rfl (Quiet.fieldAddr rfl fo_186_1) ?_
  refine D.kw [11, 17, 18, 19] rfl (Quiet.ld rfl ag_3) ?_
  refine D.kw [11, 17, 18, 19] rfl (Quiet.move rfl) ?_
  refine D.kw [17, 18, 19] rfl (Quiet.as (v' := vint (k1 : Nat)) (by congr 1; omega) (Quiet.sub rfl rfl (by omega))) ?_
  refine D.kw [13, 14, 15, 16, 17, 18, 19] rfl (Quiet.move rfl) ?_
  refine D.kw [14, 15, 16, 17, 18, 19] rfl (Quiet.nilp rfl) ?_
  refine D.kw [15, 16, 17, 18, 19] rfl (Quiet.fieldAddr rfl fo_200_0) ?_
  refine D.kw [16, 17, 18, 19] rfl (Quiet.fieldAddr rfl fo_186_1) ?_
  refine D.kw [17, 18, 19] rfl (Quiet.ld rfl ag_3) ?_
  refine D.kw [18, 19] rfl (Quiet.to (v' := .slice (some (if rc3 = k1 then ⟨ra3, 0, none⟩ else ⟨ra3, 0 + k1 * 1, none⟩)) (k1 + n - k1) (rc3 - k1)) (Quiet.slSlice (i := (k1 : Int)) (j := ((k1 + n : Nat) : Int)) rfl el_125 (by exact rfl) (by exact rfl) (by omega)) (by simp only [Int.toNat_natCast])) ?_
  refine D.kw [19] rfl (Quiet.bytesBy (cs := (s.take (k1 + n)).drop k1) (n := ((s.take (k1 + n)).drop k1).length) (p := bytR (.slice (some ⟨ra3, 0, none⟩) s.length rc3) s) rfl Tryz.underlying125 Tryz.underlying5 Tryz.underlying9 (fun h hp => slR_mid (by omega) (by omega) hp) (by (repeat' constructor))) ?_
  refine D.kw [] rfl (Quiet.assign rfl) ?_
  refine D.ph (Phases.fin (G.then_n (G.ret ?_)))
  refine G.rdFold (r := r) s (k1 + n) (e1) (by (repeat' constructor)) (by first | rfl | (simp only [List.set]; congr; omega)) (by omega) hsz ?_
  rw [hr2]
  exact G.dn (l := [.tmp 4]) rfl rfl ⟨k1 + n, e1, hr1, rfl, rfl⟩

theorem end_T {s : Bs} {k : Nat} {e : Int} (h : k < s.length) : (if e = 0 then (11 : Int) else e) = 0 ↔ stW s k e = some [] := by
  have hl : (s.drop k).length = s.length - k := List.length_drop
  unfold stW
  split
  · refine ⟨fun g => absurd g (by decide), fun g => ?_⟩
    rw [Option.some.inj g] at hl; simp at hl; omega
  · rename_i g; exact ⟨fun q => absurd q g, fun q => by cases q⟩
theorem end_F {s : Bs} {k : Nat} {e : Int} (h : s.length ≤ k) : e = 0 ↔ stW s k e = some [] := by
  unfold stW
  split
  · rename_i g; exact ⟨fun _ => by rw [List.drop_eq_nil_of_le h], fun _ => g⟩
  · rename_i g; exact ⟨fun q => absurd q g, fun q => by cases q⟩
theorem rendW_spec (r : Nat) (s : Bs) (k : Nat) (e : Int) : Fn Tryz.prog 120 #[vptr r] [rdW r s k e] fun v L => ∃ e1, (e1 = 0 ↔ stW s k e = some []) ∧ v = vint e1 ∧ L = [rdW r s k e1] := by
 refine Fn.intro (vs := [vptr r]) Tryz.func120 rfl rfl ?_
 intro F W
 refine G.rdOpen (by (repeat' constructor)) fun ra rc hkl hsz => ?_
 refine G.rdFold (r := r) s (k) (e) (by (repeat' constructor)) (by first | rfl | (simp only [List.set]; congr; omega)) (by omega) hsz ?_
 refine G.seq (G.region (G.ag rfl rfl (G.nil (G.then_n (G.seq (G.seq (G.region (G.mv rfl rfl (G.q (Quiet.nilp rfl) rfl (G.q (Quiet.fieldAddr rfl fo_200_0) rfl ?_))))))))))
 refine G.oq (OpSpec.call Tryz.func162 rfl rfl (vs := [_]) rfl (rleft_spec r s k e)) ?nx5
 rintro v L' ⟨rfl, rfl⟩
 refine G.q (Quiet.int rfl rfl rfl) rfl (G.nil (G.then_n ?_))
 refine G.condD rfl (fun h7 => ?_) (fun h7 => ?_)
 ·refine G.region (G.mv rfl rfl ?_)
  refine G.oq (OpSpec.call Tryz.func163 rfl rfl (vs := [_]) rfl (rfail_spec r s k e)) ?nx9
  rintro v L' ⟨rfl, rfl⟩
  refine G.nil (G.then_n (G.seq ?_))
  refine G.rdOpen (by (repeat' constructor)) fun ra3 rc3 _ _ => ?_
  refine G.region (G.mv rfl rfl (G.q (Quiet.nilp rfl) rfl (G.q (Quiet.fieldAddr rfl fo_200_1) rfl ?_)))
  refine G.q (Quiet.ld rfl ag_25) rfl ?_
  refine G.ag rfl rfl (G.nil (G.then_n (G.ret ?_)))
  refine G.rdFold (r := r) s (k) (if e = 0 then 11 else e) (by (repeat' constructor)) (by first | rfl | (simp only [List.set]; congr; omega)) (by omega) hsz ?_
  exact G.dn (l := [.tmp 2]) rfl rfl ⟨_, end_T (by omega), rfl, rfl⟩
 ·refine G.skip (G.then_n (G.seq ?_))
  refine G.rdOpen (by (repeat' constructor)) fun ra3 rc3 _ _ => ?_
  refine G.region (G.mv rfl rfl (G.q (Quiet.nilp rfl) rfl (G.q (Quiet.fieldAddr rfl fo_200_1) rfl ?_)))
  refine G.q (Quiet.ld rfl ag_25) rfl ?_
  refine G.ag rfl rfl (G.nil (G.then_n (G.ret ?_)))
  refine G.rdFold (r := r) s (k) (e) (by (repeat' constructor)) (by first | rfl | (simp only [List.set]; congr; omega)) (by omega) hsz ?_
  exact G.dn (l := [.tmp 2]) rfl rfl ⟨_, end_F (by omega), rfl, rfl⟩

theorem cread_spec (s : Bs) (hs : s.length ≤ 2147483648) : Fn Tryz.prog 117 #[vstr s] [] fun v L => ∃ r, v = vptr r ∧ L = [rdR r (some s)] := by
 refine Fn.intro (vs := [vstr s]) Tryz.func117 rfl rfl ?_
 intro F W
 refine G.seq (G.region (G.ag rfl rfl (G.nil (G.then_n (G.seq (G.region (G.mv rfl rfl ?_)))))))
 refine G.oq (OpSpec.strBytes rfl Tryz.underlying9 Tryz.underlying125 Tryz.underlying5) ?nx3
 rintro v L' ⟨rfl, b8, c8, rfl⟩
 refine G.q (Quiet.to (v' := .agg [.slice (some ⟨b8, 0, none⟩) s.length c8, vint 0].toArray) (Quiet.build (us := [(0, _)]) fl_186 ze_186 rfl rfl (by simp [isCell])) rfl) rfl ?_
 refine G.q (Quiet.to (v' := .agg [.slice (some ⟨b8, 0, none⟩) s.length c8, vint 0, vint 0].toArray) (Quiet.buildN (pl := [(0, 2), (2, 1)]) (us := [(0, _)]) (cells := [.slice (some ⟨b8, 0, none⟩) s.length c8, vint 0, vint 0]) Tryz.underlying200 (by kernel_rfl) ze_200 rfl rfl) rfl) rfl ?_
 refine G.oq (OpSpec.box rfl) ?nx7
 rintro v L' ⟨r, rfl, rfl⟩
 refine G.ag rfl rfl (G.nil (G.then_n (G.ret ?_)))
 refine G.rdFold (r := r) s 0 0 (by (repeat' constructor)) rfl (Nat.zero_le _) hs ?_
 refine G.rdUpF (r := r) (st := some s) (by (repeat' constructor)) rfl ?_
 exact G.dn (l := [.tmp 2]) rfl rfl ⟨r, rfl, rfl⟩

theorem rnum_spec (r : Nat) (st : Rs) : Fn Tryz.prog 118 #[vptr r] [rdR r st] fun v L => v = vint (runP 0 numP st).1 ∧ L = [rdR r (runP 0 numP st).2] := Fn.rdUp (v := vint) (fun s k e => rnumW_spec r s k e) st
theorem rcount_spec (r most : Nat) (hm : most ≤ 4294967296) (st : Rs) : Fn Tryz.prog 119 #[vptr r, vint most] [rdR r st] fun v L => v = vint ((runP 0 (cntP most) st).1 : Nat) ∧ L = [rdR r (runP 0 (cntP most) st).2] := Fn.rdUp (v := fun n : Nat => vint n) (fun s k e => rcountW_spec r most hm s k e) st
theorem rtext_spec (r most : Nat) (hm : most ≤ 4294967296) (st : Rs) : Fn Tryz.prog 212 #[vptr r, vint most] [rdR r st] fun v L => v = vstr (runP [] (txtP most) st).1 ∧ L = [rdR r (runP [] (txtP most) st).2] := Fn.rdUp (v := vstr) (fun s k e => rtextW_spec r most hm s k e) st
theorem rend_spec (r : Nat) (st : Rs) : Fn Tryz.prog 120 #[vptr r] [rdR r st] fun v L => ∃ e1, (e1 = 0 ↔ st = some []) ∧ v = vint e1 ∧ ∃ st', L = [rdR r st'] := Fn.rdEnd (fun s k e => rendW_spec r s k e) st
end Go.Proofs.YtidjhgbdokcphaaGreat

