/- Own work, by program: Append, Renew, Records, Room ..: walked. -/
import Derived.Test.YtepncdidkjjllaaWalCalls
namespace Go.Proofs.Ytepncdidkjjllaa
open Go
set_option maxRecDepth 100000 in
theorem wappend_spec (x d : Nat) (ω : Wl) (δ : Dk) (s : Bs) (hI : WlI δ ω) (hsl : s.length ≤ 2147483648) : Fn Try.prog 27 #[vptr x, vstr s] [wlR x d ω, dkR d δ] fun v L => v = vint (appendZ δ ω s).2.2 ∧ L = [wlR x d (appendZ δ ω s).2.1, dkR d (appendZ δ ω s).1] := by
  refine Fn.introD (vs := [vptr x, vstr s]) Try.func27 rfl rfl ?_
  intro F W
  refine G.wlOpen (ω := ω) (by (repeat (first | exact Pick.here | apply Pick.there))) fun vr vb => ?_
  refine G.slAny (v := vr) (by (repeat (first | exact Pick.here | apply Pick.there))) fun arr crr e _ => ?_
  subst e
  refine G.slAny (v := vb) (by (repeat (first | exact Pick.here | apply Pick.there))) fun abb cbb e _ => ?_
  subst e
  refine G.slAddr (T := 9) (by (repeat (first | exact Pick.here | apply Pick.there))) fun hrc hra => ?_
  obtain ⟨hn, hA, har, hct, hsy, hfit⟩ := hI
  have hh := half_le hn
  have hll := laidZ_many ω.recs
  refine G.seq ?_
  refine G.region ?_
  refine G.op (OpSpec.alloc ze_25) (by (repeat (first | exact Picks.nil | (apply Picks.cons; (repeat (first | exact Pick.here | apply Pick.there)))))) rfl ?nx1
  rintro v L' ⟨be, rfl, rfl⟩
  refine G.nil ?_
  refine G.ptCast (b := be) (l' := [vint 0]) (by (repeat (first | exact Pick.here | apply Pick.there))) rfl ?_
  refine G.then_n ?_
  refine G.seq ?_
  refine G.region ?_
  refine G.q (Quiet.move rfl) rfl ?_
  refine G.defer (vs := [_, _]) rfl ?_
  refine G.nil ?_
  refine G.then_n ?_
  refine G.seq ?_
  refine G.block ?_
  refine G.seq ?_
  refine G.region ?_
  refine G.q (Quiet.move rfl) rfl ?_
  refine G.q (Quiet.nilp rfl) rfl ?_
  refine G.q (Quiet.fieldAddr rfl fo_118_8) rfl ?_
  refine G.q (Quiet.load rfl ag_4 (by (repeat (first | exact Pick.here | apply Pick.there))) (rfl)) rfl ?_
  refine G.q (Quiet.assign rfl) rfl ?_
  refine G.nil ?_
  refine G.then_n ?_
  refine G.condB rfl (fun h8 => ?_) (fun h8 => ?_)
  · refine G.seq ?_
    refine G.region ?_
    refine G.op (OpSpec.store rfl rfl rfl sz_25 ?c8 ?c9) (by (repeat (first | exact Picks.nil | (apply Picks.cons; (repeat (first | exact Pick.here | apply Pick.there)))))) rfl ?nx10
    case c8 => first | decide | (simp; omega) | simp
    case c9 => exact nfz0 _ _
    rintro v L' rfl
    refine G.nil ?_
    refine G.ptCast (b := be) (l' := [vint 34]) (by (repeat (first | exact Pick.here | apply Pick.there))) rfl ?_
    refine G.then_n ?_
    refine G.ret ?_
    refine G.blk_r ?_
    refine G.then_r ?_
    refine G.doneD Try.func81 rfl rfl (doubts_spec x d (.slice arr ω.recs.length crr) ω.synced (.slice abb (laidZ ω.recs).length cbb) ω.area ω.count ω.a ω.b ω.doubt be 34) (by (repeat (first | exact Picks.nil | (apply Picks.cons; (repeat (first | exact Pick.here | apply Pick.there)))))) ?_
    rintro u L' ⟨rfl, rfl⟩
    have e : appendZ δ ω s = (δ, ω, 34) := by unfold appendZ; rw [if_pos h8]
    rw [e, if_neg (show ¬ (34 : Int) = 2 by decide)]
    refine G.wlFold (x := x) (d := d) (ω := ω) (by (repeat (first | exact Picks.nil | (apply Picks.cons; (repeat (first | exact Pick.here | apply Pick.there)))))) rfl rfl rfl rfl rfl ?_
    exact G.done1 rfl (.cell rfl ag_25 (by (repeat (first | exact Pick.here | apply Pick.there))) rfl) ⟨rfl, rfl⟩ (by (repeat (first | exact Picks.nil | (apply Picks.cons; (repeat (first | exact Pick.here | apply Pick.there)))))) (by (repeat (first | exact Suff.here | apply Suff.there)))
  · have hdb : ¬ ω.doubt = true := by rw [h8]; decide
    refine G.seq ?_
    refine G.region ?_
    refine G.q (Quiet.move rfl) rfl ?_
    refine G.q (Quiet.strlen rfl Try.underlying9 rfl) rfl ?_
    refine G.q (Quiet.int rfl rfl rfl) rfl ?_
    refine G.q (Quiet.assign rfl) rfl ?_
    refine G.nil ?_
    refine G.then_n ?_
    refine G.condD rfl (fun h13 => ?_) (fun h13 => ?_)
    · have hlong : s.length > 4000 := by omega
      refine G.seq ?_
      refine G.region ?_
      refine G.op (OpSpec.store rfl rfl rfl sz_25 ?c14 ?c15) (by (repeat (first | exact Picks.nil | (apply Picks.cons; (repeat (first | exact Pick.here | apply Pick.there)))))) rfl ?nx16
      case c14 => first | decide | (simp; omega) | simp
      case c15 => exact nfz0 _ _
      rintro v L' rfl
      refine G.nil ?_
      refine G.ptCast (b := be) (l' := [vint 33]) (by (repeat (first | exact Pick.here | apply Pick.there))) rfl ?_
      refine G.then_n ?_
      refine G.ret ?_
      refine G.blk_r ?_
      refine G.then_r ?_
      refine G.doneD Try.func81 rfl rfl (doubts_spec x d (.slice arr ω.recs.length crr) ω.synced (.slice abb (laidZ ω.recs).length cbb) ω.area ω.count ω.a ω.b ω.doubt be 33) (by (repeat (first | exact Picks.nil | (apply Picks.cons; (repeat (first | exact Pick.here | apply Pick.there)))))) ?_
      rintro u L' ⟨rfl, rfl⟩
      have e : appendZ δ ω s = (δ, ω, 33) := by unfold appendZ; rw [if_neg hdb, if_pos hlong]
      rw [e, if_neg (show ¬ (33 : Int) = 2 by decide)]
      refine G.wlFold (x := x) (d := d) (ω := ω) (by (repeat (first | exact Picks.nil | (apply Picks.cons; (repeat (first | exact Pick.here | apply Pick.there)))))) rfl rfl rfl rfl rfl ?_
      exact G.done1 rfl (.cell rfl ag_25 (by (repeat (first | exact Pick.here | apply Pick.there))) rfl) ⟨rfl, rfl⟩ (by (repeat (first | exact Picks.nil | (apply Picks.cons; (repeat (first | exact Pick.here | apply Pick.there)))))) (by (repeat (first | exact Suff.here | apply Suff.there)))
    · have hlong : ¬ s.length > 4000 := by omega
      refine G.seq ?_
      refine G.region ?_
      refine G.q (Quiet.move rfl) rfl ?_
      refine G.q (Quiet.move rfl) rfl ?_
      refine G.q (Quiet.nilp rfl) rfl ?_
      refine G.q (Quiet.fieldAddr rfl fo_118_3) rfl ?_
      refine G.q (Quiet.load rfl ag_31 (by (repeat (first | exact Pick.here | apply Pick.there))) (rfl)) rfl ?_
      refine G.q (Quiet.slen rfl Try.underlying31 rfl) rfl ?_
      refine G.q (Quiet.move rfl) rfl ?_
      refine G.q (Quiet.strlen rfl Try.underlying9 rfl) rfl ?_
      refine G.q (Quiet.add rfl rfl (by omega)) rfl ?_
      refine G.q (Quiet.add rfl rfl (by omega)) rfl ?_
      refine G.op (OpSpec.call Try.func82 rfl rfl (vs := [_, _]) rfl (fits_spec x d (.slice arr ω.recs.length crr) ω.synced (.slice abb (laidZ ω.recs).length cbb) ω.area ω.count ω.a ω.b ω.doubt δ ((laidZ ω.recs).length + s.length + 6) hn)) (by (repeat (first | exact Picks.nil | (apply Picks.cons; (repeat (first | exact Pick.here | apply Pick.there)))))) rfl ?nx27
      rintro v L' ⟨rfl, rfl⟩
      refine G.q (Quiet.not rfl) rfl ?_
      refine G.q (Quiet.assign rfl) rfl ?_
      refine G.nil ?_
      refine G.then_n ?_
      refine G.condN rfl (fun h17 => ?_) (fun h17 => ?_)
      · refine G.seq ?_
        refine G.region ?_
        refine G.op (OpSpec.store rfl rfl rfl sz_25 ?c30 ?c31) (by (repeat (first | exact Picks.nil | (apply Picks.cons; (repeat (first | exact Pick.here | apply Pick.there)))))) rfl ?nx32
        case c30 => first | decide | (simp; omega) | simp
        case c31 => exact nfz0 _ _
        rintro v L' rfl
        refine G.nil ?_
        refine G.ptCast (b := be) (l' := [vint 30]) (by (repeat (first | exact Pick.here | apply Pick.there))) rfl ?_
        refine G.then_n ?_
        refine G.ret ?_
        refine G.blk_r ?_
        refine G.then_r ?_
        refine G.doneD Try.func81 rfl rfl (doubts_spec x d (.slice arr ω.recs.length crr) ω.synced (.slice abb (laidZ ω.recs).length cbb) ω.area ω.count ω.a ω.b ω.doubt be 30) (by (repeat (first | exact Picks.nil | (apply Picks.cons; (repeat (first | exact Pick.here | apply Pick.there)))))) ?_
        rintro u L' ⟨rfl, rfl⟩
        have e : appendZ δ ω s = (δ, ω, 30) := by unfold appendZ; rw [if_neg hdb, if_neg hlong, if_pos h17]
        rw [e, if_neg (show ¬ (30 : Int) = 2 by decide)]
        refine G.wlFold (x := x) (d := d) (ω := ω) (by (repeat (first | exact Picks.nil | (apply Picks.cons; (repeat (first | exact Pick.here | apply Pick.there)))))) rfl rfl rfl rfl rfl ?_
        exact G.done1 rfl (.cell rfl ag_25 (by (repeat (first | exact Pick.here | apply Pick.there))) rfl) ⟨rfl, rfl⟩ (by (repeat (first | exact Picks.nil | (apply Picks.cons; (repeat (first | exact Pick.here | apply Pick.there)))))) (by (repeat (first | exact Suff.here | apply Suff.there)))
      · refine G.skip ?_
        refine G.blk_n ?_
        refine G.then_n ?_
        refine G.seq ?_
        have hrl := recZ_len s
        refine G.region ?_
        refine G.q (Quiet.move rfl) rfl ?_
        refine G.q (Quiet.nilp rfl) rfl ?_
        refine G.q (Quiet.fieldAddr rfl fo_118_3) rfl ?_
        refine G.q (Quiet.load rfl ag_31 (by (repeat (first | exact Pick.here | apply Pick.there))) (rfl)) rfl ?_
        refine G.op (OpSpec.call Try.func83 rfl rfl (vs := [_]) rfl (cloneB_spec (.slice abb (laidZ ω.recs).length cbb) (laidZ ω.recs).length (bysL (laidZ ω.recs)) (bytR (.slice abb (laidZ ω.recs).length cbb) (laidZ ω.recs)) (fun h hp => slR_rd hp) (bysL_cell _) (by omega))) (by (repeat (first | exact Picks.nil | (apply Picks.cons; (repeat (first | exact Pick.here | apply Pick.there)))))) rfl ?nx37
        rintro v L' ⟨⟨ac, cc, rfl⟩, rfl⟩
        refine G.q (Quiet.move rfl) rfl ?_
        refine G.op (OpSpec.call Try.func84 rfl rfl (vs := [_]) rfl (record_spec s (by omega))) (by (repeat (first | exact Picks.nil | (apply Picks.cons; (repeat (first | exact Pick.here | apply Pick.there)))))) rfl ?nx40
        rintro v L' ⟨⟨ar, cr, rfl⟩, rfl⟩
        refine G.op (OpSpec.append (n := (laidZ ω.recs).length) (m := (recZ s).length) (ys := bysL (recZ s)) (p := bytR (.slice ar (recZ s).length cr) (recZ s)) rfl rfl rfl el_31 (.inl ⟨_, Try.underlying31⟩) ze_5 rfl rfl ?hc42 ?hr43 ?hb44 (by decide)) (by (repeat (first | exact Picks.nil | (apply Picks.cons; (repeat (first | exact Pick.here | apply Pick.there)))))) rfl ?nx45
        case hc42 => exact bysL_cell _
        case hr43 => exact fun h hp => slR_rd hp
        case hb44 => omega
        rintro v L' ⟨⟨a8, c8, rfl⟩, rfl⟩; rw [show (laidZ ω.recs).length + (recZ s).length = (laidZ ω.recs ++ recZ s).length by rw [List.length_append], show bysL (laidZ ω.recs) ++ bysL (recZ s) = bysL (laidZ ω.recs ++ recZ s) from (bysL_append _ _).symm]
        refine G.q (Quiet.assign rfl) rfl ?_
        refine G.nil ?_
        refine G.then_n ?_
        refine G.seq ?_
        refine G.seq ?_
        refine G.draw [11] [[0, 1, 2, 3, 4, 5, 6, 7, 8, 9, 10, 11], [12]] mixed (by kernel_rfl) ?_
        refine Phases.go [] (by (repeat (first | exact Picks.nil | (apply Picks.cons; (repeat (first | exact Pick.here | apply Pick.there)))))) ?_
        refine D.qw [11] rfl (by kernel_rfl) (Quiet.move rfl) ?_
        refine D.qw [2, 3, 4, 11] rfl (by kernel_rfl) (Quiet.move rfl) ?_
        refine D.qw [3, 4, 11] rfl (by kernel_rfl) (Quiet.nilp rfl) ?_
        refine D.qw [4, 11] rfl (by kernel_rfl) (Quiet.fieldAddr rfl fo_118_4) ?_
        refine D.qw [11] rfl (by kernel_rfl) (Quiet.load rfl ag_3 (by (repeat (first | exact Pick.here | apply Pick.there))) (rfl)) ?_
        refine D.qw [11] rfl (by kernel_rfl) (Quiet.move rfl) ?_
        refine D.qw [7, 8, 9, 10, 11] rfl (by kernel_rfl) (Quiet.move rfl) ?_
        refine D.qw [8, 9, 10, 11] rfl (by kernel_rfl) (Quiet.nilp rfl) ?_
        refine D.qw [9, 10, 11] rfl (by kernel_rfl) (Quiet.fieldAddr rfl fo_118_3) ?_
        refine D.qw [10, 11] rfl (by kernel_rfl) (Quiet.load rfl ag_31 (by (repeat (first | exact Pick.here | apply Pick.there))) (rfl)) ?_
        refine D.qw [11] rfl (by kernel_rfl) (Quiet.slen rfl Try.underlying31 rfl) ?_
        refine D.h rfl (by kernel_rfl) (OpSpec.call Try.func85 rfl rfl (vs := [_, _, _, _]) rfl (lay_spec4 x d (.slice arr ω.recs.length crr) ω.synced (.slice abb (laidZ ω.recs).length cbb) ω.area ω.count ω.a ω.b ω.doubt (.slice a8 (laidZ ω.recs ++ recZ s).length c8) δ ω.area (laidZ ω.recs ++ recZ s) (laidZ ω.recs).length (bytR (.slice a8 (laidZ ω.recs ++ recZ s).length c8) (laidZ ω.recs ++ recZ s)) hn har (by omega) (fun h hp => slR_rd hp) (by rw [List.length_append]; omega) (by rw [List.length_append]; omega))) (by (repeat (first | exact Picks.nil | (apply Picks.cons; (repeat (first | exact Pick.here | apply Pick.there)))))) ?nx57
        rintro v L' ⟨rfl, rfl⟩
        refine D.ph ?_
        refine Phases.go [] (by (repeat (first | exact Picks.nil | (apply Picks.cons; (repeat (first | exact Pick.here | apply Pick.there)))))) ?_
        refine D.qw [] rfl (by kernel_rfl) (Quiet.assign rfl) ?_
        refine D.ph ?_
        refine Phases.fin ?_
        refine G.then_n ?_
        refine G.seq ?_
        refine G.region ?_
        refine G.q (Quiet.move rfl) rfl ?_
        refine G.q (Quiet.int rfl rfl rfl) rfl ?_
        refine G.nil ?_
        refine G.then_n ?_
        refine G.condN rfl (fun h51 => ?_) (fun h51 => ?_)
        · refine G.seq ?_
          refine G.region ?_
          refine G.q (Quiet.move rfl) rfl ?_
          refine G.op (OpSpec.store rfl rfl rfl sz_25 ?c60 ?c61) (by (repeat (first | exact Picks.nil | (apply Picks.cons; (repeat (first | exact Pick.here | apply Pick.there)))))) rfl ?nx62
          case c60 => first | decide | (simp; omega) | simp
          case c61 => exact nfz0 _ _
          rintro v L' rfl
          refine G.nil ?_
          refine G.ptCast (b := be) (l' := [vint (layZ δ ω.area (laidZ ω.recs ++ recZ s) (laidZ ω.recs).length).2]) (by (repeat (first | exact Pick.here | apply Pick.there))) rfl ?_
          refine G.then_n ?_
          refine G.ret ?_
          refine G.then_r ?_
          refine G.doneD Try.func81 rfl rfl (doubts_spec x d (.slice arr ω.recs.length crr) ω.synced (.slice abb (laidZ ω.recs).length cbb) ω.area ω.count ω.a ω.b ω.doubt be (layZ δ ω.area (laidZ ω.recs ++ recZ s) (laidZ ω.recs).length).2) (by (repeat (first | exact Picks.nil | (apply Picks.cons; (repeat (first | exact Pick.here | apply Pick.there)))))) ?_
          rintro u L' ⟨rfl, rfl⟩
          have h2 : (layZ δ ω.area (laidZ ω.recs ++ recZ s) (laidZ ω.recs).length).2 = 2 := by rcases layZ_err δ ω.area (laidZ ω.recs ++ recZ s) (laidZ ω.recs).length with h | h; exact absurd h (by simpa using h51); exact h
          have e : appendZ δ ω s = ((layZ δ ω.area (laidZ ω.recs ++ recZ s) (laidZ ω.recs).length).1, { ω with doubt := true }, 2) := by unfold appendZ; rw [if_neg hdb, if_neg hlong, if_neg (fun h => h h17), if_pos (by simpa using h51), h2]; rfl
          rw [e, h2, if_pos rfl]
          refine G.wlFold (x := x) (d := d) (ω := { ω with doubt := true }) (by (repeat (first | exact Picks.nil | (apply Picks.cons; (repeat (first | exact Pick.here | apply Pick.there)))))) rfl rfl rfl rfl rfl ?_
          exact G.done1 rfl (.cell rfl ag_25 (by (repeat (first | exact Pick.here | apply Pick.there))) rfl) ⟨rfl, rfl⟩ (by (repeat (first | exact Picks.nil | (apply Picks.cons; (repeat (first | exact Pick.here | apply Pick.there)))))) (by (repeat (first | exact Suff.here | apply Suff.there)))
        · refine G.skip ?_
          refine G.then_n ?_
          refine G.seq ?_
          refine G.region ?_
          refine G.q (Quiet.move rfl) rfl ?_
          refine G.q (Quiet.move rfl) rfl ?_
          refine G.q (Quiet.move rfl) rfl ?_
          refine G.q (Quiet.nilp rfl) rfl ?_
          refine G.q (Quiet.fieldAddr rfl fo_118_1) rfl ?_
          refine G.q (Quiet.load rfl ag_22 (by (repeat (first | exact Pick.here | apply Pick.there))) (rfl)) rfl ?_
          refine G.q (Quiet.move rfl) rfl ?_
          refine G.op (OpSpec.buildSlice1 (vs := [_]) el_22 ze_9 rfl rfl rfl rfl rfl (by decide)) (by (repeat (first | exact Picks.nil | (apply Picks.cons; (repeat (first | exact Pick.here | apply Pick.there)))))) rfl ?nx70
          rintro v L' ⟨b12_7, rfl, rfl⟩
          refine G.op (OpSpec.append1 rfl rfl rfl el_22 ze_9 rfl rfl ?c72 ?c73 (Nat.le_refl _) ?c74 (by decide)) (by (repeat (first | exact Picks.nil | (apply Picks.cons; (repeat (first | exact Pick.here | apply Pick.there)))))) rfl ?nx75
          case c72 => (first | (simp [isCell]; done) | (simp [isCell, setAll, Value.cells]; done))
          case c73 => rfl
          case c74 => omega
          rintro v L' ⟨⟨a12_8, c12_8, rfl⟩, rfl⟩
          refine G.q (Quiet.move rfl) rfl ?_
          refine G.q (Quiet.nilp rfl) rfl ?_
          refine G.q (Quiet.fieldAddr rfl fo_118_1) rfl ?_
          refine G.op (OpSpec.store rfl rfl rfl sz_22 ?c79 ?c80) (by (repeat (first | exact Picks.nil | (apply Picks.cons; (repeat (first | exact Pick.here | apply Pick.there)))))) rfl ?nx81
          case c79 => first | decide | (simp; omega) | simp
          case c80 => exact nfz0 _ _
          rintro v L' rfl
          refine G.q (Quiet.nilp rfl) rfl ?_
          refine G.q (Quiet.fieldAddr rfl fo_118_3) rfl ?_
          refine G.op (OpSpec.store rfl rfl rfl sz_31 ?c84 ?c85) (by (repeat (first | exact Picks.nil | (apply Picks.cons; (repeat (first | exact Pick.here | apply Pick.there)))))) rfl ?nx86
          case c84 => first | decide | (simp; omega) | simp
          case c85 => exact nfz0 _ _
          rintro v L' rfl
          refine G.nil ?_
          refine G.then_n ?_
          refine G.seq ?_
          refine G.region ?_
          refine G.op (OpSpec.store rfl rfl rfl sz_25 ?c87 ?c88) (by (repeat (first | exact Picks.nil | (apply Picks.cons; (repeat (first | exact Pick.here | apply Pick.there)))))) rfl ?nx89
          case c87 => first | decide | (simp; omega) | simp
          case c88 => exact nfz0 _ _
          rintro v L' rfl
          refine G.nil ?_
          refine G.ptCast (b := be) (l' := [vint 0]) (by (repeat (first | exact Pick.here | apply Pick.there))) rfl ?_
          refine G.then_n ?_
          refine G.ret ?_
          refine G.doneD Try.func81 rfl rfl (doubts_spec x d _ _ _ _ _ _ _ _ be 0) (by (repeat (first | exact Picks.nil | (apply Picks.cons; (repeat (first | exact Pick.here | apply Pick.there)))))) ?_
          rintro u L' ⟨rfl, rfl⟩
          have e : appendZ δ ω s = ((layZ δ ω.area (laidZ ω.recs ++ recZ s) (laidZ ω.recs).length).1, { ω with recs := ω.recs ++ [s] }, 0) := by unfold appendZ; rw [if_neg hdb, if_neg hlong, if_neg (fun h => h h17), if_neg (by simpa using h51)]
          rw [e, if_neg (show ¬ (0 : Int) = 2 by decide)]
          refine G.wlFold (x := x) (d := d) (ω := { ω with recs := ω.recs ++ [s] }) (by (repeat (first | exact Picks.nil | (apply Picks.cons; (repeat (first | exact Pick.here | apply Pick.there)))))) rfl (by simp) (by simp [strs]) (by rw [laidZ_append]; simp [laidZ]) (by rw [laidZ_append]; simp [laidZ]) ?_
          exact G.done1 rfl (.cell rfl ag_25 (by (repeat (first | exact Pick.here | apply Pick.there))) rfl) ⟨rfl, rfl⟩ (by (repeat (first | exact Picks.nil | (apply Picks.cons; (repeat (first | exact Pick.here | apply Pick.there)))))) (by (repeat (first | exact Suff.here | apply Suff.there)))

set_option maxRecDepth 100000 in
theorem wlen_spec (x d : Nat) (ω : Wl) : Fn Try.prog 26 #[vptr x] [wlR x d ω] fun v L => v = vint ω.recs.length ∧ L = [wlR x d ω] := by
  refine Fn.intro (vs := [vptr x]) Try.func26 rfl rfl ?_
  intro F W
  refine G.wlOpen (ω := ω) (by (repeat (first | exact Pick.here | apply Pick.there))) fun vr vb => ?_
  refine G.slAny (v := vr) (by (repeat (first | exact Pick.here | apply Pick.there))) fun arr crr e _ => ?_
  subst e
  refine G.slAny (v := vb) (by (repeat (first | exact Pick.here | apply Pick.there))) fun abb cbb e _ => ?_
  subst e
  refine G.seq ?_
  refine G.region ?_
  refine G.q (Quiet.assign rfl) rfl ?_
  refine G.nil ?_
  refine G.then_n ?_
  refine G.seq ?_
  refine G.region ?_
  refine G.q (Quiet.move rfl) rfl ?_
  refine G.q (Quiet.nilp rfl) rfl ?_
  refine G.q (Quiet.fieldAddr rfl fo_118_1) rfl ?_
  refine G.q (Quiet.load rfl ag_22 (by (repeat (first | exact Pick.here | apply Pick.there))) (rfl)) rfl ?_
  refine G.q (Quiet.slen rfl Try.underlying22 rfl) rfl ?_
  refine G.q (Quiet.assign rfl) rfl ?_
  refine G.nil ?_
  refine G.then_n ?_
  refine G.ret ?_
  refine G.wlFold (x := x) (d := d) (ω := ω) (by (repeat (first | exact Picks.nil | (apply Picks.cons; (repeat (first | exact Pick.here | apply Pick.there)))))) rfl rfl rfl rfl rfl ?_
  exact G.done (l := [.tmp 2]) rfl rfl ⟨rfl, rfl⟩ (by (repeat (first | exact Picks.nil | (apply Picks.cons; (repeat (first | exact Pick.here | apply Pick.there)))))) (by (repeat (first | exact Suff.here | apply Suff.there)))

set_option maxRecDepth 100000 in
theorem wsynced_spec (x d : Nat) (ω : Wl) : Fn Try.prog 70 #[vptr x] [wlR x d ω] fun v L => v = vint ω.synced ∧ L = [wlR x d ω] := by
  refine Fn.intro (vs := [vptr x]) Try.func70 rfl rfl ?_
  intro F W
  refine G.wlOpen (ω := ω) (by (repeat (first | exact Pick.here | apply Pick.there))) fun vr vb => ?_
  refine G.slAny (v := vr) (by (repeat (first | exact Pick.here | apply Pick.there))) fun arr crr e _ => ?_
  subst e
  refine G.slAny (v := vb) (by (repeat (first | exact Pick.here | apply Pick.there))) fun abb cbb e _ => ?_
  subst e
  refine G.seq ?_
  refine G.region ?_
  refine G.q (Quiet.assign rfl) rfl ?_
  refine G.nil ?_
  refine G.then_n ?_
  refine G.seq ?_
  refine G.region ?_
  refine G.q (Quiet.move rfl) rfl ?_
  refine G.q (Quiet.nilp rfl) rfl ?_
  refine G.q (Quiet.fieldAddr rfl fo_118_2) rfl ?_
  refine G.q (Quiet.load rfl ag_3 (by (repeat (first | exact Pick.here | apply Pick.there))) (rfl)) rfl ?_
  refine G.q (Quiet.assign rfl) rfl ?_
  refine G.nil ?_
  refine G.then_n ?_
  refine G.ret ?_
  refine G.wlFold (x := x) (d := d) (ω := ω) (by (repeat (first | exact Picks.nil | (apply Picks.cons; (repeat (first | exact Pick.here | apply Pick.there)))))) rfl rfl rfl rfl rfl ?_
  exact G.done (l := [.tmp 2]) rfl rfl ⟨rfl, rfl⟩ (by (repeat (first | exact Picks.nil | (apply Picks.cons; (repeat (first | exact Pick.here | apply Pick.there)))))) (by (repeat (first | exact Suff.here | apply Suff.there)))

set_option maxRecDepth 100000 in
theorem wmarks_spec (x d : Nat) (ω : Wl) : Fn Try.prog 69 #[vptr x] [wlR x d ω] fun v L => v = .tuple #[vint ω.a, vint ω.b] ∧ L = [wlR x d ω] := by
  refine Fn.intro (vs := [vptr x]) Try.func69 rfl rfl ?_
  intro F W
  refine G.wlOpen (ω := ω) (by (repeat (first | exact Pick.here | apply Pick.there))) fun vr vb => ?_
  refine G.slAny (v := vr) (by (repeat (first | exact Pick.here | apply Pick.there))) fun arr crr e _ => ?_
  subst e
  refine G.slAny (v := vb) (by (repeat (first | exact Pick.here | apply Pick.there))) fun abb cbb e _ => ?_
  subst e
  refine G.seq ?_
  refine G.region ?_
  refine G.q (Quiet.assign rfl) rfl ?_
  refine G.q (Quiet.assign rfl) rfl ?_
  refine G.nil ?_
  refine G.then_n ?_
  refine G.seq ?_
  refine G.draw [] [[0, 1, 2, 3, 4, 5, 6, 7, 8, 9]] mixed (by kernel_rfl) ?_
  refine Phases.go [] (by (repeat (first | exact Picks.nil | (apply Picks.cons; (repeat (first | exact Pick.here | apply Pick.there)))))) ?_
  refine D.qw [1, 2, 3, 8, 9] rfl (by kernel_rfl) (Quiet.move rfl) ?_
  refine D.qw [2, 3, 8, 9] rfl (by kernel_rfl) (Quiet.nilp rfl) ?_
  refine D.qw [3, 8, 9] rfl (by kernel_rfl) (Quiet.fieldAddr rfl fo_118_6) ?_
  refine D.qw [8, 9] rfl (by kernel_rfl) (Quiet.load rfl ag_3 (by (repeat (first | exact Pick.here | apply Pick.there))) (rfl)) ?_
  refine D.qw [5, 6, 7, 9] rfl (by kernel_rfl) (Quiet.move rfl) ?_
  refine D.qw [6, 7, 9] rfl (by kernel_rfl) (Quiet.nilp rfl) ?_
  refine D.qw [7, 9] rfl (by kernel_rfl) (Quiet.fieldAddr rfl fo_118_7) ?_
  refine D.qw [9] rfl (by kernel_rfl) (Quiet.load rfl ag_3 (by (repeat (first | exact Pick.here | apply Pick.there))) (rfl)) ?_
  refine D.qw [9] rfl (by kernel_rfl) (Quiet.assign rfl) ?_
  refine D.qw [] rfl (by kernel_rfl) (Quiet.assign rfl) ?_
  refine D.ph ?_
  refine Phases.fin ?_
  refine G.then_n ?_
  refine G.ret ?_
  refine G.wlFold (x := x) (d := d) (ω := ω) (by (repeat (first | exact Picks.nil | (apply Picks.cons; (repeat (first | exact Pick.here | apply Pick.there)))))) rfl rfl rfl rfl rfl ?_
  exact G.done (l := [.tmp 2, .tmp 3]) rfl rfl ⟨rfl, rfl⟩ (by (repeat (first | exact Picks.nil | (apply Picks.cons; (repeat (first | exact Pick.here | apply Pick.there)))))) (by (repeat (first | exact Suff.here | apply Suff.there)))

def roomZ (δ : Dk) (ω : Wl) : Int := max (-1) (min 4000 (64 * halfZ δ - (laidZ ω.recs).length - 6))
set_option maxRecDepth 100000 in
theorem wroom_spec (x d : Nat) (ω : Wl) (δ : Dk) (hn : 2 ≤ δ.now.length ∧ δ.now.length ≤ 32768) (hfit : (laidZ ω.recs).length ≤ 4000000) : Fn Try.prog 25 #[vptr x] [wlR x d ω, dkR d δ] fun v L => v = vint (roomZ δ ω) ∧ L = [wlR x d ω, dkR d δ] := by
  refine Fn.intro (vs := [vptr x]) Try.func25 rfl rfl ?_
  intro F W
  refine G.wlOpen (ω := ω) (by (repeat (first | exact Pick.here | apply Pick.there))) fun vr vb => ?_
  refine G.slAny (v := vr) (by (repeat (first | exact Pick.here | apply Pick.there))) fun arr crr e _ => ?_
  subst e
  refine G.slAny (v := vb) (by (repeat (first | exact Pick.here | apply Pick.there))) fun abb cbb e _ => ?_
  subst e
  have hh := half_le hn
  refine G.seq ?_
  refine G.region ?_
  refine G.q (Quiet.assign rfl) rfl ?_
  refine G.nil ?_
  refine G.then_n ?_
  refine G.seq ?_
  refine G.draw [] [[0, 1, 2, 3, 4, 5, 6, 7, 8, 9, 10, 11, 12, 13, 14, 15]] mixed (by kernel_rfl) ?_
  refine Phases.go [ptc x _ _, dkR d δ] (by (repeat (first | exact Picks.nil | (apply Picks.cons; (repeat (first | exact Pick.here | apply Pick.there)))))) ?_
  refine D.qw [1, 2, 3, 4, 5, 11, 12, 13, 14, 15] rfl (by kernel_rfl) (Quiet.move rfl) ?_
  refine D.qw [2, 3, 4, 5, 11, 12, 13, 14, 15] rfl (by kernel_rfl) (Quiet.nilp rfl) ?_
  refine D.qw [3, 4, 5, 11, 12, 13, 14, 15] rfl (by kernel_rfl) (Quiet.fieldAddr rfl fo_118_0) ?_
  refine D.qw [4, 5, 11, 12, 13, 14, 15] rfl (by kernel_rfl) (Quiet.load rfl ag_24 (by (repeat (first | exact Pick.here | apply Pick.there))) (rfl)) ?_
  refine D.m rfl (by kernel_rfl) (OpSpec.call Try.func80 rfl rfl (vs := [_]) rfl (half_spec d δ hn)) (by (repeat (first | exact Picks.nil | (apply Picks.cons; (repeat (first | exact Pick.here | apply Pick.there)))))) ?nx6
  refine D.qw [11, 12, 13, 14, 15] rfl (by kernel_rfl) (Quiet.mul rfl rfl (by omega)) ?_
  refine D.qw [7, 8, 9, 10, 11, 12, 13, 14, 15] rfl (by kernel_rfl) (Quiet.move rfl) ?_
  refine D.qw [8, 9, 10, 11, 12, 13, 14, 15] rfl (by kernel_rfl) (Quiet.nilp rfl) ?_
  refine D.qw [9, 10, 11, 12, 13, 14, 15] rfl (by kernel_rfl) (Quiet.fieldAddr rfl fo_118_3) ?_
  refine D.qw [10, 11, 12, 13, 14, 15] rfl (by kernel_rfl) (Quiet.load rfl ag_31 (by (repeat (first | exact Pick.here | apply Pick.there))) (rfl)) ?_
  refine D.qw [11, 12, 13, 14, 15] rfl (by kernel_rfl) (Quiet.slen rfl Try.underlying31 rfl) ?_
  refine D.qw [12, 13, 14, 15] rfl (by kernel_rfl) (Quiet.sub rfl rfl (by omega)) ?_
  refine D.qw [13, 14, 15] rfl (by kernel_rfl) (Quiet.sub rfl rfl (by omega)) ?_
  refine D.qw [14, 15] rfl (by kernel_rfl) (Quiet.min2 rfl rfl) ?_
  refine D.qw [15] rfl (by kernel_rfl) (Quiet.max2 rfl rfl) ?_
  refine D.qw [] rfl (by kernel_rfl) (Quiet.assign rfl) ?_
  refine D.ph ?_
  refine Phases.fin ?_
  refine G.then_n ?_
  refine G.ret ?_
  refine G.wlFold (x := x) (d := d) (ω := ω) (by (repeat (first | exact Picks.nil | (apply Picks.cons; (repeat (first | exact Pick.here | apply Pick.there)))))) rfl rfl rfl rfl rfl ?_
  exact G.done (l := [.tmp 2]) rfl rfl ⟨rfl, rfl⟩ (by (repeat (first | exact Picks.nil | (apply Picks.cons; (repeat (first | exact Pick.here | apply Pick.there)))))) (by (repeat (first | exact Suff.here | apply Suff.there)))

set_option maxRecDepth 100000 in
theorem wrecords_spec (x d : Nat) (ω : Wl) (hl : ω.recs.length ≤ 4294967296) : Fn Try.prog 60 #[vptr x] [wlR x d ω] fun v L => (ω.doubt = true ∧ v = .tuple #[.slice none 0 0, vint 34] ∧ L = [wlR x d ω]) ∨ (ω.doubt = false ∧ ∃ a c, v = .tuple #[.slice a ω.recs.length c, vint 0] ∧ L = [wlR x d ω, strR (.slice a ω.recs.length c) ω.recs]) := by
  refine Fn.intro (vs := [vptr x]) Try.func60 rfl rfl ?_
  intro F W
  refine G.wlOpen (ω := ω) (by (repeat (first | exact Pick.here | apply Pick.there))) fun vr vb => ?_
  refine G.slAny (v := vr) (by (repeat (first | exact Pick.here | apply Pick.there))) fun arr crr e _ => ?_
  subst e
  refine G.slAny (v := vb) (by (repeat (first | exact Pick.here | apply Pick.there))) fun abb cbb e _ => ?_
  subst e
  refine G.seq ?_
  refine G.region ?_
  refine G.q (Quiet.assign rfl) rfl ?_
  refine G.q (Quiet.assign rfl) rfl ?_
  refine G.nil ?_
  refine G.then_n ?_
  refine G.seq ?_
  refine G.seq ?_
  refine G.region ?_
  refine G.q (Quiet.move rfl) rfl ?_
  refine G.q (Quiet.nilp rfl) rfl ?_
  refine G.q (Quiet.fieldAddr rfl fo_118_8) rfl ?_
  refine G.q (Quiet.load rfl ag_4 (by (repeat (first | exact Pick.here | apply Pick.there))) (rfl)) rfl ?_
  refine G.nil ?_
  refine G.then_n ?_
  refine G.condB rfl (fun h7 => ?_) (fun h7 => ?_)
  · refine G.seq ?_
    refine G.region ?_
    refine G.q (Quiet.assign rfl) rfl ?_
    refine G.q (Quiet.assign rfl) rfl ?_
    refine G.nil ?_
    refine G.then_n ?_
    refine G.ret ?_
    refine G.then_r ?_
    refine G.wlFold (x := x) (d := d) (ω := ω) (vr := (.slice arr ω.recs.length crr)) (by (repeat (first | exact Picks.nil | (apply Picks.cons; (repeat (first | exact Pick.here | apply Pick.there)))))) rfl rfl rfl rfl rfl ?_
    exact G.done (l := [.tmp 2, .tmp 3]) rfl rfl (.inl ⟨h7, rfl, rfl⟩) (by (repeat (first | exact Picks.nil | (apply Picks.cons; (repeat (first | exact Pick.here | apply Pick.there)))))) (by (repeat (first | exact Suff.here | apply Suff.there)))
  · refine G.skip ?_
    refine G.then_n ?_
    refine G.seq ?_
    refine G.region ?_
    refine G.q (Quiet.move rfl) rfl ?_
    refine G.q (Quiet.nilp rfl) rfl ?_
    refine G.q (Quiet.fieldAddr rfl fo_118_1) rfl ?_
    refine G.q (Quiet.load rfl ag_22 (by (repeat (first | exact Pick.here | apply Pick.there))) (rfl)) rfl ?_
    refine G.op (OpSpec.call Try.func110 rfl rfl (vs := [_]) rfl (cloneT_spec (.slice arr ω.recs.length crr) ω.recs.length (strs ω.recs) (strR (.slice arr ω.recs.length crr) ω.recs) (fun h hp => slR_rd hp) (strs_cell _) hl)) (by (repeat (first | exact Picks.nil | (apply Picks.cons; (repeat (first | exact Pick.here | apply Pick.there)))))) rfl ?nx13
    rintro v L' ⟨⟨ac, cc, rfl⟩, rfl⟩
    refine G.op (OpSpec.call Try.func109 rfl rfl (vs := [_]) rfl (clipT_spec _ _ _)) (by (repeat (first | exact Picks.nil | (apply Picks.cons; (repeat (first | exact Pick.here | apply Pick.there)))))) rfl ?nx15
    rintro v L' ⟨⟨ad, cd, rfl⟩, rfl⟩
    refine G.q (Quiet.assign rfl) rfl ?_
    refine G.q (Quiet.assign rfl) rfl ?_
    refine G.nil ?_
    refine G.then_n ?_
    refine G.ret ?_
    refine G.wlFold (x := x) (d := d) (ω := ω) (vr := (.slice arr ω.recs.length crr)) (by (repeat (first | exact Picks.nil | (apply Picks.cons; (repeat (first | exact Pick.here | apply Pick.there)))))) rfl rfl rfl rfl rfl ?_
    exact G.done (l := [.tmp 2, .tmp 3]) rfl rfl (.inr ⟨by simpa using h7, _, _, rfl, rfl⟩) (by (repeat (first | exact Picks.nil | (apply Picks.cons; (repeat (first | exact Pick.here | apply Pick.there)))))) (by (repeat (first | exact Suff.here | apply Suff.there)))

end Go.Proofs.Ytepncdidkjjllaa
