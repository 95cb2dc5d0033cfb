/- Own work, by program: Append, Sync, Cut, Mark, what asks a log: walked. -/
import Derived.Test.YtepncdidkjjllaaWalSeal
namespace Go.Proofs.Ytepncdidkjjllaa
open Go
theorem rd_take {arr : Option Addr} {n crr k : Nat} {T : TypeId} {l : List Bs} (hk : k ≤ n) (hn : n = l.length) : ∀ h : Hp, slR T 1 (.slice arr n crr) n (strs l) h → rdS 1 h (.slice arr k crr) (l.take k).length (strs (l.take k)) := by
  intro h hp
  have := slR_rd (slR_to hk hp)
  rw [show (l.take k).length = k by rw [List.length_take]; omega, show strs (l.take k) = (strs l).take k from List.map_take]
  exact this
set_option maxRecDepth 100000 in
theorem wsync_spec (x d : Nat) (ω : Wl) (δ : Dk) (hI : WlI δ ω) : Fn Try.prog 28 #[vptr x] [wlR x d ω, dkR d δ] fun v L => v = vint (syncZ δ ω).2.2 ∧ L = [wlR x d (syncZ δ ω).2.1, dkR d (syncZ δ ω).1] := by
  refine Fn.introD (vs := [vptr x]) Try.func28 rfl rfl ?_
  intro F W
  refine G.wlOpen (ω := ω) (by (repeat (first | exact Pick.here | apply Pick.there))) fun vr vb => ?_
  refine G.slAny (v := vr) (by (repeat (first | exact Pick.here | apply Pick.there))) fun arr crr e _ => ?_
  subst e
  refine G.slAny (v := vb) (by (repeat (first | exact Pick.here | apply Pick.there))) fun abb cbb e _ => ?_
  subst e
  refine G.slAddr (T := 9) (by (repeat (first | exact Pick.here | apply Pick.there))) fun hrc hra => ?_
  obtain ⟨hn, hA, har, hct, hsy, hfit⟩ := hI
  have hh := half_le hn
  have hll := laidZ_many ω.recs
  refine G.seq ?_
  refine G.region ?_
  refine G.op (OpSpec.alloc ze_25) (by (repeat (first | exact Picks.nil | (apply Picks.cons; (repeat (first | exact Pick.here | apply Pick.there)))))) rfl ?nx1
  rintro v L' ⟨be, rfl, rfl⟩
  refine G.nil ?_
  refine G.ptCast (b := be) (l' := [vint 0]) (by (repeat (first | exact Pick.here | apply Pick.there))) rfl ?_
  refine G.then_n ?_
  refine G.seq ?_
  refine G.region ?_
  refine G.q (Quiet.move rfl) rfl ?_
  refine G.defer (vs := [_, _]) rfl ?_
  refine G.nil ?_
  refine G.then_n ?_
  refine G.seq ?_
  refine G.block ?_
  refine G.seq ?_
  refine G.region ?_
  refine G.q (Quiet.move rfl) rfl ?_
  refine G.q (Quiet.nilp rfl) rfl ?_
  refine G.q (Quiet.fieldAddr rfl fo_118_8) rfl ?_
  refine G.q (Quiet.load rfl ag_4 (by (repeat (first | exact Pick.here | apply Pick.there))) (rfl)) rfl ?_
  refine G.q (Quiet.assign rfl) rfl ?_
  refine G.nil ?_
  refine G.then_n ?_
  refine G.condB rfl (fun h4 => ?_) (fun h4 => ?_)
  · refine G.seq ?_
    refine G.region ?_
    refine G.op (OpSpec.store rfl rfl rfl sz_25 ?c8 ?c9) (by (repeat (first | exact Picks.nil | (apply Picks.cons; (repeat (first | exact Pick.here | apply Pick.there)))))) rfl ?nx10
    case c8 => first | decide | (simp; omega) | simp
    case c9 => exact nfz0 _ _
    rintro v L' rfl
    refine G.nil ?_
    refine G.ptCast (b := be) (l' := [vint 34]) (by (repeat (first | exact Pick.here | apply Pick.there))) rfl ?_
    refine G.then_n ?_
    refine G.ret ?_
    refine G.blk_r ?_
    refine G.then_r ?_
    refine G.doneD Try.func81 rfl rfl (doubts_spec x d (.slice arr ω.recs.length crr) ω.synced (.slice abb (laidZ ω.recs).length cbb) ω.area ω.count ω.a ω.b ω.doubt be 34) (by (repeat (first | exact Picks.nil | (apply Picks.cons; (repeat (first | exact Pick.here | apply Pick.there)))))) ?_
    rintro u L' ⟨rfl, rfl⟩
    have e : syncZ δ ω = (δ, ω, 34) := by unfold syncZ; rw [if_pos h4]
    rw [e, if_neg (show ¬ (34 : Int) = 2 by decide)]
    refine G.wlFold (x := x) (d := d) (ω := ω) (by (repeat (first | exact Picks.nil | (apply Picks.cons; (repeat (first | exact Pick.here | apply Pick.there)))))) rfl rfl rfl rfl rfl ?_
    exact G.done1 rfl (.cell rfl ag_25 (by (repeat (first | exact Pick.here | apply Pick.there))) rfl) ⟨rfl, rfl⟩ (by (repeat (first | exact Picks.nil | (apply Picks.cons; (repeat (first | exact Pick.here | apply Pick.there)))))) (by (repeat (first | exact Suff.here | apply Suff.there)))
  · have hdb : ¬ ω.doubt = true := by rw [h4]; decide
    refine G.seq ?_
    refine G.draw [] [[0, 1, 2, 3, 4, 5, 6, 7, 8, 9, 10]] mixed (by kernel_rfl) ?_
    refine Phases.go [] (by (repeat (first | exact Picks.nil | (apply Picks.cons; (repeat (first | exact Pick.here | apply Pick.there)))))) ?_
    refine D.qw [1, 2, 3, 9, 10] rfl (by kernel_rfl) (Quiet.move rfl) ?_
    refine D.qw [2, 3, 9, 10] rfl (by kernel_rfl) (Quiet.nilp rfl) ?_
    refine D.qw [3, 9, 10] rfl (by kernel_rfl) (Quiet.fieldAddr rfl fo_118_2) ?_
    refine D.qw [9, 10] rfl (by kernel_rfl) (Quiet.load rfl ag_3 (by (repeat (first | exact Pick.here | apply Pick.there))) (rfl)) ?_
    refine D.qw [5, 6, 7, 8, 9, 10] rfl (by kernel_rfl) (Quiet.move rfl) ?_
    refine D.qw [6, 7, 8, 9, 10] rfl (by kernel_rfl) (Quiet.nilp rfl) ?_
    refine D.qw [7, 8, 9, 10] rfl (by kernel_rfl) (Quiet.fieldAddr rfl fo_118_1) ?_
    refine D.qw [8, 9, 10] rfl (by kernel_rfl) (Quiet.load rfl ag_22 (by (repeat (first | exact Pick.here | apply Pick.there))) (rfl)) ?_
    refine D.qw [9, 10] rfl (by kernel_rfl) (Quiet.slen rfl Try.underlying22 rfl) ?_
    refine D.qw [10] rfl (by kernel_rfl) (Quiet.int rfl rfl rfl) ?_
    refine D.qw [] rfl (by kernel_rfl) (Quiet.assign rfl) ?_
    refine D.ph ?_
    refine Phases.fin ?_
    refine G.then_n ?_
    refine G.condD rfl (fun h9 => ?_) (fun h9 => ?_)
    · refine G.seq ?_
      refine G.region ?_
      refine G.op (OpSpec.store rfl rfl rfl sz_25 ?c21 ?c22) (by (repeat (first | exact Picks.nil | (apply Picks.cons; (repeat (first | exact Pick.here | apply Pick.there)))))) rfl ?nx23
      case c21 => first | decide | (simp; omega) | simp
      case c22 => exact nfz0 _ _
      rintro v L' rfl
      refine G.nil ?_
      refine G.ptCast (b := be) (l' := [vint 0]) (by (repeat (first | exact Pick.here | apply Pick.there))) rfl ?_
      refine G.then_n ?_
      refine G.ret ?_
      refine G.blk_r ?_
      refine G.then_r ?_
      refine G.doneD Try.func81 rfl rfl (doubts_spec x d (.slice arr ω.recs.length crr) ω.synced (.slice abb (laidZ ω.recs).length cbb) ω.area ω.count ω.a ω.b ω.doubt be 0) (by (repeat (first | exact Picks.nil | (apply Picks.cons; (repeat (first | exact Pick.here | apply Pick.there)))))) ?_
      rintro u L' ⟨rfl, rfl⟩
      have e : syncZ δ ω = (δ, ω, 0) := by unfold syncZ; rw [if_neg hdb, if_pos h9]
      rw [e, if_neg (show ¬ (0 : Int) = 2 by decide)]
      refine G.wlFold (x := x) (d := d) (ω := ω) (by (repeat (first | exact Picks.nil | (apply Picks.cons; (repeat (first | exact Pick.here | apply Pick.there)))))) rfl rfl rfl rfl rfl ?_
      exact G.done1 rfl (.cell rfl ag_25 (by (repeat (first | exact Pick.here | apply Pick.there))) rfl) ⟨rfl, rfl⟩ (by (repeat (first | exact Picks.nil | (apply Picks.cons; (repeat (first | exact Pick.here | apply Pick.there)))))) (by (repeat (first | exact Suff.here | apply Suff.there)))
    · refine G.seq ?_
      refine G.region ?_
      refine G.q (Quiet.move rfl) rfl ?_
      refine G.q (Quiet.nilp rfl) rfl ?_
      refine G.q (Quiet.fieldAddr rfl fo_118_5) rfl ?_
      refine G.q (Quiet.load rfl ag_3 (by (repeat (first | exact Pick.here | apply Pick.there))) (rfl)) rfl ?_
      refine G.q (Quiet.int rfl rfl rfl) rfl ?_
      refine G.q (Quiet.assign rfl) rfl ?_
      refine G.nil ?_
      refine G.then_n ?_
      refine G.condD rfl (fun h20 => ?_) (fun h20 => ?_)
      · refine G.seq ?_
        refine G.region ?_
        refine G.op (OpSpec.store rfl rfl rfl sz_25 ?c29 ?c30) (by (repeat (first | exact Picks.nil | (apply Picks.cons; (repeat (first | exact Pick.here | apply Pick.there)))))) rfl ?nx31
        case c29 => first | decide | (simp; omega) | simp
        case c30 => exact nfz0 _ _
        rintro v L' rfl
        refine G.nil ?_
        refine G.ptCast (b := be) (l' := [vint 30]) (by (repeat (first | exact Pick.here | apply Pick.there))) rfl ?_
        refine G.then_n ?_
        refine G.ret ?_
        refine G.blk_r ?_
        refine G.then_r ?_
        refine G.doneD Try.func81 rfl rfl (doubts_spec x d (.slice arr ω.recs.length crr) ω.synced (.slice abb (laidZ ω.recs).length cbb) ω.area ω.count ω.a ω.b ω.doubt be 30) (by (repeat (first | exact Picks.nil | (apply Picks.cons; (repeat (first | exact Pick.here | apply Pick.there)))))) ?_
        rintro u L' ⟨rfl, rfl⟩
        have e : syncZ δ ω = (δ, ω, 30) := by unfold syncZ; rw [if_neg hdb, if_neg h9, if_pos h20]
        rw [e, if_neg (show ¬ (30 : Int) = 2 by decide)]
        refine G.wlFold (x := x) (d := d) (ω := ω) (by (repeat (first | exact Picks.nil | (apply Picks.cons; (repeat (first | exact Pick.here | apply Pick.there)))))) rfl rfl rfl rfl rfl ?_
        exact G.done1 rfl (.cell rfl ag_25 (by (repeat (first | exact Pick.here | apply Pick.there))) rfl) ⟨rfl, rfl⟩ (by (repeat (first | exact Picks.nil | (apply Picks.cons; (repeat (first | exact Pick.here | apply Pick.there)))))) (by (repeat (first | exact Suff.here | apply Suff.there)))
      · refine G.skip ?_
        refine G.blk_n ?_
        refine G.then_n ?_
        refine G.seq ?_
        refine G.draw [13, 14] [[0, 1, 2, 3, 4, 5, 6, 7, 8, 9, 10, 11, 12, 13], [14]] mixed (by kernel_rfl) ?_
        refine Phases.go [] (by (repeat (first | exact Picks.nil | (apply Picks.cons; (repeat (first | exact Pick.here | apply Pick.there)))))) ?_
        refine D.qw [13] rfl (by kernel_rfl) (Quiet.move rfl) ?_
        refine D.qw [2, 3, 4, 13] rfl (by kernel_rfl) (Quiet.move rfl) ?_
        refine D.qw [3, 4, 13] rfl (by kernel_rfl) (Quiet.nilp rfl) ?_
        refine D.qw [4, 13] rfl (by kernel_rfl) (Quiet.fieldAddr rfl fo_118_4) ?_
        refine D.qw [13] rfl (by kernel_rfl) (Quiet.load rfl ag_3 (by (repeat (first | exact Pick.here | apply Pick.there))) (rfl)) ?_
        refine D.qw [6, 7, 8, 13] rfl (by kernel_rfl) (Quiet.move rfl) ?_
        refine D.qw [7, 8, 13] rfl (by kernel_rfl) (Quiet.nilp rfl) ?_
        refine D.qw [8, 13] rfl (by kernel_rfl) (Quiet.fieldAddr rfl fo_118_1) ?_
        refine D.qw [13] rfl (by kernel_rfl) (Quiet.load rfl ag_22 (by (repeat (first | exact Pick.here | apply Pick.there))) (rfl)) ?_
        refine D.qw [10, 11, 12, 13] rfl (by kernel_rfl) (Quiet.move rfl) ?_
        refine D.qw [11, 12, 13] rfl (by kernel_rfl) (Quiet.nilp rfl) ?_
        refine D.qw [12, 13] rfl (by kernel_rfl) (Quiet.fieldAddr rfl fo_118_3) ?_
        refine D.qw [13] rfl (by kernel_rfl) (Quiet.load rfl ag_31 (by (repeat (first | exact Pick.here | apply Pick.there))) (rfl)) ?_
        refine D.h rfl (by kernel_rfl) (OpSpec.call Try.func86 rfl rfl (vs := [_, _, _, _]) rfl (seal_spec x d (.slice arr ω.recs.length crr) (.slice abb (laidZ ω.recs).length cbb) ω δ ω.area (.slice arr ω.recs.length crr) (.slice abb (laidZ ω.recs).length cbb) ω.recs (strR (.slice arr ω.recs.length crr) ω.recs) (bytR (.slice abb (laidZ ω.recs).length cbb) (laidZ ω.recs)) hct (by omega) ?hl45 ?hp46 ?hq47)) (by (repeat (first | exact Picks.nil | (apply Picks.cons; (repeat (first | exact Pick.here | apply Pick.there)))))) ?nx48
        case hl45 => omega
        case hp46 => exact fun h hp => slR_rd hp
        case hq47 => exact fun h hp => slR_rd hp
        rintro v L' (⟨δ', hs, rfl, rfl⟩ | ⟨δ', hs, rfl, vr', vb', rfl⟩)
        · refine D.ph ?_
          refine Phases.go [] (by (repeat (first | exact Picks.nil | (apply Picks.cons; (repeat (first | exact Pick.here | apply Pick.there)))))) ?_
          refine D.h rfl (by kernel_rfl) (OpSpec.store rfl rfl rfl sz_25 ?c50 ?c51) (by (repeat (first | exact Picks.nil | (apply Picks.cons; (repeat (first | exact Pick.here | apply Pick.there)))))) ?nx52
          case c50 => first | decide | (simp; omega) | simp
          case c51 => exact nfz0 _ _
          rintro v L' rfl
          refine D.ph ?_
          refine Phases.fin ?_
          refine G.ptCast (b := be) (l' := [vint 2]) (by (repeat (first | exact Pick.here | apply Pick.there))) rfl ?_
          refine G.then_n ?_
          refine G.ret ?_
          refine G.doneD Try.func81 rfl rfl (doubts_spec x d (.slice arr ω.recs.length crr) ω.synced (.slice abb (laidZ ω.recs).length cbb) ω.area ω.count ω.a ω.b ω.doubt be 2) (by (repeat (first | exact Picks.nil | (apply Picks.cons; (repeat (first | exact Pick.here | apply Pick.there)))))) ?_
          rintro u L' ⟨rfl, rfl⟩
          have e : syncZ δ ω = (δ', { ω with doubt := true }, 2) := by unfold syncZ; rw [if_neg hdb, if_neg h9, if_neg h20, hs]; rfl
          rw [e, if_pos rfl]
          refine G.wlFold (x := x) (d := d) (ω := { ω with doubt := true }) (by (repeat (first | exact Picks.nil | (apply Picks.cons; (repeat (first | exact Pick.here | apply Pick.there)))))) rfl rfl rfl rfl rfl ?_
          exact G.done1 rfl (.cell rfl ag_25 (by (repeat (first | exact Pick.here | apply Pick.there))) rfl) ⟨rfl, rfl⟩ (by (repeat (first | exact Picks.nil | (apply Picks.cons; (repeat (first | exact Pick.here | apply Pick.there)))))) (by (repeat (first | exact Suff.here | apply Suff.there)))
        · refine D.ph ?_
          refine Phases.go [] (by (repeat (first | exact Picks.nil | (apply Picks.cons; (repeat (first | exact Pick.here | apply Pick.there)))))) ?_
          refine D.h rfl (by kernel_rfl) (OpSpec.store rfl rfl rfl sz_25 ?c54 ?c55) (by (repeat (first | exact Picks.nil | (apply Picks.cons; (repeat (first | exact Pick.here | apply Pick.there)))))) ?nx56
          case c54 => first | decide | (simp; omega) | simp
          case c55 => exact nfz0 _ _
          rintro v L' rfl
          refine D.ph ?_
          refine Phases.fin ?_
          refine G.ptCast (b := be) (l' := [vint 0]) (by (repeat (first | exact Pick.here | apply Pick.there))) rfl ?_
          refine G.then_n ?_
          refine G.ret ?_
          refine G.doneD Try.func81 rfl rfl (doubts_spec x d vr' _ vb' _ _ _ _ _ be 0) (by (repeat (first | exact Picks.nil | (apply Picks.cons; (repeat (first | exact Pick.here | apply Pick.there)))))) ?_
          rintro u L' ⟨rfl, rfl⟩
          have e : syncZ δ ω = (δ', { ω with synced := ω.recs.length, count := ω.count + 1 }, 0) := by unfold syncZ; rw [if_neg hdb, if_neg h9, if_neg h20, hs]; rfl
          rw [e, if_neg (show ¬ (0 : Int) = 2 by decide)]
          refine G.wlFold (x := x) (d := d) (ω := { ω with synced := ω.recs.length, count := ω.count + 1 }) (by (repeat (first | exact Picks.nil | (apply Picks.cons; (repeat (first | exact Pick.here | apply Pick.there)))))) rfl rfl rfl rfl rfl ?_
          exact G.done1 rfl (.cell rfl ag_25 (by (repeat (first | exact Pick.here | apply Pick.there))) rfl) ⟨rfl, rfl⟩ (by (repeat (first | exact Picks.nil | (apply Picks.cons; (repeat (first | exact Pick.here | apply Pick.there)))))) (by (repeat (first | exact Suff.here | apply Suff.there)))

set_option maxRecDepth 100000 in
theorem wcut_spec (x d : Nat) (ω : Wl) (δ : Dk) (n : Int) (hI : WlI δ ω) : Fn Try.prog 76 #[vptr x, vint n] [wlR x d ω, dkR d δ] fun v L => v = vint (cutZ δ ω n).2.2 ∧ L = [wlR x d (cutZ δ ω n).2.1, dkR d (cutZ δ ω n).1] := by
  refine Fn.introD (vs := [vptr x, vint n]) Try.func76 rfl rfl ?_
  intro F W
  refine G.wlOpen (ω := ω) (by (repeat (first | exact Pick.here | apply Pick.there))) fun vr vb => ?_
  refine G.slAny (v := vr) (by (repeat (first | exact Pick.here | apply Pick.there))) fun arr crr e _ => ?_
  subst e
  refine G.slAny (v := vb) (by (repeat (first | exact Pick.here | apply Pick.there))) fun abb cbb e _ => ?_
  subst e
  refine G.slAddr (T := 9) (by (repeat (first | exact Pick.here | apply Pick.there))) fun hrc hra => ?_
  obtain ⟨hn, hA, har, hct, hsy, hfit⟩ := hI
  have hh := half_le hn
  have hll := laidZ_many ω.recs
  refine G.seq ?_
  refine G.region ?_
  refine G.op (OpSpec.alloc ze_25) (by (repeat (first | exact Picks.nil | (apply Picks.cons; (repeat (first | exact Pick.here | apply Pick.there)))))) rfl ?nx1
  rintro v L' ⟨be, rfl, rfl⟩
  refine G.nil ?_
  refine G.ptCast (b := be) (l' := [vint 0]) (by (repeat (first | exact Pick.here | apply Pick.there))) rfl ?_
  refine G.then_n ?_
  refine G.seq ?_
  refine G.region ?_
  refine G.q (Quiet.move rfl) rfl ?_
  refine G.defer (vs := [_, _]) rfl ?_
  refine G.nil ?_
  refine G.then_n ?_
  refine G.seq ?_
  refine G.block ?_
  refine G.seq ?_
  refine G.region ?_
  refine G.q (Quiet.move rfl) rfl ?_
  refine G.q (Quiet.nilp rfl) rfl ?_
  refine G.q (Quiet.fieldAddr rfl fo_118_8) rfl ?_
  refine G.q (Quiet.load rfl ag_4 (by (repeat (first | exact Pick.here | apply Pick.there))) (rfl)) rfl ?_
  refine G.q (Quiet.assign rfl) rfl ?_
  refine G.nil ?_
  refine G.then_n ?_
  refine G.condB rfl (fun h6 => ?_) (fun h6 => ?_)
  · refine G.seq ?_
    refine G.region ?_
    refine G.op (OpSpec.store rfl rfl rfl sz_25 ?c8 ?c9) (by (repeat (first | exact Picks.nil | (apply Picks.cons; (repeat (first | exact Pick.here | apply Pick.there)))))) rfl ?nx10
    case c8 => first | decide | (simp; omega) | simp
    case c9 => exact nfz0 _ _
    rintro v L' rfl
    refine G.nil ?_
    refine G.ptCast (b := be) (l' := [vint 34]) (by (repeat (first | exact Pick.here | apply Pick.there))) rfl ?_
    refine G.then_n ?_
    refine G.ret ?_
    refine G.blk_r ?_
    refine G.then_r ?_
    refine G.doneD Try.func81 rfl rfl (doubts_spec x d (.slice arr ω.recs.length crr) ω.synced (.slice abb (laidZ ω.recs).length cbb) ω.area ω.count ω.a ω.b ω.doubt be 34) (by (repeat (first | exact Picks.nil | (apply Picks.cons; (repeat (first | exact Pick.here | apply Pick.there)))))) ?_
    rintro u L' ⟨rfl, rfl⟩
    have e : cutZ δ ω n = (δ, ω, 34) := by unfold cutZ; rw [if_pos h6]
    rw [e, if_neg (show ¬ (34 : Int) = 2 by decide)]
    refine G.wlFold (x := x) (d := d) (ω := ω) (by (repeat (first | exact Picks.nil | (apply Picks.cons; (repeat (first | exact Pick.here | apply Pick.there)))))) rfl rfl rfl rfl rfl ?_
    exact G.done1 rfl (.cell rfl ag_25 (by (repeat (first | exact Pick.here | apply Pick.there))) rfl) ⟨rfl, rfl⟩ (by (repeat (first | exact Picks.nil | (apply Picks.cons; (repeat (first | exact Pick.here | apply Pick.there)))))) (by (repeat (first | exact Suff.here | apply Suff.there)))
  · have hdb : ¬ ω.doubt = true := by rw [h6]; decide
    refine G.seq ?_
    refine G.region ?_
    refine G.q (Quiet.move rfl) rfl ?_
    refine G.q (Quiet.int rfl rfl rfl) rfl ?_
    refine G.q (Quiet.move rfl) rfl ?_
    refine G.dec (t := 14) rfl (fun h4_14 => ?_) (fun h4_14 => ?_)
    · refine G.kDT (t := 13) rfl h4_14 ?_
      refine G.gskip (t := 14) rfl rfl rfl rfl ?_
      refine G.gskip (t := 14) rfl rfl rfl rfl ?_
      refine G.gskip (t := 14) rfl rfl rfl rfl ?_
      refine G.gskip (t := 14) rfl rfl rfl rfl ?_
      refine G.gskip (t := 14) rfl rfl rfl rfl ?_
      refine G.gskip (t := 14) rfl rfl rfl rfl ?_
      refine G.gskip (t := 14) rfl rfl rfl rfl ?_
      refine G.q (Quiet.pickT rfl rfl) rfl ?_
      refine G.q (Quiet.assign rfl) rfl ?_
      refine G.nil ?_
      refine G.then_n ?_
      refine G.condT rfl ?_
      refine G.seq ?_
      refine G.region ?_
      refine G.op (OpSpec.store rfl rfl rfl sz_25 ?c14 ?c15) (by (repeat (first | exact Picks.nil | (apply Picks.cons; (repeat (first | exact Pick.here | apply Pick.there)))))) rfl ?nx16
      case c14 => first | decide | (simp; omega) | simp
      case c15 => exact nfz0 _ _
      rintro v L' rfl
      refine G.nil ?_
      refine G.ptCast (b := be) (l' := [vint 32]) (by (repeat (first | exact Pick.here | apply Pick.there))) rfl ?_
      refine G.then_n ?_
      refine G.ret ?_
      refine G.blk_r ?_
      refine G.then_r ?_
      refine G.doneD Try.func81 rfl rfl (doubts_spec x d (.slice arr ω.recs.length crr) ω.synced (.slice abb (laidZ ω.recs).length cbb) ω.area ω.count ω.a ω.b ω.doubt be 32) (by (repeat (first | exact Picks.nil | (apply Picks.cons; (repeat (first | exact Pick.here | apply Pick.there)))))) ?_
      rintro u L' ⟨rfl, rfl⟩
      have e : cutZ δ ω n = (δ, ω, 32) := by unfold cutZ; rw [if_neg hdb, if_pos (by first | exact .inl h4_14 | exact .inr h11)]
      rw [e, if_neg (show ¬ (32 : Int) = 2 by decide)]
      refine G.wlFold (x := x) (d := d) (ω := ω) (by (repeat (first | exact Picks.nil | (apply Picks.cons; (repeat (first | exact Pick.here | apply Pick.there)))))) rfl rfl rfl rfl rfl ?_
      exact G.done1 rfl (.cell rfl ag_25 (by (repeat (first | exact Pick.here | apply Pick.there))) rfl) ⟨rfl, rfl⟩ (by (repeat (first | exact Picks.nil | (apply Picks.cons; (repeat (first | exact Pick.here | apply Pick.there)))))) (by (repeat (first | exact Suff.here | apply Suff.there)))
    · refine G.kDF (t := 13) rfl h4_14 ?_
      refine G.grun (t := 14) rfl rfl rfl ?_
      refine G.q (Quiet.move rfl) rfl ?_
      refine G.grun (t := 14) rfl rfl rfl ?_
      refine G.q (Quiet.move rfl) rfl ?_
      refine G.grun (t := 14) rfl rfl rfl ?_
      refine G.q (Quiet.nilp rfl) rfl ?_
      refine G.grun (t := 14) rfl rfl rfl ?_
      refine G.q (Quiet.fieldAddr rfl fo_118_1) rfl ?_
      refine G.grun (t := 14) rfl rfl rfl ?_
      refine G.q (Quiet.load rfl ag_22 (by (repeat (first | exact Pick.here | apply Pick.there))) (rfl)) rfl ?_
      refine G.grun (t := 14) rfl rfl rfl ?_
      refine G.q (Quiet.slen rfl Try.underlying22 rfl) rfl ?_
      refine G.grun (t := 14) rfl rfl rfl ?_
      refine G.q (Quiet.int rfl rfl rfl) rfl ?_
      refine G.q (Quiet.pickF rfl rfl) rfl ?_
      refine G.q (Quiet.assign rfl) rfl ?_
      refine G.nil ?_
      refine G.then_n ?_
      refine G.condD rfl (fun h11 => ?_) (fun h11 => ?_)
      · refine G.seq ?_
        refine G.region ?_
        refine G.op (OpSpec.store rfl rfl rfl sz_25 ?c24 ?c25) (by (repeat (first | exact Picks.nil | (apply Picks.cons; (repeat (first | exact Pick.here | apply Pick.there)))))) rfl ?nx26
        case c24 => first | decide | (simp; omega) | simp
        case c25 => exact nfz0 _ _
        rintro v L' rfl
        refine G.nil ?_
        refine G.ptCast (b := be) (l' := [vint 32]) (by (repeat (first | exact Pick.here | apply Pick.there))) rfl ?_
        refine G.then_n ?_
        refine G.ret ?_
        refine G.blk_r ?_
        refine G.then_r ?_
        refine G.doneD Try.func81 rfl rfl (doubts_spec x d (.slice arr ω.recs.length crr) ω.synced (.slice abb (laidZ ω.recs).length cbb) ω.area ω.count ω.a ω.b ω.doubt be 32) (by (repeat (first | exact Picks.nil | (apply Picks.cons; (repeat (first | exact Pick.here | apply Pick.there)))))) ?_
        rintro u L' ⟨rfl, rfl⟩
        have e : cutZ δ ω n = (δ, ω, 32) := by unfold cutZ; rw [if_neg hdb, if_pos (by first | exact .inl h4_14 | exact .inr h11)]
        rw [e, if_neg (show ¬ (32 : Int) = 2 by decide)]
        refine G.wlFold (x := x) (d := d) (ω := ω) (by (repeat (first | exact Picks.nil | (apply Picks.cons; (repeat (first | exact Pick.here | apply Pick.there)))))) rfl rfl rfl rfl rfl ?_
        exact G.done1 rfl (.cell rfl ag_25 (by (repeat (first | exact Pick.here | apply Pick.there))) rfl) ⟨rfl, rfl⟩ (by (repeat (first | exact Picks.nil | (apply Picks.cons; (repeat (first | exact Pick.here | apply Pick.there)))))) (by (repeat (first | exact Suff.here | apply Suff.there)))
      · refine G.seq ?_
        have hin : ¬ (n < 0 ∨ n > ω.recs.length) := by rintro (h | h) <;> omega
        have htl := laidZ_take_len ω.recs n.toNat
        have hkl : (ω.recs.take n.toNat).length = n.toNat := by rw [List.length_take]; omega
        refine G.region ?_
        refine G.q (Quiet.move rfl) rfl ?_
        refine G.q (Quiet.nilp rfl) rfl ?_
        refine G.q (Quiet.fieldAddr rfl fo_118_5) rfl ?_
        refine G.q (Quiet.load rfl ag_3 (by (repeat (first | exact Pick.here | apply Pick.there))) (rfl)) rfl ?_
        refine G.q (Quiet.int rfl rfl rfl) rfl ?_
        refine G.q (Quiet.assign rfl) rfl ?_
        refine G.nil ?_
        refine G.then_n ?_
        refine G.condD rfl (fun h23 => ?_) (fun h23 => ?_)
        · refine G.seq ?_
          refine G.region ?_
          refine G.op (OpSpec.store rfl rfl rfl sz_25 ?c32 ?c33) (by (repeat (first | exact Picks.nil | (apply Picks.cons; (repeat (first | exact Pick.here | apply Pick.there)))))) rfl ?nx34
          case c32 => first | decide | (simp; omega) | simp
          case c33 => exact nfz0 _ _
          rintro v L' rfl
          refine G.nil ?_
          refine G.ptCast (b := be) (l' := [vint 30]) (by (repeat (first | exact Pick.here | apply Pick.there))) rfl ?_
          refine G.then_n ?_
          refine G.ret ?_
          refine G.blk_r ?_
          refine G.then_r ?_
          refine G.doneD Try.func81 rfl rfl (doubts_spec x d (.slice arr ω.recs.length crr) ω.synced (.slice abb (laidZ ω.recs).length cbb) ω.area ω.count ω.a ω.b ω.doubt be 30) (by (repeat (first | exact Picks.nil | (apply Picks.cons; (repeat (first | exact Pick.here | apply Pick.there)))))) ?_
          rintro u L' ⟨rfl, rfl⟩
          have e : cutZ δ ω n = (δ, ω, 30) := by unfold cutZ; rw [if_neg hdb, if_neg hin, if_pos h23]
          rw [e, if_neg (show ¬ (30 : Int) = 2 by decide)]
          refine G.wlFold (x := x) (d := d) (ω := ω) (by (repeat (first | exact Picks.nil | (apply Picks.cons; (repeat (first | exact Pick.here | apply Pick.there)))))) rfl rfl rfl rfl rfl ?_
          exact G.done1 rfl (.cell rfl ag_25 (by (repeat (first | exact Pick.here | apply Pick.there))) rfl) ⟨rfl, rfl⟩ (by (repeat (first | exact Picks.nil | (apply Picks.cons; (repeat (first | exact Pick.here | apply Pick.there)))))) (by (repeat (first | exact Suff.here | apply Suff.there)))
        · refine G.skip ?_
          refine G.blk_n ?_
          refine G.then_n ?_
          refine G.seq ?_
          refine G.draw [17, 18, 19] [[0, 1, 2, 3, 4, 5, 6, 7, 8, 9, 10, 11, 12, 13, 14, 15, 16, 17], [18], [19]] mixed (by kernel_rfl) ?_
          refine Phases.go [ptc x _ _] (by (repeat (first | exact Picks.nil | (apply Picks.cons; (repeat (first | exact Pick.here | apply Pick.there)))))) ?_
          refine D.q rfl (by kernel_rfl) (Quiet.move rfl) ?_
          refine D.q rfl (by kernel_rfl) (Quiet.move rfl) ?_
          refine D.q rfl (by kernel_rfl) (Quiet.nilp rfl) ?_
          refine D.q rfl (by kernel_rfl) (Quiet.fieldAddr rfl fo_118_4) ?_
          refine D.q rfl (by kernel_rfl) (Quiet.load rfl ag_3 (by (repeat (first | exact Pick.here | apply Pick.there))) (rfl)) ?_
          refine D.q rfl (by kernel_rfl) (Quiet.move rfl) ?_
          refine D.q rfl (by kernel_rfl) (Quiet.nilp rfl) ?_
          refine D.q rfl (by kernel_rfl) (Quiet.fieldAddr rfl fo_118_1) ?_
          refine D.q rfl (by kernel_rfl) (Quiet.load rfl ag_22 (by (repeat (first | exact Pick.here | apply Pick.there))) (rfl)) ?_
          refine D.q rfl (by kernel_rfl) (Quiet.move rfl) ?_
          refine D.q rfl (by kernel_rfl) (Quiet.slTo (j := n) rfl el_22 rfl (by omega) hra) ?_
          refine D.qw [12, 13, 14, 16, 17] rfl (by kernel_rfl) (Quiet.move rfl) ?_
          refine D.qw [13, 14, 16, 17] rfl (by kernel_rfl) (Quiet.nilp rfl) ?_
          refine D.qw [14, 16, 17] rfl (by kernel_rfl) (Quiet.fieldAddr rfl fo_118_1) ?_
          refine D.qw [16, 17] rfl (by kernel_rfl) (Quiet.load rfl ag_22 (by (repeat (first | exact Pick.here | apply Pick.there))) (rfl)) ?_
          refine D.qw [16, 17] rfl (by kernel_rfl) (Quiet.move rfl) ?_
          refine D.qw [17] rfl (by kernel_rfl) (Quiet.slTo (j := n) rfl el_22 rfl (by omega) hra) ?_
          refine D.h rfl (by kernel_rfl) (OpSpec.call Try.func118 rfl rfl (vs := [_]) rfl (laid_spec (.slice arr n.toNat crr) (ω.recs.take n.toNat) (strR (.slice arr ω.recs.length crr) ω.recs) ?hr52 ?hl53)) (by (repeat (first | exact Picks.nil | (apply Picks.cons; (repeat (first | exact Pick.here | apply Pick.there)))))) ?nx54
          case hr52 => exact rd_take (by omega) rfl
          case hl53 => omega
          rintro v L' ⟨⟨al, cl, rfl⟩, rfl⟩
          refine D.ph ?_
          refine Phases.go [] (by (repeat (first | exact Picks.nil | (apply Picks.cons; (repeat (first | exact Pick.here | apply Pick.there)))))) ?_
          refine D.h rfl (by kernel_rfl) (OpSpec.call Try.func86 rfl rfl (vs := [_, _, _, _]) rfl (seal_spec x d (.slice arr ω.recs.length crr) (.slice abb (laidZ ω.recs).length cbb) ω δ ω.area (.slice arr n.toNat crr) (.slice al (laidZ (ω.recs.take n.toNat)).length cl) (ω.recs.take n.toNat) (strR (.slice arr ω.recs.length crr) ω.recs) (bytR (.slice al (laidZ (ω.recs.take n.toNat)).length cl) (laidZ (ω.recs.take n.toNat))) hct (by omega) ?hl56 ?hp57 ?hq58)) (by (repeat (first | exact Picks.nil | (apply Picks.cons; (repeat (first | exact Pick.here | apply Pick.there)))))) ?nx59
          case hl56 => omega
          case hp57 => exact rd_take (by omega) rfl
          case hq58 => exact fun h hp => slR_rd hp
          rintro v L' (⟨δ', hs, rfl, rfl⟩ | ⟨δ', hs, rfl, vr', vb', rfl⟩)
          · refine D.ph ?_
            refine Phases.go [] (by (repeat (first | exact Picks.nil | (apply Picks.cons; (repeat (first | exact Pick.here | apply Pick.there)))))) ?_
            refine D.h rfl (by kernel_rfl) (OpSpec.store rfl rfl rfl sz_25 ?c61 ?c62) (by (repeat (first | exact Picks.nil | (apply Picks.cons; (repeat (first | exact Pick.here | apply Pick.there)))))) ?nx63
            case c61 => first | decide | (simp; omega) | simp
            case c62 => exact nfz0 _ _
            rintro v L' rfl
            refine D.ph ?_
            refine Phases.fin ?_
            refine G.ptCast (b := be) (l' := [vint 2]) (by (repeat (first | exact Pick.here | apply Pick.there))) rfl ?_
            refine G.then_n ?_
            refine G.ret ?_
            refine G.doneD Try.func81 rfl rfl (doubts_spec x d (.slice arr ω.recs.length crr) ω.synced (.slice abb (laidZ ω.recs).length cbb) ω.area ω.count ω.a ω.b ω.doubt be 2) (by (repeat (first | exact Picks.nil | (apply Picks.cons; (repeat (first | exact Pick.here | apply Pick.there)))))) ?_
            rintro u L' ⟨rfl, rfl⟩
            have e : cutZ δ ω n = (δ', { ω with doubt := true }, 2) := by unfold cutZ; rw [if_neg hdb, if_neg hin, if_neg h23, hs]; rfl
            rw [e, if_pos rfl]
            refine G.wlFold (x := x) (d := d) (ω := { ω with doubt := true }) (by (repeat (first | exact Picks.nil | (apply Picks.cons; (repeat (first | exact Pick.here | apply Pick.there)))))) rfl rfl rfl rfl rfl ?_
            exact G.done1 rfl (.cell rfl ag_25 (by (repeat (first | exact Pick.here | apply Pick.there))) rfl) ⟨rfl, rfl⟩ (by (repeat (first | exact Picks.nil | (apply Picks.cons; (repeat (first | exact Pick.here | apply Pick.there)))))) (by (repeat (first | exact Suff.here | apply Suff.there)))
          · refine D.ph ?_
            refine Phases.go [] (by (repeat (first | exact Picks.nil | (apply Picks.cons; (repeat (first | exact Pick.here | apply Pick.there)))))) ?_
            refine D.h rfl (by kernel_rfl) (OpSpec.store rfl rfl rfl sz_25 ?c65 ?c66) (by (repeat (first | exact Picks.nil | (apply Picks.cons; (repeat (first | exact Pick.here | apply Pick.there)))))) ?nx67
            case c65 => first | decide | (simp; omega) | simp
            case c66 => exact nfz0 _ _
            rintro v L' rfl
            refine D.ph ?_
            refine Phases.fin ?_
            refine G.ptCast (b := be) (l' := [vint 0]) (by (repeat (first | exact Pick.here | apply Pick.there))) rfl ?_
            refine G.then_n ?_
            refine G.ret ?_
            refine G.doneD Try.func81 rfl rfl (doubts_spec x d vr' _ vb' _ _ _ _ _ be 0) (by (repeat (first | exact Picks.nil | (apply Picks.cons; (repeat (first | exact Pick.here | apply Pick.there)))))) ?_
            rintro u L' ⟨rfl, rfl⟩
            have e : cutZ δ ω n = (δ', { ω with recs := ω.recs.take n.toNat, synced := (ω.recs.take n.toNat).length, count := ω.count + 1 }, 0) := by unfold cutZ; rw [if_neg hdb, if_neg hin, if_neg h23, hs]; rfl
            rw [e, if_neg (show ¬ (0 : Int) = 2 by decide)]
            refine G.wlFold (x := x) (d := d) (ω := { ω with recs := ω.recs.take n.toNat, synced := (ω.recs.take n.toNat).length, count := ω.count + 1 }) (by (repeat (first | exact Picks.nil | (apply Picks.cons; (repeat (first | exact Pick.here | apply Pick.there)))))) rfl rfl rfl rfl rfl ?_
            exact G.done1 rfl (.cell rfl ag_25 (by (repeat (first | exact Pick.here | apply Pick.there))) rfl) ⟨rfl, rfl⟩ (by (repeat (first | exact Picks.nil | (apply Picks.cons; (repeat (first | exact Pick.here | apply Pick.there)))))) (by (repeat (first | exact Suff.here | apply Suff.there)))

set_option maxRecDepth 100000 in
theorem wmark_spec (x d : Nat) (ω : Wl) (δ : Dk) (a b : Int) (hI : WlI δ ω) : Fn Try.prog 79 #[vptr x, vint a, vint b] [wlR x d ω, dkR d δ] fun v L => v = vint (setmZ δ ω a b).2.2 ∧ L = [wlR x d (setmZ δ ω a b).2.1, dkR d (setmZ δ ω a b).1] := by
  refine Fn.introD (vs := [vptr x, vint a, vint b]) Try.func79 rfl rfl ?_
  intro F W
  refine G.wlOpen (ω := ω) (by (repeat (first | exact Pick.here | apply Pick.there))) fun vr vb => ?_
  refine G.slAny (v := vr) (by (repeat (first | exact Pick.here | apply Pick.there))) fun arr crr e _ => ?_
  subst e
  refine G.slAny (v := vb) (by (repeat (first | exact Pick.here | apply Pick.there))) fun abb cbb e _ => ?_
  subst e
  refine G.slAddr (T := 9) (by (repeat (first | exact Pick.here | apply Pick.there))) fun hrc hra => ?_
  obtain ⟨hn, hA, har, hct, hsy, hfit⟩ := hI
  have hh := half_le hn
  have hll := laidZ_many ω.recs
  refine G.seq ?_
  refine G.region ?_
  refine G.op (OpSpec.alloc ze_25) (by (repeat (first | exact Picks.nil | (apply Picks.cons; (repeat (first | exact Pick.here | apply Pick.there)))))) rfl ?nx1
  rintro v L' ⟨be, rfl, rfl⟩
  refine G.nil ?_
  refine G.ptCast (b := be) (l' := [vint 0]) (by (repeat (first | exact Pick.here | apply Pick.there))) rfl ?_
  refine G.then_n ?_
  refine G.seq ?_
  refine G.region ?_
  refine G.q (Quiet.move rfl) rfl ?_
  refine G.defer (vs := [_, _]) rfl ?_
  refine G.nil ?_
  refine G.then_n ?_
  refine G.seq ?_
  refine G.block ?_
  refine G.seq ?_
  refine G.region ?_
  refine G.q (Quiet.move rfl) rfl ?_
  refine G.q (Quiet.nilp rfl) rfl ?_
  refine G.q (Quiet.fieldAddr rfl fo_118_8) rfl ?_
  refine G.q (Quiet.load rfl ag_4 (by (repeat (first | exact Pick.here | apply Pick.there))) (rfl)) rfl ?_
  refine G.q (Quiet.assign rfl) rfl ?_
  refine G.nil ?_
  refine G.then_n ?_
  refine G.condB rfl (fun h9 => ?_) (fun h9 => ?_)
  · refine G.seq ?_
    refine G.region ?_
    refine G.op (OpSpec.store rfl rfl rfl sz_25 ?c8 ?c9) (by (repeat (first | exact Picks.nil | (apply Picks.cons; (repeat (first | exact Pick.here | apply Pick.there)))))) rfl ?nx10
    case c8 => first | decide | (simp; omega) | simp
    case c9 => exact nfz0 _ _
    rintro v L' rfl
    refine G.nil ?_
    refine G.ptCast (b := be) (l' := [vint 34]) (by (repeat (first | exact Pick.here | apply Pick.there))) rfl ?_
    refine G.then_n ?_
    refine G.ret ?_
    refine G.blk_r ?_
    refine G.then_r ?_
    refine G.doneD Try.func81 rfl rfl (doubts_spec x d (.slice arr ω.recs.length crr) ω.synced (.slice abb (laidZ ω.recs).length cbb) ω.area ω.count ω.a ω.b ω.doubt be 34) (by (repeat (first | exact Picks.nil | (apply Picks.cons; (repeat (first | exact Pick.here | apply Pick.there)))))) ?_
    rintro u L' ⟨rfl, rfl⟩
    have e : setmZ δ ω a b = (δ, ω, 34) := by unfold setmZ; rw [if_pos h9]
    rw [e, if_neg (show ¬ (34 : Int) = 2 by decide)]
    refine G.wlFold (x := x) (d := d) (ω := ω) (by (repeat (first | exact Picks.nil | (apply Picks.cons; (repeat (first | exact Pick.here | apply Pick.there)))))) rfl rfl rfl rfl rfl ?_
    exact G.done1 rfl (.cell rfl ag_25 (by (repeat (first | exact Pick.here | apply Pick.there))) rfl) ⟨rfl, rfl⟩ (by (repeat (first | exact Picks.nil | (apply Picks.cons; (repeat (first | exact Pick.here | apply Pick.there)))))) (by (repeat (first | exact Suff.here | apply Suff.there)))
  · have hdb : ¬ ω.doubt = true := by rw [h9]; decide
    refine G.seq ?_
    refine G.region ?_
    refine G.q (Quiet.move rfl) rfl ?_
    refine G.q (Quiet.int rfl rfl rfl) rfl ?_
    refine G.q (Quiet.move rfl) rfl ?_
    refine G.dec (t := 17) rfl (fun h4_17 => ?_) (fun h4_17 => ?_)
    · refine G.kDT (t := 16) rfl h4_17 ?_
      refine G.gskip (t := 17) rfl rfl rfl rfl ?_
      refine G.gskip (t := 17) rfl rfl rfl rfl ?_
      refine G.q (Quiet.pickT rfl rfl) rfl ?_
      refine G.q (Quiet.assign rfl) rfl ?_
      refine G.nil ?_
      refine G.then_n ?_
      refine G.condT rfl ?_
      refine G.seq ?_
      refine G.region ?_
      refine G.op (OpSpec.store rfl rfl rfl sz_25 ?c14 ?c15) (by (repeat (first | exact Picks.nil | (apply Picks.cons; (repeat (first | exact Pick.here | apply Pick.there)))))) rfl ?nx16
      case c14 => first | decide | (simp; omega) | simp
      case c15 => exact nfz0 _ _
      rintro v L' rfl
      refine G.nil ?_
      refine G.ptCast (b := be) (l' := [vint 1]) (by (repeat (first | exact Pick.here | apply Pick.there))) rfl ?_
      refine G.then_n ?_
      refine G.ret ?_
      refine G.blk_r ?_
      refine G.then_r ?_
      refine G.doneD Try.func81 rfl rfl (doubts_spec x d (.slice arr ω.recs.length crr) ω.synced (.slice abb (laidZ ω.recs).length cbb) ω.area ω.count ω.a ω.b ω.doubt be 1) (by (repeat (first | exact Picks.nil | (apply Picks.cons; (repeat (first | exact Pick.here | apply Pick.there)))))) ?_
      rintro u L' ⟨rfl, rfl⟩
      have e : setmZ δ ω a b = (δ, ω, 1) := by unfold setmZ; rw [if_neg hdb, if_pos (by first | exact .inl h4_17 | exact .inr h14)]
      rw [e, if_neg (show ¬ (1 : Int) = 2 by decide)]
      refine G.wlFold (x := x) (d := d) (ω := ω) (by (repeat (first | exact Picks.nil | (apply Picks.cons; (repeat (first | exact Pick.here | apply Pick.there)))))) rfl rfl rfl rfl rfl ?_
      exact G.done1 rfl (.cell rfl ag_25 (by (repeat (first | exact Pick.here | apply Pick.there))) rfl) ⟨rfl, rfl⟩ (by (repeat (first | exact Picks.nil | (apply Picks.cons; (repeat (first | exact Pick.here | apply Pick.there)))))) (by (repeat (first | exact Suff.here | apply Suff.there)))
    · refine G.kDF (t := 16) rfl h4_17 ?_
      refine G.grun (t := 17) rfl rfl rfl ?_
      refine G.q (Quiet.move rfl) rfl ?_
      refine G.grun (t := 17) rfl rfl rfl ?_
      refine G.q (Quiet.int rfl rfl rfl) rfl ?_
      refine G.q (Quiet.pickF rfl rfl) rfl ?_
      refine G.q (Quiet.assign rfl) rfl ?_
      refine G.nil ?_
      refine G.then_n ?_
      refine G.condD rfl (fun h14 => ?_) (fun h14 => ?_)
      · refine G.seq ?_
        refine G.region ?_
        refine G.op (OpSpec.store rfl rfl rfl sz_25 ?c19 ?c20) (by (repeat (first | exact Picks.nil | (apply Picks.cons; (repeat (first | exact Pick.here | apply Pick.there)))))) rfl ?nx21
        case c19 => first | decide | (simp; omega) | simp
        case c20 => exact nfz0 _ _
        rintro v L' rfl
        refine G.nil ?_
        refine G.ptCast (b := be) (l' := [vint 1]) (by (repeat (first | exact Pick.here | apply Pick.there))) rfl ?_
        refine G.then_n ?_
        refine G.ret ?_
        refine G.blk_r ?_
        refine G.then_r ?_
        refine G.doneD Try.func81 rfl rfl (doubts_spec x d (.slice arr ω.recs.length crr) ω.synced (.slice abb (laidZ ω.recs).length cbb) ω.area ω.count ω.a ω.b ω.doubt be 1) (by (repeat (first | exact Picks.nil | (apply Picks.cons; (repeat (first | exact Pick.here | apply Pick.there)))))) ?_
        rintro u L' ⟨rfl, rfl⟩
        have e : setmZ δ ω a b = (δ, ω, 1) := by unfold setmZ; rw [if_neg hdb, if_pos (by first | exact .inl h4_17 | exact .inr h14)]
        rw [e, if_neg (show ¬ (1 : Int) = 2 by decide)]
        refine G.wlFold (x := x) (d := d) (ω := ω) (by (repeat (first | exact Picks.nil | (apply Picks.cons; (repeat (first | exact Pick.here | apply Pick.there)))))) rfl rfl rfl rfl rfl ?_
        exact G.done1 rfl (.cell rfl ag_25 (by (repeat (first | exact Pick.here | apply Pick.there))) rfl) ⟨rfl, rfl⟩ (by (repeat (first | exact Picks.nil | (apply Picks.cons; (repeat (first | exact Pick.here | apply Pick.there)))))) (by (repeat (first | exact Suff.here | apply Suff.there)))
      · refine G.seq ?_
        have hin : ¬ (a < 0 ∨ b < 0) := by rintro (h | h) <;> omega
        have htl := laidZ_take_len ω.recs ω.synced.toNat
        have hkl : (ω.recs.take ω.synced.toNat).length = ω.synced.toNat := by rw [List.length_take]; omega
        refine G.region ?_
        refine G.q (Quiet.move rfl) rfl ?_
        refine G.q (Quiet.nilp rfl) rfl ?_
        refine G.q (Quiet.fieldAddr rfl fo_118_5) rfl ?_
        refine G.q (Quiet.load rfl ag_3 (by (repeat (first | exact Pick.here | apply Pick.there))) (rfl)) rfl ?_
        refine G.q (Quiet.int rfl rfl rfl) rfl ?_
        refine G.q (Quiet.assign rfl) rfl ?_
        refine G.nil ?_
        refine G.then_n ?_
        refine G.condD rfl (fun h21 => ?_) (fun h21 => ?_)
        · refine G.seq ?_
          refine G.region ?_
          refine G.op (OpSpec.store rfl rfl rfl sz_25 ?c27 ?c28) (by (repeat (first | exact Picks.nil | (apply Picks.cons; (repeat (first | exact Pick.here | apply Pick.there)))))) rfl ?nx29
          case c27 => first | decide | (simp; omega) | simp
          case c28 => exact nfz0 _ _
          rintro v L' rfl
          refine G.nil ?_
          refine G.ptCast (b := be) (l' := [vint 30]) (by (repeat (first | exact Pick.here | apply Pick.there))) rfl ?_
          refine G.then_n ?_
          refine G.ret ?_
          refine G.blk_r ?_
          refine G.then_r ?_
          refine G.doneD Try.func81 rfl rfl (doubts_spec x d (.slice arr ω.recs.length crr) ω.synced (.slice abb (laidZ ω.recs).length cbb) ω.area ω.count ω.a ω.b ω.doubt be 30) (by (repeat (first | exact Picks.nil | (apply Picks.cons; (repeat (first | exact Pick.here | apply Pick.there)))))) ?_
          rintro u L' ⟨rfl, rfl⟩
          have e : setmZ δ ω a b = (δ, ω, 30) := by unfold setmZ; rw [if_neg hdb, if_neg hin, if_pos h21]
          rw [e, if_neg (show ¬ (30 : Int) = 2 by decide)]
          refine G.wlFold (x := x) (d := d) (ω := ω) (by (repeat (first | exact Picks.nil | (apply Picks.cons; (repeat (first | exact Pick.here | apply Pick.there)))))) rfl rfl rfl rfl rfl ?_
          exact G.done1 rfl (.cell rfl ag_25 (by (repeat (first | exact Pick.here | apply Pick.there))) rfl) ⟨rfl, rfl⟩ (by (repeat (first | exact Picks.nil | (apply Picks.cons; (repeat (first | exact Pick.here | apply Pick.there)))))) (by (repeat (first | exact Suff.here | apply Suff.there)))
        · refine G.skip ?_
          refine G.blk_n ?_
          refine G.then_n ?_
          refine G.seq ?_
          refine G.seq ?_
          refine G.draw [14, 23] [[0, 1, 2, 3, 4, 5, 6, 7, 8, 9, 10, 11, 12, 13, 16, 17, 18, 19, 20, 21, 14, 15, 22], [23], [24]] mixed (by kernel_rfl) ?_
          refine Phases.go [ptc x _ _] (by (repeat (first | exact Picks.nil | (apply Picks.cons; (repeat (first | exact Pick.here | apply Pick.there)))))) ?_
          refine D.q rfl (by kernel_rfl) (Quiet.move rfl) ?_
          refine D.q rfl (by kernel_rfl) (Quiet.move rfl) ?_
          refine D.q rfl (by kernel_rfl) (Quiet.nilp rfl) ?_
          refine D.q rfl (by kernel_rfl) (Quiet.fieldAddr rfl fo_118_4) ?_
          refine D.q rfl (by kernel_rfl) (Quiet.load rfl ag_3 (by (repeat (first | exact Pick.here | apply Pick.there))) (rfl)) ?_
          refine D.qw [6, 7, 8, 13, 14, 15, 22] rfl (by kernel_rfl) (Quiet.move rfl) ?_
          refine D.qw [7, 8, 13, 14, 15, 22] rfl (by kernel_rfl) (Quiet.nilp rfl) ?_
          refine D.qw [8, 13, 14, 15, 22] rfl (by kernel_rfl) (Quiet.fieldAddr rfl fo_118_1) ?_
          refine D.qw [13, 14, 15, 22] rfl (by kernel_rfl) (Quiet.load rfl ag_22 (by (repeat (first | exact Pick.here | apply Pick.there))) (rfl)) ?_
          refine D.qw [10, 11, 12, 13, 14, 15, 22] rfl (by kernel_rfl) (Quiet.move rfl) ?_
          refine D.qw [11, 12, 13, 14, 15, 22] rfl (by kernel_rfl) (Quiet.nilp rfl) ?_
          refine D.qw [12, 13, 14, 15, 22] rfl (by kernel_rfl) (Quiet.fieldAddr rfl fo_118_2) ?_
          refine D.qw [13, 14, 15, 22] rfl (by kernel_rfl) (Quiet.load rfl ag_3 (by (repeat (first | exact Pick.here | apply Pick.there))) (rfl)) ?_
          refine D.qw [14, 15, 22] rfl (by kernel_rfl) (Quiet.slTo (j := ω.synced) rfl el_22 rfl (by omega) hra) ?_
          refine D.q rfl (by kernel_rfl) (Quiet.move rfl) ?_
          refine D.q rfl (by kernel_rfl) (Quiet.nilp rfl) ?_
          refine D.q rfl (by kernel_rfl) (Quiet.fieldAddr rfl fo_118_2) ?_
          refine D.q rfl (by kernel_rfl) (Quiet.load rfl ag_3 (by (repeat (first | exact Pick.here | apply Pick.there))) (rfl)) ?_
          refine D.q rfl (by kernel_rfl) (Quiet.move rfl) ?_
          refine D.q rfl (by kernel_rfl) (Quiet.move rfl) ?_
          refine D.h rfl (by kernel_rfl) (OpSpec.call Try.func118 rfl rfl (vs := [_]) rfl (laid_spec (.slice arr ω.synced.toNat crr) (ω.recs.take ω.synced.toNat) (strR (.slice arr ω.recs.length crr) ω.recs) ?hr50 ?hl51)) (by (repeat (first | exact Picks.nil | (apply Picks.cons; (repeat (first | exact Pick.here | apply Pick.there)))))) ?nx52
          case hr50 => exact rd_take (by omega) rfl
          case hl51 => omega
          rintro v L' ⟨⟨al, cl, rfl⟩, rfl⟩
          refine D.qw [22] rfl (by kernel_rfl) (Quiet.slen rfl Try.underlying31 rfl) ?_
          refine D.qw [] rfl (by kernel_rfl) (Quiet.to (v' := .agg (mkC ⟨0, ω.area, (laidZ (ω.recs.take ω.synced.toNat)).length, ω.synced, a, b⟩).toArray) (Quiet.build (us := [(1, _), (2, _), (3, _), (4, _), (5, _)]) fl_115 ze_115 rfl rfl (by simp [isCell])) rfl) ?_
          refine D.ph ?_
          refine Phases.go [] (by (repeat (first | exact Picks.nil | (apply Picks.cons; (repeat (first | exact Pick.here | apply Pick.there)))))) ?_
          refine D.h rfl (by kernel_rfl) (OpSpec.call Try.func121 rfl rfl (vs := [_, _]) rfl (next_spec x d (.slice arr ω.recs.length crr) ω.synced (.slice abb (laidZ ω.recs).length cbb) ω.area ω.count ω.a ω.b ω.doubt ⟨0, ω.area, (laidZ (ω.recs.take ω.synced.toNat)).length, ω.synced, a, b⟩ δ hct (by omega))) (by (repeat (first | exact Picks.nil | (apply Picks.cons; (repeat (first | exact Pick.here | apply Pick.there)))))) ?nx56
          rintro v L' ⟨rfl, rfl⟩; rw [show (⟨ω.count + 1, ω.area, ((laidZ (ω.recs.take ω.synced.toNat)).length : Int), ω.synced, a, b⟩ : Mk) = (ω.mark ω.area (ω.recs.take ω.synced.toNat) a b) from by unfold Wl.mark; congr 1; omega]
          refine D.ph ?_
          refine Phases.go [] (by (repeat (first | exact Picks.nil | (apply Picks.cons; (repeat (first | exact Pick.here | apply Pick.there)))))) ?_
          refine D.qw [] rfl (by kernel_rfl) (Quiet.assign rfl) ?_
          refine D.ph ?_
          refine Phases.fin ?_
          refine G.then_n ?_
          refine G.seq ?_
          refine G.region ?_
          refine G.q (Quiet.move rfl) rfl ?_
          refine G.q (Quiet.int rfl rfl rfl) rfl ?_
          refine G.nil ?_
          refine G.then_n ?_
          refine G.condN rfl (fun h52 => ?_) (fun h52 => ?_)
          · refine G.seq ?_
            refine G.region ?_
            refine G.q (Quiet.move rfl) rfl ?_
            refine G.op (OpSpec.store rfl rfl rfl sz_25 ?c59 ?c60) (by (repeat (first | exact Picks.nil | (apply Picks.cons; (repeat (first | exact Pick.here | apply Pick.there)))))) rfl ?nx61
            case c59 => first | decide | (simp; omega) | simp
            case c60 => exact nfz0 _ _
            rintro v L' rfl
            refine G.nil ?_
            refine G.ptCast (b := be) (l' := [vint (nextZ δ (ω.mark ω.area (ω.recs.take ω.synced.toNat) a b)).2]) (by (repeat (first | exact Pick.here | apply Pick.there))) rfl ?_
            refine G.then_n ?_
            refine G.ret ?_
            refine G.then_r ?_
            refine G.doneD Try.func81 rfl rfl (doubts_spec x d (.slice arr ω.recs.length crr) ω.synced (.slice abb (laidZ ω.recs).length cbb) ω.area (if (nextZ δ (ω.mark ω.area (ω.recs.take ω.synced.toNat) a b)).2 = 0 then ω.count + 1 else ω.count) ω.a ω.b ω.doubt be (nextZ δ (ω.mark ω.area (ω.recs.take ω.synced.toNat) a b)).2) (by (repeat (first | exact Picks.nil | (apply Picks.cons; (repeat (first | exact Pick.here | apply Pick.there)))))) ?_
            rintro u L' ⟨rfl, rfl⟩
            have h2 : (nextZ δ (ω.mark ω.area (ω.recs.take ω.synced.toNat) a b)).2 = 2 := by rcases (nextZ_keeps δ (ω.mark ω.area (ω.recs.take ω.synced.toNat) a b)).2.2 with h | h; exact absurd h (by simpa using h52); exact h
            have e : setmZ δ ω a b = ((nextZ δ (ω.mark ω.area (ω.recs.take ω.synced.toNat) a b)).1, { ω with doubt := true }, 2) := by unfold setmZ; rw [if_neg hdb, if_neg hin, if_neg h21, if_pos (by simpa using h52), h2]; rfl
            rw [e, h2, if_pos rfl, if_neg (show ¬ (2 : Int) = 0 by decide)]
            refine G.wlFold (x := x) (d := d) (ω := { ω with doubt := true }) (by (repeat (first | exact Picks.nil | (apply Picks.cons; (repeat (first | exact Pick.here | apply Pick.there)))))) rfl rfl rfl rfl rfl ?_
            exact G.done1 rfl (.cell rfl ag_25 (by (repeat (first | exact Pick.here | apply Pick.there))) rfl) ⟨rfl, rfl⟩ (by (repeat (first | exact Picks.nil | (apply Picks.cons; (repeat (first | exact Pick.here | apply Pick.there)))))) (by (repeat (first | exact Suff.here | apply Suff.there)))
          · refine G.skip ?_
            refine G.then_n ?_
            refine G.seq ?_
            refine G.region ?_
            refine G.q (Quiet.move rfl) rfl ?_
            refine G.q (Quiet.move rfl) rfl ?_
            refine G.q (Quiet.move rfl) rfl ?_
            refine G.q (Quiet.move rfl) rfl ?_
            refine G.q (Quiet.nilp rfl) rfl ?_
            refine G.q (Quiet.fieldAddr rfl fo_118_6) rfl ?_
            refine G.op (OpSpec.store rfl rfl rfl sz_3 ?c68 ?c69) (by (repeat (first | exact Picks.nil | (apply Picks.cons; (repeat (first | exact Pick.here | apply Pick.there)))))) rfl ?nx70
            case c68 => first | decide | (simp; omega) | simp
            case c69 => exact nfz0 _ _
            rintro v L' rfl
            refine G.q (Quiet.nilp rfl) rfl ?_
            refine G.q (Quiet.fieldAddr rfl fo_118_7) rfl ?_
            refine G.op (OpSpec.store rfl rfl rfl sz_3 ?c73 ?c74) (by (repeat (first | exact Picks.nil | (apply Picks.cons; (repeat (first | exact Pick.here | apply Pick.there)))))) rfl ?nx75
            case c73 => first | decide | (simp; omega) | simp
            case c74 => exact nfz0 _ _
            rintro v L' rfl
            refine G.nil ?_
            refine G.then_n ?_
            refine G.seq ?_
            refine G.region ?_
            refine G.op (OpSpec.store rfl rfl rfl sz_25 ?c76 ?c77) (by (repeat (first | exact Picks.nil | (apply Picks.cons; (repeat (first | exact Pick.here | apply Pick.there)))))) rfl ?nx78
            case c76 => first | decide | (simp; omega) | simp
            case c77 => exact nfz0 _ _
            rintro v L' rfl
            refine G.nil ?_
            refine G.ptCast (b := be) (l' := [vint 0]) (by (repeat (first | exact Pick.here | apply Pick.there))) rfl ?_
            refine G.then_n ?_
            refine G.ret ?_
            refine G.doneD Try.func81 rfl rfl (doubts_spec x d (.slice arr ω.recs.length crr) ω.synced (.slice abb (laidZ ω.recs).length cbb) ω.area (if (nextZ δ (ω.mark ω.area (ω.recs.take ω.synced.toNat) a b)).2 = 0 then ω.count + 1 else ω.count) a b ω.doubt be 0) (by (repeat (first | exact Picks.nil | (apply Picks.cons; (repeat (first | exact Pick.here | apply Pick.there)))))) ?_
            rintro u L' ⟨rfl, rfl⟩
            have h0 : (nextZ δ (ω.mark ω.area (ω.recs.take ω.synced.toNat) a b)).2 = 0 := by simpa using h52
            have e : setmZ δ ω a b = ((nextZ δ (ω.mark ω.area (ω.recs.take ω.synced.toNat) a b)).1, { ω with a := a, b := b, count := ω.count + 1 }, 0) := by unfold setmZ; rw [if_neg hdb, if_neg hin, if_neg h21, if_neg (by rw [h0]; simp)]
            rw [e, h0, if_pos rfl, if_neg (show ¬ (0 : Int) = 2 by decide)]
            refine G.wlFold (x := x) (d := d) (ω := { ω with a := a, b := b, count := ω.count + 1 }) (by (repeat (first | exact Picks.nil | (apply Picks.cons; (repeat (first | exact Pick.here | apply Pick.there)))))) rfl rfl rfl rfl rfl ?_
            exact G.done1 rfl (.cell rfl ag_25 (by (repeat (first | exact Pick.here | apply Pick.there))) rfl) ⟨rfl, rfl⟩ (by (repeat (first | exact Picks.nil | (apply Picks.cons; (repeat (first | exact Pick.here | apply Pick.there)))))) (by (repeat (first | exact Suff.here | apply Suff.there)))

end Go.Proofs.Ytepncdidkjjllaa
