/- Own work, by program: found, parted: walked. -/
import Derived.Test.YtepncdidkjjllaaWal2
namespace Go.Proofs.Ytepncdidkjjllaa
open Go
set_option maxRecDepth 100000 in
theorem found_spec (d : Nat) (δ : Dk) (n : Int) (hn : 2 ≤ δ.now.length ∧ δ.now.length ≤ 32768) (hok : δ.Ok) : Fn Try.prog 87 #[vptr d, vint n] [dkR d δ] fun v L => v = markV (foundZ δ n) ∧ L = [dkR d δ] := by
  refine Fn.intro (vs := [vptr d, vint n]) Try.func87 rfl rfl ?_
  intro F W
  generalize hrd : δ.read n = rd
  refine G.seq ?_
  refine G.region ?_
  refine G.op (OpSpec.allocA ze_115) (by (repeat (first | exact Picks.nil | (apply Picks.cons; (repeat (first | exact Pick.here | apply Pick.there)))))) rfl ?nx1
  rintro v L' ⟨bm, rfl, rfl⟩
  refine G.q (Quiet.assign rfl) rfl ?_
  refine G.nil ?_
  refine G.then_n ?_
  refine G.seq ?_
  refine G.region ?_
  refine G.q (Quiet.move rfl) rfl ?_
  refine G.q (Quiet.move rfl) rfl ?_
  refine G.op (OpSpec.call Try.func55 rfl rfl (vs := [_, _]) rfl (read_spec d δ n)) (by (repeat (first | exact Picks.nil | (apply Picks.cons; (repeat (first | exact Pick.here | apply Pick.there)))))) rfl ?nx6
  rintro v L' ⟨rfl, rfl⟩; rw [hrd]
  refine G.q (Quiet.move rfl) rfl ?_
  refine G.q (Quiet.extract rfl rfl) rfl ?_
  refine G.q (Quiet.extract rfl rfl) rfl ?_
  refine G.q (Quiet.assign rfl) rfl ?_
  refine G.q (Quiet.assign rfl) rfl ?_
  refine G.nil ?_
  refine G.then_n ?_
  refine G.seq ?_
  refine G.seq ?_
  refine G.region ?_
  refine G.q (Quiet.move rfl) rfl ?_
  refine G.q (Quiet.int rfl rfl rfl) rfl ?_
  refine G.nil ?_
  refine G.then_n ?_
  refine G.condN rfl (fun h16 => ?_) (fun h16 => ?_)
  · refine G.seq ?_
    refine G.region ?_
    refine G.q (Quiet.build (us := []) fl_115 ze_115 rfl rfl (by simp [isCell])) rfl ?_
    refine G.op (OpSpec.storeA rfl rfl ?c12 sz_115 ?c15 ?c13 ?c14) (by (repeat (first | exact Picks.nil | (apply Picks.cons; (repeat (first | exact Pick.here | apply Pick.there)))))) rfl ?nx16
    case c12 => (first | (simp [isCell]; done) | (simp [isCell, setAll, Value.cells]; done))
    case c15 => (first | (simp; done) | (simp [setAll, spl, Value.cells]; done))
    case c13 => (first | (simp; done) | (simp [setAll, spl, Value.cells]; done))
    case c14 => exact nfz0 _ _
    rintro v L' rfl
    refine G.q (Quiet.assign rfl) rfl ?_
    refine G.nil ?_
    refine G.then_n ?_
    refine G.ret ?_
    refine G.then_r ?_
    have e : foundZ δ n = none := by unfold foundZ; rw [if_pos (by rw [hrd]; simpa using h16)]
    rw [e]
    exact G.done2 rfl (.cellA rfl ag_115 (by (repeat (first | exact Pick.here | apply Pick.there))) (by simp [spl, setAll, mkC]) rfl) (.tmp rfl) ⟨rfl, rfl⟩ (by (repeat (first | exact Picks.nil | (apply Picks.cons; (repeat (first | exact Pick.here | apply Pick.there)))))) (by (repeat (first | exact Suff.here | apply Suff.there)))
  · refine G.skip ?_
    refine G.then_n ?_
    refine G.seq ?_
    have hl : rd.1.length = 64 := by rw [← hrd]; exact read_len hok (by rw [hrd]; simpa using h16)
    generalize hs : rd.1 = s at *
    refine G.draw [19, 20] [[0, 1, 2, 3, 4, 5, 6, 7, 8, 9, 10, 11, 12, 13, 14, 15, 16, 17, 18, 19], [20]] mixed (by kernel_rfl) ?_
    refine Phases.go [] (by (repeat (first | exact Picks.nil | (apply Picks.cons; (repeat (first | exact Pick.here | apply Pick.there)))))) ?_
    refine D.q rfl (by kernel_rfl) (Quiet.move rfl) ?_
    refine D.q rfl (by kernel_rfl) (Quiet.to (v' := vstr (sub s 2 6)) (Quiet.strMid (i := 2) (j := 6) rfl rfl rfl Try.underlying9 (by omega)) rfl) ?_
    refine D.m rfl (by kernel_rfl) (OpSpec.call Try.func123 rfl rfl (vs := [_]) rfl (small_spec (sub s 2 6) ?hs19)) (by (repeat (first | exact Picks.nil | (apply Picks.cons; (repeat (first | exact Pick.here | apply Pick.there)))))) ?nx20
    case hs19 => rw [sub_len (by omega)]; decide
    refine D.q rfl (by kernel_rfl) (Quiet.move rfl) ?_
    refine D.q rfl (by kernel_rfl) (Quiet.to (v' := vstr (sub s 6 7)) (Quiet.strMid (i := 6) (j := 7) rfl rfl rfl Try.underlying9 (by omega)) rfl) ?_
    refine D.m rfl (by kernel_rfl) (OpSpec.call Try.func123 rfl rfl (vs := [_]) rfl (small_spec (sub s 6 7) ?hs23)) (by (repeat (first | exact Picks.nil | (apply Picks.cons; (repeat (first | exact Pick.here | apply Pick.there)))))) ?nx24
    case hs23 => rw [sub_len (by omega)]; decide
    refine D.q rfl (by kernel_rfl) (Quiet.move rfl) ?_
    refine D.q rfl (by kernel_rfl) (Quiet.to (v' := vstr (sub s 7 11)) (Quiet.strMid (i := 7) (j := 11) rfl rfl rfl Try.underlying9 (by omega)) rfl) ?_
    refine D.m rfl (by kernel_rfl) (OpSpec.call Try.func123 rfl rfl (vs := [_]) rfl (small_spec (sub s 7 11) ?hs27)) (by (repeat (first | exact Picks.nil | (apply Picks.cons; (repeat (first | exact Pick.here | apply Pick.there)))))) ?nx28
    case hs27 => rw [sub_len (by omega)]; decide
    refine D.q rfl (by kernel_rfl) (Quiet.move rfl) ?_
    refine D.q rfl (by kernel_rfl) (Quiet.to (v' := vstr (sub s 11 15)) (Quiet.strMid (i := 11) (j := 15) rfl rfl rfl Try.underlying9 (by omega)) rfl) ?_
    refine D.m rfl (by kernel_rfl) (OpSpec.call Try.func123 rfl rfl (vs := [_]) rfl (small_spec (sub s 11 15) ?hs31)) (by (repeat (first | exact Picks.nil | (apply Picks.cons; (repeat (first | exact Pick.here | apply Pick.there)))))) ?nx32
    case hs31 => rw [sub_len (by omega)]; decide
    refine D.q rfl (by kernel_rfl) (Quiet.move rfl) ?_
    refine D.q rfl (by kernel_rfl) (Quiet.to (v' := vstr (sub s 15 23)) (Quiet.strMid (i := 15) (j := 23) rfl rfl rfl Try.underlying9 (by omega)) rfl) ?_
    refine D.m rfl (by kernel_rfl) (OpSpec.call Try.func123 rfl rfl (vs := [_]) rfl (small_spec (sub s 15 23) ?hs35)) (by (repeat (first | exact Picks.nil | (apply Picks.cons; (repeat (first | exact Pick.here | apply Pick.there)))))) ?nx36
    case hs35 => rw [sub_len (by omega)]; decide
    refine D.q rfl (by kernel_rfl) (Quiet.move rfl) ?_
    refine D.q rfl (by kernel_rfl) (Quiet.to (v' := vstr (sub s 23 31)) (Quiet.strMid (i := 23) (j := 31) rfl rfl rfl Try.underlying9 (by omega)) rfl) ?_
    refine D.m rfl (by kernel_rfl) (OpSpec.call Try.func123 rfl rfl (vs := [_]) rfl (small_spec (sub s 23 31) ?hs39)) (by (repeat (first | exact Picks.nil | (apply Picks.cons; (repeat (first | exact Pick.here | apply Pick.there)))))) ?nx40
    case hs39 => rw [sub_len (by omega)]; decide
    refine D.q rfl (by kernel_rfl) (Quiet.build (us := [(0, _), (1, _), (2, _), (3, _), (4, _), (5, _)]) fl_115 ze_115 rfl rfl (by simp [isCell])) ?_
    refine D.h rfl (by kernel_rfl) (OpSpec.allocA ze_115) (by (repeat (first | exact Picks.nil | (apply Picks.cons; (repeat (first | exact Pick.here | apply Pick.there)))))) ?nx43
    rintro v L' ⟨b8, rfl, rfl⟩
    refine D.ph ?_
    refine Phases.go [] (by (repeat (first | exact Picks.nil | (apply Picks.cons; (repeat (first | exact Pick.here | apply Pick.there)))))) ?_
    refine D.h rfl (by kernel_rfl) (OpSpec.storeA rfl rfl ?c45 sz_115 ?c48 ?c46 ?c47) (by (repeat (first | exact Picks.nil | (apply Picks.cons; (repeat (first | exact Pick.here | apply Pick.there)))))) ?nx49
    case c45 => (first | (simp [isCell]; done) | (simp [isCell, setAll, Value.cells]; done))
    case c48 => (first | (simp; done) | (simp [setAll, spl, Value.cells]; done))
    case c46 => (first | (simp; done) | (simp [setAll, spl, Value.cells]; done))
    case c47 => exact nfz0 _ _
    rintro v L' rfl
    refine D.ph ?_
    refine Phases.fin ?_
    refine G.ptCast (l' := mkC (parseZ s)) (by (repeat (first | exact Pick.here | apply Pick.there))) rfl ?_
    have hu0 := smallZ_nonneg (s := sub s 7 11) (by rw [sub_len (by omega)]; decide)
    generalize hm : parseZ s = m
    have hln : 0 ≤ m.len := by rw [← hm]; exact hu0.1
    refine G.then_n ?_
    refine G.seq ?_
    refine G.seq ?_
    refine G.draw [] [[0, 1, 2, 3, 4, 5, 6, 7, 8, 9, 10, 11, 12, 13, 14, 15, 16, 17, 18, 19, 20, 21, 22, 23, 24, 25, 26, 27, 28, 29, 30, 31, 32, 33, 34, 35, 36, 37, 38]] mixed (by kernel_rfl) ?_
    refine Phases.go [ptc b8 _ _, dkR d δ] (by (repeat (first | exact Picks.nil | (apply Picks.cons; (repeat (first | exact Pick.here | apply Pick.there)))))) ?_
    refine D.qw [1, 2, 3, 4, 5, 6, 7, 8, 9, 10, 11, 12, 13, 14, 15, 16, 17, 18, 19, 20, 21, 22, 23, 24, 25, 26, 27, 28, 29, 30, 31, 32, 33, 34, 35, 36, 37, 38] rfl (by kernel_rfl) (Quiet.fieldAddr rfl fo_115_0) ?_
    refine D.qw [2, 3, 4, 5, 6, 7, 8, 9, 10, 11, 12, 13, 14, 15, 16, 17, 18, 19, 20, 21, 22, 23, 24, 25, 26, 27, 28, 29, 30, 31, 32, 33, 34, 35, 36, 37, 38] rfl (by kernel_rfl) (Quiet.load rfl ag_3 (by (repeat (first | exact Pick.here | apply Pick.there))) (rfl)) ?_
    refine D.qw [3, 4, 5, 6, 7, 8, 9, 10, 11, 12, 13, 14, 15, 16, 17, 18, 19, 20, 21, 22, 23, 24, 25, 26, 27, 28, 29, 30, 31, 32, 33, 34, 35, 36, 37, 38] rfl (by kernel_rfl) (Quiet.int rfl rfl rfl) ?_
    refine D.qw [4, 5, 6, 7, 8, 9, 10, 11, 12, 13, 14, 15, 16, 17, 18, 19, 20, 21, 22, 23, 24, 25, 26, 27, 28, 29, 30, 31, 32, 33, 34, 35, 36, 37, 38] rfl (by kernel_rfl) (Quiet.move rfl) ?_
    refine D.dec (t := 40) rfl (fun h5_40 => ?_) (fun h5_40 => ?_)
    · refine D.kDT (t := 39) rfl h5_40 ?_
      refine D.gs (t := 40) rfl rfl rfl rfl (by kernel_rfl) ?_
      refine D.gs (t := 40) rfl rfl rfl rfl (by kernel_rfl) ?_
      refine D.gs (t := 40) rfl rfl rfl rfl (by kernel_rfl) ?_
      refine D.gs (t := 40) rfl rfl rfl rfl (by kernel_rfl) ?_
      refine D.gs (t := 40) rfl rfl rfl rfl (by kernel_rfl) ?_
      refine D.qw [10, 11, 12, 13, 14, 15, 16, 17, 18, 19, 20, 21, 22, 23, 24, 25, 26, 27, 28, 29, 30, 31, 32, 33, 34, 35, 36, 37, 38] rfl (by kernel_rfl) (Quiet.pickT rfl rfl) ?_
      refine D.qw [11, 12, 13, 14, 15, 16, 17, 18, 19, 20, 21, 22, 23, 24, 25, 26, 27, 28, 29, 30, 31, 32, 33, 34, 35, 36, 37, 38] rfl (by kernel_rfl) (Quiet.move rfl) ?_
      refine D.gs (t := 47) rfl rfl rfl rfl (by kernel_rfl) ?_
      refine D.gs (t := 47) rfl rfl rfl rfl (by kernel_rfl) ?_
      refine D.gs (t := 47) rfl rfl rfl rfl (by kernel_rfl) ?_
      refine D.qw [15, 16, 17, 18, 19, 20, 21, 22, 23, 24, 25, 26, 27, 28, 29, 30, 31, 32, 33, 34, 35, 36, 37, 38] rfl (by kernel_rfl) (Quiet.pickT rfl rfl) ?_
      refine D.qw [16, 17, 18, 19, 20, 21, 22, 23, 24, 25, 26, 27, 28, 29, 30, 31, 32, 33, 34, 35, 36, 37, 38] rfl (by kernel_rfl) (Quiet.move rfl) ?_
      refine D.gs (t := 52) rfl rfl rfl rfl (by kernel_rfl) ?_
      refine D.gs (t := 52) rfl rfl rfl rfl (by kernel_rfl) ?_
      refine D.gs (t := 52) rfl rfl rfl rfl (by kernel_rfl) ?_
      refine D.gs (t := 52) rfl rfl rfl rfl (by kernel_rfl) ?_
      refine D.gs (t := 52) rfl rfl rfl rfl (by kernel_rfl) ?_
      refine D.gs (t := 52) rfl rfl rfl rfl (by kernel_rfl) ?_
      refine D.qw [23, 24, 25, 26, 27, 28, 29, 30, 31, 32, 33, 34, 35, 36, 37, 38] rfl (by kernel_rfl) (Quiet.pickT rfl rfl) ?_
      refine D.qw [24, 25, 26, 27, 28, 29, 30, 31, 32, 33, 34, 35, 36, 37, 38] rfl (by kernel_rfl) (Quiet.move rfl) ?_
      refine D.gs (t := 60) rfl rfl rfl rfl (by kernel_rfl) ?_
      refine D.gs (t := 60) rfl rfl rfl rfl (by kernel_rfl) ?_
      refine D.gs (t := 60) rfl rfl rfl rfl (by kernel_rfl) ?_
      refine D.qw [28, 29, 30, 31, 32, 33, 34, 35, 36, 37, 38] rfl (by kernel_rfl) (Quiet.pickT rfl rfl) ?_
      refine D.qw [29, 30, 31, 32, 33, 34, 35, 36, 37, 38] rfl (by kernel_rfl) (Quiet.move rfl) ?_
      refine D.gs (t := 65) rfl rfl rfl rfl (by kernel_rfl) ?_
      refine D.gs (t := 65) rfl rfl rfl rfl (by kernel_rfl) ?_
      refine D.gs (t := 65) rfl rfl rfl rfl (by kernel_rfl) ?_
      refine D.qw [33, 34, 35, 36, 37, 38] rfl (by kernel_rfl) (Quiet.pickT rfl rfl) ?_
      refine D.qw [34, 35, 36, 37, 38] rfl (by kernel_rfl) (Quiet.move rfl) ?_
      refine D.gs (t := 70) rfl rfl rfl rfl (by kernel_rfl) ?_
      refine D.gs (t := 70) rfl rfl rfl rfl (by kernel_rfl) ?_
      refine D.gs (t := 70) rfl rfl rfl rfl (by kernel_rfl) ?_
      refine D.gs (t := 70) rfl rfl rfl rfl (by kernel_rfl) ?_
      refine D.qw [] rfl (by kernel_rfl) (Quiet.pickT rfl rfl) ?_
      refine D.ph ?_
      refine Phases.fin ?_
      refine G.then_n ?_
      refine G.condT rfl ?_
      refine G.seq ?_
      refine G.region ?_
      refine G.q (Quiet.build (us := []) fl_115 ze_115 rfl rfl (by simp [isCell])) rfl ?_
      refine G.op (OpSpec.storeA rfl rfl ?c60 sz_115 ?c63 ?c61 ?c62) (by (repeat (first | exact Picks.nil | (apply Picks.cons; (repeat (first | exact Pick.here | apply Pick.there)))))) rfl ?nx64
      case c60 => (first | (simp [isCell]; done) | (simp [isCell, setAll, Value.cells]; done))
      case c63 => (first | (simp; done) | (simp [setAll, spl, Value.cells]; done))
      case c61 => (first | (simp; done) | (simp [setAll, spl, Value.cells]; done))
      case c62 => exact nfz0 _ _
      rintro v L' rfl
      refine G.q (Quiet.assign rfl) rfl ?_
      refine G.nil ?_
      refine G.then_n ?_
      refine G.ret ?_
      refine G.then_r ?_
      have e : foundZ δ n = none := by unfold foundZ; rw [if_neg (by rw [hrd]; simpa using h16), if_pos (by rw [hrd, hs, hm]; unfold badMk; first | exact .inl h5_40 | (refine .inr ?_; first | exact .inl (by simpa using h5_47) | (refine .inr ?_; first | exact .inl h5_52 | (refine .inr ?_; first | exact .inl h5_60 | (refine .inr ?_; first | exact .inl h5_65 | (refine .inr ?_; first | exact .inl h5_70 | exact .inr (by simpa using h75)))))))]
      rw [e]
      exact G.done2 rfl (.cellA rfl ag_115 (by (repeat (first | exact Pick.here | apply Pick.there))) (by simp [spl, setAll, mkC]) rfl) (.tmp rfl) ⟨rfl, rfl⟩ (by (repeat (first | exact Picks.nil | (apply Picks.cons; (repeat (first | exact Pick.here | apply Pick.there)))))) (by (repeat (first | exact Suff.here | apply Suff.there)))
    · refine D.kDF (t := 39) rfl h5_40 ?_
      refine D.gqw [5, 6, 8, 9, 10, 11, 12, 13, 14, 15, 16, 17, 18, 19, 20, 21, 22, 23, 24, 25, 26, 27, 28, 29, 30, 31, 32, 33, 34, 35, 36, 37, 38] (t := 40) rfl rfl rfl (by kernel_rfl) (Quiet.fieldAddr rfl fo_115_0) ?_
      refine D.gqw [6, 8, 9, 10, 11, 12, 13, 14, 15, 16, 17, 18, 19, 20, 21, 22, 23, 24, 25, 26, 27, 28, 29, 30, 31, 32, 33, 34, 35, 36, 37, 38] (t := 40) rfl rfl rfl (by kernel_rfl) (Quiet.load rfl ag_3 (by (repeat (first | exact Pick.here | apply Pick.there))) (rfl)) ?_
      refine D.gqw [8, 9, 10, 11, 12, 13, 14, 15, 16, 17, 18, 19, 20, 21, 22, 23, 24, 25, 26, 27, 28, 29, 30, 31, 32, 33, 34, 35, 36, 37, 38] (t := 40) rfl rfl rfl (by kernel_rfl) (Quiet.remE rfl rfl (by omega) (by decide)) ?_
      refine D.gqw [8, 9, 10, 11, 12, 13, 14, 15, 16, 17, 18, 19, 20, 21, 22, 23, 24, 25, 26, 27, 28, 29, 30, 31, 32, 33, 34, 35, 36, 37, 38] (t := 40) rfl rfl rfl (by kernel_rfl) (Quiet.move rfl) ?_
      refine D.gqw [9, 10, 11, 12, 13, 14, 15, 16, 17, 18, 19, 20, 21, 22, 23, 24, 25, 26, 27, 28, 29, 30, 31, 32, 33, 34, 35, 36, 37, 38] (t := 40) rfl rfl rfl (by kernel_rfl) (Quiet.int rfl rfl rfl) ?_
      refine D.qw [10, 11, 12, 13, 14, 15, 16, 17, 18, 19, 20, 21, 22, 23, 24, 25, 26, 27, 28, 29, 30, 31, 32, 33, 34, 35, 36, 37, 38] rfl (by kernel_rfl) (Quiet.pickF rfl rfl) ?_
      refine D.qw [11, 12, 13, 14, 15, 16, 17, 18, 19, 20, 21, 22, 23, 24, 25, 26, 27, 28, 29, 30, 31, 32, 33, 34, 35, 36, 37, 38] rfl (by kernel_rfl) (Quiet.move rfl) ?_
      refine D.ndec (t := 47) rfl (fun h5_47 => ?_) (fun h5_47 => ?_)
      · refine D.kNT (t := 45) rfl h5_47 ?_
        refine D.kNT (t := 46) rfl h5_47 ?_
        refine D.gs (t := 47) rfl rfl rfl rfl (by kernel_rfl) ?_
        refine D.gs (t := 47) rfl rfl rfl rfl (by kernel_rfl) ?_
        refine D.gs (t := 47) rfl rfl rfl rfl (by kernel_rfl) ?_
        refine D.qw [15, 16, 17, 18, 19, 20, 21, 22, 23, 24, 25, 26, 27, 28, 29, 30, 31, 32, 33, 34, 35, 36, 37, 38] rfl (by kernel_rfl) (Quiet.pickT rfl rfl) ?_
        refine D.qw [16, 17, 18, 19, 20, 21, 22, 23, 24, 25, 26, 27, 28, 29, 30, 31, 32, 33, 34, 35, 36, 37, 38] rfl (by kernel_rfl) (Quiet.move rfl) ?_
        refine D.gs (t := 52) rfl rfl rfl rfl (by kernel_rfl) ?_
        refine D.gs (t := 52) rfl rfl rfl rfl (by kernel_rfl) ?_
        refine D.gs (t := 52) rfl rfl rfl rfl (by kernel_rfl) ?_
        refine D.gs (t := 52) rfl rfl rfl rfl (by kernel_rfl) ?_
        refine D.gs (t := 52) rfl rfl rfl rfl (by kernel_rfl) ?_
        refine D.gs (t := 52) rfl rfl rfl rfl (by kernel_rfl) ?_
        refine D.qw [23, 24, 25, 26, 27, 28, 29, 30, 31, 32, 33, 34, 35, 36, 37, 38] rfl (by kernel_rfl) (Quiet.pickT rfl rfl) ?_
        refine D.qw [24, 25, 26, 27, 28, 29, 30, 31, 32, 33, 34, 35, 36, 37, 38] rfl (by kernel_rfl) (Quiet.move rfl) ?_
        refine D.gs (t := 60) rfl rfl rfl rfl (by kernel_rfl) ?_
        refine D.gs (t := 60) rfl rfl rfl rfl (by kernel_rfl) ?_
        refine D.gs (t := 60) rfl rfl rfl rfl (by kernel_rfl) ?_
        refine D.qw [28, 29, 30, 31, 32, 33, 34, 35, 36, 37, 38] rfl (by kernel_rfl) (Quiet.pickT rfl rfl) ?_
        refine D.qw [29, 30, 31, 32, 33, 34, 35, 36, 37, 38] rfl (by kernel_rfl) (Quiet.move rfl) ?_
        refine D.gs (t := 65) rfl rfl rfl rfl (by kernel_rfl) ?_
        refine D.gs (t := 65) rfl rfl rfl rfl (by kernel_rfl) ?_
        refine D.gs (t := 65) rfl rfl rfl rfl (by kernel_rfl) ?_
        refine D.qw [33, 34, 35, 36, 37, 38] rfl (by kernel_rfl) (Quiet.pickT rfl rfl) ?_
        refine D.qw [34, 35, 36, 37, 38] rfl (by kernel_rfl) (Quiet.move rfl) ?_
        refine D.gs (t := 70) rfl rfl rfl rfl (by kernel_rfl) ?_
        refine D.gs (t := 70) rfl rfl rfl rfl (by kernel_rfl) ?_
        refine D.gs (t := 70) rfl rfl rfl rfl (by kernel_rfl) ?_
        refine D.gs (t := 70) rfl rfl rfl rfl (by kernel_rfl) ?_
        refine D.qw [] rfl (by kernel_rfl) (Quiet.pickT rfl rfl) ?_
        refine D.ph ?_
        refine Phases.fin ?_
        refine G.then_n ?_
        refine G.condT rfl ?_
        refine G.seq ?_
        refine G.region ?_
        refine G.q (Quiet.build (us := []) fl_115 ze_115 rfl rfl (by simp [isCell])) rfl ?_
        refine G.op (OpSpec.storeA rfl rfl ?c77 sz_115 ?c80 ?c78 ?c79) (by (repeat (first | exact Picks.nil | (apply Picks.cons; (repeat (first | exact Pick.here | apply Pick.there)))))) rfl ?nx81
        case c77 => (first | (simp [isCell]; done) | (simp [isCell, setAll, Value.cells]; done))
        case c80 => (first | (simp; done) | (simp [setAll, spl, Value.cells]; done))
        case c78 => (first | (simp; done) | (simp [setAll, spl, Value.cells]; done))
        case c79 => exact nfz0 _ _
        rintro v L' rfl
        refine G.q (Quiet.assign rfl) rfl ?_
        refine G.nil ?_
        refine G.then_n ?_
        refine G.ret ?_
        refine G.then_r ?_
        have e : foundZ δ n = none := by unfold foundZ; rw [if_neg (by rw [hrd]; simpa using h16), if_pos (by rw [hrd, hs, hm]; unfold badMk; first | exact .inl h5_40 | (refine .inr ?_; first | exact .inl (by simpa using h5_47) | (refine .inr ?_; first | exact .inl h5_52 | (refine .inr ?_; first | exact .inl h5_60 | (refine .inr ?_; first | exact .inl h5_65 | (refine .inr ?_; first | exact .inl h5_70 | exact .inr (by simpa using h75)))))))]
        rw [e]
        exact G.done2 rfl (.cellA rfl ag_115 (by (repeat (first | exact Pick.here | apply Pick.there))) (by simp [spl, setAll, mkC]) rfl) (.tmp rfl) ⟨rfl, rfl⟩ (by (repeat (first | exact Picks.nil | (apply Picks.cons; (repeat (first | exact Pick.here | apply Pick.there)))))) (by (repeat (first | exact Suff.here | apply Suff.there)))
      · refine D.kNF (t := 45) rfl h5_47 ?_
        refine D.kNF (t := 46) rfl h5_47 ?_
        refine D.gqw [12, 13, 14, 15, 16, 17, 18, 19, 20, 21, 22, 23, 24, 25, 26, 27, 28, 29, 30, 31, 32, 33, 34, 35, 36, 37, 38] (t := 47) rfl rfl rfl (by kernel_rfl) (Quiet.fieldAddr rfl fo_115_1) ?_
        refine D.gqw [13, 14, 15, 16, 17, 18, 19, 20, 21, 22, 23, 24, 25, 26, 27, 28, 29, 30, 31, 32, 33, 34, 35, 36, 37, 38] (t := 47) rfl rfl rfl (by kernel_rfl) (Quiet.load rfl ag_3 (by (repeat (first | exact Pick.here | apply Pick.there))) (rfl)) ?_
        refine D.gqw [14, 15, 16, 17, 18, 19, 20, 21, 22, 23, 24, 25, 26, 27, 28, 29, 30, 31, 32, 33, 34, 35, 36, 37, 38] (t := 47) rfl rfl rfl (by kernel_rfl) (Quiet.int rfl rfl rfl) ?_
        refine D.qw [15, 16, 17, 18, 19, 20, 21, 22, 23, 24, 25, 26, 27, 28, 29, 30, 31, 32, 33, 34, 35, 36, 37, 38] rfl (by kernel_rfl) (Quiet.pickF rfl rfl) ?_
        refine D.qw [16, 17, 18, 19, 20, 21, 22, 23, 24, 25, 26, 27, 28, 29, 30, 31, 32, 33, 34, 35, 36, 37, 38] rfl (by kernel_rfl) (Quiet.move rfl) ?_
        refine D.dec (t := 52) rfl (fun h5_52 => ?_) (fun h5_52 => ?_)
        · refine D.kDT (t := 50) rfl h5_52 ?_
          refine D.kDT (t := 51) rfl h5_52 ?_
          refine D.gs (t := 52) rfl rfl rfl rfl (by kernel_rfl) ?_
          refine D.gs (t := 52) rfl rfl rfl rfl (by kernel_rfl) ?_
          refine D.gs (t := 52) rfl rfl rfl rfl (by kernel_rfl) ?_
          refine D.gs (t := 52) rfl rfl rfl rfl (by kernel_rfl) ?_
          refine D.gs (t := 52) rfl rfl rfl rfl (by kernel_rfl) ?_
          refine D.gs (t := 52) rfl rfl rfl rfl (by kernel_rfl) ?_
          refine D.qw [23, 24, 25, 26, 27, 28, 29, 30, 31, 32, 33, 34, 35, 36, 37, 38] rfl (by kernel_rfl) (Quiet.pickT rfl rfl) ?_
          refine D.qw [24, 25, 26, 27, 28, 29, 30, 31, 32, 33, 34, 35, 36, 37, 38] rfl (by kernel_rfl) (Quiet.move rfl) ?_
          refine D.gs (t := 60) rfl rfl rfl rfl (by kernel_rfl) ?_
          refine D.gs (t := 60) rfl rfl rfl rfl (by kernel_rfl) ?_
          refine D.gs (t := 60) rfl rfl rfl rfl (by kernel_rfl) ?_
          refine D.qw [28, 29, 30, 31, 32, 33, 34, 35, 36, 37, 38] rfl (by kernel_rfl) (Quiet.pickT rfl rfl) ?_
          refine D.qw [29, 30, 31, 32, 33, 34, 35, 36, 37, 38] rfl (by kernel_rfl) (Quiet.move rfl) ?_
          refine D.gs (t := 65) rfl rfl rfl rfl (by kernel_rfl) ?_
          refine D.gs (t := 65) rfl rfl rfl rfl (by kernel_rfl) ?_
          refine D.gs (t := 65) rfl rfl rfl rfl (by kernel_rfl) ?_
          refine D.qw [33, 34, 35, 36, 37, 38] rfl (by kernel_rfl) (Quiet.pickT rfl rfl) ?_
          refine D.qw [34, 35, 36, 37, 38] rfl (by kernel_rfl) (Quiet.move rfl) ?_
          refine D.gs (t := 70) rfl rfl rfl rfl (by kernel_rfl) ?_
          refine D.gs (t := 70) rfl rfl rfl rfl (by kernel_rfl) ?_
          refine D.gs (t := 70) rfl rfl rfl rfl (by kernel_rfl) ?_
          refine D.gs (t := 70) rfl rfl rfl rfl (by kernel_rfl) ?_
          refine D.qw [] rfl (by kernel_rfl) (Quiet.pickT rfl rfl) ?_
          refine D.ph ?_
          refine Phases.fin ?_
          refine G.then_n ?_
          refine G.condT rfl ?_
          refine G.seq ?_
          refine G.region ?_
          refine G.q (Quiet.build (us := []) fl_115 ze_115 rfl rfl (by simp [isCell])) rfl ?_
          refine G.op (OpSpec.storeA rfl rfl ?c91 sz_115 ?c94 ?c92 ?c93) (by (repeat (first | exact Picks.nil | (apply Picks.cons; (repeat (first | exact Pick.here | apply Pick.there)))))) rfl ?nx95
          case c91 => (first | (simp [isCell]; done) | (simp [isCell, setAll, Value.cells]; done))
          case c94 => (first | (simp; done) | (simp [setAll, spl, Value.cells]; done))
          case c92 => (first | (simp; done) | (simp [setAll, spl, Value.cells]; done))
          case c93 => exact nfz0 _ _
          rintro v L' rfl
          refine G.q (Quiet.assign rfl) rfl ?_
          refine G.nil ?_
          refine G.then_n ?_
          refine G.ret ?_
          refine G.then_r ?_
          have e : foundZ δ n = none := by unfold foundZ; rw [if_neg (by rw [hrd]; simpa using h16), if_pos (by rw [hrd, hs, hm]; unfold badMk; first | exact .inl h5_40 | (refine .inr ?_; first | exact .inl (by simpa using h5_47) | (refine .inr ?_; first | exact .inl h5_52 | (refine .inr ?_; first | exact .inl h5_60 | (refine .inr ?_; first | exact .inl h5_65 | (refine .inr ?_; first | exact .inl h5_70 | exact .inr (by simpa using h75)))))))]
          rw [e]
          exact G.done2 rfl (.cellA rfl ag_115 (by (repeat (first | exact Pick.here | apply Pick.there))) (by simp [spl, setAll, mkC]) rfl) (.tmp rfl) ⟨rfl, rfl⟩ (by (repeat (first | exact Picks.nil | (apply Picks.cons; (repeat (first | exact Pick.here | apply Pick.there)))))) (by (repeat (first | exact Suff.here | apply Suff.there)))
        · refine D.kDF (t := 50) rfl h5_52 ?_
          refine D.kDF (t := 51) rfl h5_52 ?_
          refine D.gqw [17, 21, 22, 23, 24, 25, 26, 27, 28, 29, 30, 31, 32, 33, 34, 35, 36, 37, 38] (t := 52) rfl rfl rfl (by kernel_rfl) (Quiet.fieldAddr rfl fo_115_2) ?_
          refine D.gqw [21, 22, 23, 24, 25, 26, 27, 28, 29, 30, 31, 32, 33, 34, 35, 36, 37, 38] (t := 52) rfl rfl rfl (by kernel_rfl) (Quiet.load rfl ag_3 (by (repeat (first | exact Pick.here | apply Pick.there))) (rfl)) ?_
          refine D.gqw [19, 20, 21, 22, 23, 24, 25, 26, 27, 28, 29, 30, 31, 32, 33, 34, 35, 36, 37, 38] (t := 52) rfl rfl rfl (by kernel_rfl) (Quiet.move rfl) ?_
          refine D.gm (t := 52) rfl rfl rfl (by kernel_rfl) (OpSpec.call Try.func80 rfl rfl (vs := [_]) rfl (half_spec d δ hn)) (by (repeat (first | exact Picks.nil | (apply Picks.cons; (repeat (first | exact Pick.here | apply Pick.there)))))) ?nx100
          refine D.gqw [21, 22, 23, 24, 25, 26, 27, 28, 29, 30, 31, 32, 33, 34, 35, 36, 37, 38] (t := 52) rfl rfl rfl (by kernel_rfl) (Quiet.mul rfl rfl (by unfold halfZ; omega)) ?_
          refine D.gqw [22, 23, 24, 25, 26, 27, 28, 29, 30, 31, 32, 33, 34, 35, 36, 37, 38] (t := 52) rfl rfl rfl (by kernel_rfl) (Quiet.int rfl rfl rfl) ?_
          refine D.qw [23, 24, 25, 26, 27, 28, 29, 30, 31, 32, 33, 34, 35, 36, 37, 38] rfl (by kernel_rfl) (Quiet.pickF rfl rfl) ?_
          refine D.qw [24, 25, 26, 27, 28, 29, 30, 31, 32, 33, 34, 35, 36, 37, 38] rfl (by kernel_rfl) (Quiet.move rfl) ?_
          refine D.dec (t := 60) rfl (fun h5_60 => ?_) (fun h5_60 => ?_)
          · refine D.kDT (t := 58) rfl h5_60 ?_
            refine D.kDT (t := 59) rfl h5_60 ?_
            refine D.gs (t := 60) rfl rfl rfl rfl (by kernel_rfl) ?_
            refine D.gs (t := 60) rfl rfl rfl rfl (by kernel_rfl) ?_
            refine D.gs (t := 60) rfl rfl rfl rfl (by kernel_rfl) ?_
            refine D.qw [28, 29, 30, 31, 32, 33, 34, 35, 36, 37, 38] rfl (by kernel_rfl) (Quiet.pickT rfl rfl) ?_
            refine D.qw [29, 30, 31, 32, 33, 34, 35, 36, 37, 38] rfl (by kernel_rfl) (Quiet.move rfl) ?_
            refine D.gs (t := 65) rfl rfl rfl rfl (by kernel_rfl) ?_
            refine D.gs (t := 65) rfl rfl rfl rfl (by kernel_rfl) ?_
            refine D.gs (t := 65) rfl rfl rfl rfl (by kernel_rfl) ?_
            refine D.qw [33, 34, 35, 36, 37, 38] rfl (by kernel_rfl) (Quiet.pickT rfl rfl) ?_
            refine D.qw [34, 35, 36, 37, 38] rfl (by kernel_rfl) (Quiet.move rfl) ?_
            refine D.gs (t := 70) rfl rfl rfl rfl (by kernel_rfl) ?_
            refine D.gs (t := 70) rfl rfl rfl rfl (by kernel_rfl) ?_
            refine D.gs (t := 70) rfl rfl rfl rfl (by kernel_rfl) ?_
            refine D.gs (t := 70) rfl rfl rfl rfl (by kernel_rfl) ?_
            refine D.qw [] rfl (by kernel_rfl) (Quiet.pickT rfl rfl) ?_
            refine D.ph ?_
            refine Phases.fin ?_
            refine G.then_n ?_
            refine G.condT rfl ?_
            refine G.seq ?_
            refine G.region ?_
            refine G.q (Quiet.build (us := []) fl_115 ze_115 rfl rfl (by simp [isCell])) rfl ?_
            refine G.op (OpSpec.storeA rfl rfl ?c108 sz_115 ?c111 ?c109 ?c110) (by (repeat (first | exact Picks.nil | (apply Picks.cons; (repeat (first | exact Pick.here | apply Pick.there)))))) rfl ?nx112
            case c108 => (first | (simp [isCell]; done) | (simp [isCell, setAll, Value.cells]; done))
            case c111 => (first | (simp; done) | (simp [setAll, spl, Value.cells]; done))
            case c109 => (first | (simp; done) | (simp [setAll, spl, Value.cells]; done))
            case c110 => exact nfz0 _ _
            rintro v L' rfl
            refine G.q (Quiet.assign rfl) rfl ?_
            refine G.nil ?_
            refine G.then_n ?_
            refine G.ret ?_
            refine G.then_r ?_
            have e : foundZ δ n = none := by unfold foundZ; rw [if_neg (by rw [hrd]; simpa using h16), if_pos (by rw [hrd, hs, hm]; unfold badMk; first | exact .inl h5_40 | (refine .inr ?_; first | exact .inl (by simpa using h5_47) | (refine .inr ?_; first | exact .inl h5_52 | (refine .inr ?_; first | exact .inl h5_60 | (refine .inr ?_; first | exact .inl h5_65 | (refine .inr ?_; first | exact .inl h5_70 | exact .inr (by simpa using h75)))))))]
            rw [e]
            exact G.done2 rfl (.cellA rfl ag_115 (by (repeat (first | exact Pick.here | apply Pick.there))) (by simp [spl, setAll, mkC]) rfl) (.tmp rfl) ⟨rfl, rfl⟩ (by (repeat (first | exact Picks.nil | (apply Picks.cons; (repeat (first | exact Pick.here | apply Pick.there)))))) (by (repeat (first | exact Suff.here | apply Suff.there)))
          · refine D.kDF (t := 58) rfl h5_60 ?_
            refine D.kDF (t := 59) rfl h5_60 ?_
            refine D.gqw [25, 26, 27, 28, 29, 30, 31, 32, 33, 34, 35, 36, 37, 38] (t := 60) rfl rfl rfl (by kernel_rfl) (Quiet.fieldAddr rfl fo_115_4) ?_
            refine D.gqw [26, 27, 28, 29, 30, 31, 32, 33, 34, 35, 36, 37, 38] (t := 60) rfl rfl rfl (by kernel_rfl) (Quiet.load rfl ag_3 (by (repeat (first | exact Pick.here | apply Pick.there))) (rfl)) ?_
            refine D.gqw [27, 28, 29, 30, 31, 32, 33, 34, 35, 36, 37, 38] (t := 60) rfl rfl rfl (by kernel_rfl) (Quiet.int rfl rfl rfl) ?_
            refine D.qw [28, 29, 30, 31, 32, 33, 34, 35, 36, 37, 38] rfl (by kernel_rfl) (Quiet.pickF rfl rfl) ?_
            refine D.qw [29, 30, 31, 32, 33, 34, 35, 36, 37, 38] rfl (by kernel_rfl) (Quiet.move rfl) ?_
            refine D.dec (t := 65) rfl (fun h5_65 => ?_) (fun h5_65 => ?_)
            · refine D.kDT (t := 63) rfl h5_65 ?_
              refine D.kDT (t := 64) rfl h5_65 ?_
              refine D.gs (t := 65) rfl rfl rfl rfl (by kernel_rfl) ?_
              refine D.gs (t := 65) rfl rfl rfl rfl (by kernel_rfl) ?_
              refine D.gs (t := 65) rfl rfl rfl rfl (by kernel_rfl) ?_
              refine D.qw [33, 34, 35, 36, 37, 38] rfl (by kernel_rfl) (Quiet.pickT rfl rfl) ?_
              refine D.qw [34, 35, 36, 37, 38] rfl (by kernel_rfl) (Quiet.move rfl) ?_
              refine D.gs (t := 70) rfl rfl rfl rfl (by kernel_rfl) ?_
              refine D.gs (t := 70) rfl rfl rfl rfl (by kernel_rfl) ?_
              refine D.gs (t := 70) rfl rfl rfl rfl (by kernel_rfl) ?_
              refine D.gs (t := 70) rfl rfl rfl rfl (by kernel_rfl) ?_
              refine D.qw [] rfl (by kernel_rfl) (Quiet.pickT rfl rfl) ?_
              refine D.ph ?_
              refine Phases.fin ?_
              refine G.then_n ?_
              refine G.condT rfl ?_
              refine G.seq ?_
              refine G.region ?_
              refine G.q (Quiet.build (us := []) fl_115 ze_115 rfl rfl (by simp [isCell])) rfl ?_
              refine G.op (OpSpec.storeA rfl rfl ?c120 sz_115 ?c123 ?c121 ?c122) (by (repeat (first | exact Picks.nil | (apply Picks.cons; (repeat (first | exact Pick.here | apply Pick.there)))))) rfl ?nx124
              case c120 => (first | (simp [isCell]; done) | (simp [isCell, setAll, Value.cells]; done))
              case c123 => (first | (simp; done) | (simp [setAll, spl, Value.cells]; done))
              case c121 => (first | (simp; done) | (simp [setAll, spl, Value.cells]; done))
              case c122 => exact nfz0 _ _
              rintro v L' rfl
              refine G.q (Quiet.assign rfl) rfl ?_
              refine G.nil ?_
              refine G.then_n ?_
              refine G.ret ?_
              refine G.then_r ?_
              have e : foundZ δ n = none := by unfold foundZ; rw [if_neg (by rw [hrd]; simpa using h16), if_pos (by rw [hrd, hs, hm]; unfold badMk; first | exact .inl h5_40 | (refine .inr ?_; first | exact .inl (by simpa using h5_47) | (refine .inr ?_; first | exact .inl h5_52 | (refine .inr ?_; first | exact .inl h5_60 | (refine .inr ?_; first | exact .inl h5_65 | (refine .inr ?_; first | exact .inl h5_70 | exact .inr (by simpa using h75)))))))]
              rw [e]
              exact G.done2 rfl (.cellA rfl ag_115 (by (repeat (first | exact Pick.here | apply Pick.there))) (by simp [spl, setAll, mkC]) rfl) (.tmp rfl) ⟨rfl, rfl⟩ (by (repeat (first | exact Picks.nil | (apply Picks.cons; (repeat (first | exact Pick.here | apply Pick.there)))))) (by (repeat (first | exact Suff.here | apply Suff.there)))
            · refine D.kDF (t := 63) rfl h5_65 ?_
              refine D.kDF (t := 64) rfl h5_65 ?_
              refine D.gqw [30, 31, 32, 33, 34, 35, 36, 37, 38] (t := 65) rfl rfl rfl (by kernel_rfl) (Quiet.fieldAddr rfl fo_115_5) ?_
              refine D.gqw [31, 32, 33, 34, 35, 36, 37, 38] (t := 65) rfl rfl rfl (by kernel_rfl) (Quiet.load rfl ag_3 (by (repeat (first | exact Pick.here | apply Pick.there))) (rfl)) ?_
              refine D.gqw [32, 33, 34, 35, 36, 37, 38] (t := 65) rfl rfl rfl (by kernel_rfl) (Quiet.int rfl rfl rfl) ?_
              refine D.qw [33, 34, 35, 36, 37, 38] rfl (by kernel_rfl) (Quiet.pickF rfl rfl) ?_
              refine D.qw [34, 35, 36, 37, 38] rfl (by kernel_rfl) (Quiet.move rfl) ?_
              refine D.dec (t := 70) rfl (fun h5_70 => ?_) (fun h5_70 => ?_)
              · refine D.kDT (t := 68) rfl h5_70 ?_
                refine D.kDT (t := 69) rfl h5_70 ?_
                refine D.gs (t := 70) rfl rfl rfl rfl (by kernel_rfl) ?_
                refine D.gs (t := 70) rfl rfl rfl rfl (by kernel_rfl) ?_
                refine D.gs (t := 70) rfl rfl rfl rfl (by kernel_rfl) ?_
                refine D.gs (t := 70) rfl rfl rfl rfl (by kernel_rfl) ?_
                refine D.qw [] rfl (by kernel_rfl) (Quiet.pickT rfl rfl) ?_
                refine D.ph ?_
                refine Phases.fin ?_
                refine G.then_n ?_
                refine G.condT rfl ?_
                refine G.seq ?_
                refine G.region ?_
                refine G.q (Quiet.build (us := []) fl_115 ze_115 rfl rfl (by simp [isCell])) rfl ?_
                refine G.op (OpSpec.storeA rfl rfl ?c131 sz_115 ?c134 ?c132 ?c133) (by (repeat (first | exact Picks.nil | (apply Picks.cons; (repeat (first | exact Pick.here | apply Pick.there)))))) rfl ?nx135
                case c131 => (first | (simp [isCell]; done) | (simp [isCell, setAll, Value.cells]; done))
                case c134 => (first | (simp; done) | (simp [setAll, spl, Value.cells]; done))
                case c132 => (first | (simp; done) | (simp [setAll, spl, Value.cells]; done))
                case c133 => exact nfz0 _ _
                rintro v L' rfl
                refine G.q (Quiet.assign rfl) rfl ?_
                refine G.nil ?_
                refine G.then_n ?_
                refine G.ret ?_
                refine G.then_r ?_
                have e : foundZ δ n = none := by unfold foundZ; rw [if_neg (by rw [hrd]; simpa using h16), if_pos (by rw [hrd, hs, hm]; unfold badMk; first | exact .inl h5_40 | (refine .inr ?_; first | exact .inl (by simpa using h5_47) | (refine .inr ?_; first | exact .inl h5_52 | (refine .inr ?_; first | exact .inl h5_60 | (refine .inr ?_; first | exact .inl h5_65 | (refine .inr ?_; first | exact .inl h5_70 | exact .inr (by simpa using h75)))))))]
                rw [e]
                exact G.done2 rfl (.cellA rfl ag_115 (by (repeat (first | exact Pick.here | apply Pick.there))) (by simp [spl, setAll, mkC]) rfl) (.tmp rfl) ⟨rfl, rfl⟩ (by (repeat (first | exact Picks.nil | (apply Picks.cons; (repeat (first | exact Pick.here | apply Pick.there)))))) (by (repeat (first | exact Suff.here | apply Suff.there)))
              · refine D.kDF (t := 68) rfl h5_70 ?_
                refine D.kDF (t := 69) rfl h5_70 ?_
                refine D.gqw [37, 38] (t := 70) rfl rfl rfl (by kernel_rfl) (Quiet.move rfl) ?_
                refine D.gqw [36, 37, 38] (t := 70) rfl rfl rfl (by kernel_rfl) (Quiet.loadAs (vs := mkC m) rfl ag_115 (by (repeat (first | exact Pick.here | apply Pick.there))) (by simp [mkC]) rfl) ?_
                refine D.gm (t := 70) rfl rfl rfl (by kernel_rfl) (OpSpec.call Try.func74 rfl rfl (vs := [_]) rfl (sector_spec m)) (by (repeat (first | exact Picks.nil | (apply Picks.cons; (repeat (first | exact Pick.here | apply Pick.there)))))) ?nx138
                refine D.gqw [38] (t := 70) rfl rfl rfl (by kernel_rfl) (Quiet.strne rfl rfl) ?_
                refine D.qw [] rfl (by kernel_rfl) (Quiet.pickF rfl rfl) ?_
                refine D.ph ?_
                refine Phases.fin ?_
                refine G.then_n ?_
                refine G.condN rfl (fun h75 => ?_) (fun h75 => ?_)
                · refine G.seq ?_
                  refine G.region ?_
                  refine G.q (Quiet.build (us := []) fl_115 ze_115 rfl rfl (by simp [isCell])) rfl ?_
                  refine G.op (OpSpec.storeA rfl rfl ?c142 sz_115 ?c145 ?c143 ?c144) (by (repeat (first | exact Picks.nil | (apply Picks.cons; (repeat (first | exact Pick.here | apply Pick.there)))))) rfl ?nx146
                  case c142 => (first | (simp [isCell]; done) | (simp [isCell, setAll, Value.cells]; done))
                  case c145 => (first | (simp; done) | (simp [setAll, spl, Value.cells]; done))
                  case c143 => (first | (simp; done) | (simp [setAll, spl, Value.cells]; done))
                  case c144 => exact nfz0 _ _
                  rintro v L' rfl
                  refine G.q (Quiet.assign rfl) rfl ?_
                  refine G.nil ?_
                  refine G.then_n ?_
                  refine G.ret ?_
                  refine G.then_r ?_
                  have e : foundZ δ n = none := by unfold foundZ; rw [if_neg (by rw [hrd]; simpa using h16), if_pos (by rw [hrd, hs, hm]; unfold badMk; first | exact .inl h5_40 | (refine .inr ?_; first | exact .inl (by simpa using h5_47) | (refine .inr ?_; first | exact .inl h5_52 | (refine .inr ?_; first | exact .inl h5_60 | (refine .inr ?_; first | exact .inl h5_65 | (refine .inr ?_; first | exact .inl h5_70 | exact .inr (by simpa using h75)))))))]
                  rw [e]
                  exact G.done2 rfl (.cellA rfl ag_115 (by (repeat (first | exact Pick.here | apply Pick.there))) (by simp [spl, setAll, mkC]) rfl) (.tmp rfl) ⟨rfl, rfl⟩ (by (repeat (first | exact Picks.nil | (apply Picks.cons; (repeat (first | exact Pick.here | apply Pick.there)))))) (by (repeat (first | exact Suff.here | apply Suff.there)))
                · refine G.skip ?_
                  refine G.then_n ?_
                  refine G.seq ?_
                  refine G.region ?_
                  refine G.q (Quiet.loadAs (vs := mkC m) rfl ag_115 (by (repeat (first | exact Pick.here | apply Pick.there))) (by simp [mkC]) rfl) rfl ?_
                  refine G.op (OpSpec.storeA rfl rfl ?c149 sz_115 ?c152 ?c150 ?c151) (by (repeat (first | exact Picks.nil | (apply Picks.cons; (repeat (first | exact Pick.here | apply Pick.there)))))) rfl ?nx153
                  case c149 => simp [mkC, isCell]
                  case c152 => simp [mkC]
                  case c150 => simp [mkC]
                  case c151 => exact nfz0 _ _
                  rintro v L' rfl
                  refine G.q (Quiet.assign rfl) rfl ?_
                  refine G.nil ?_
                  refine G.then_n ?_
                  refine G.ret ?_
                  have e : foundZ δ n = some m := by unfold foundZ; rw [if_neg (by rw [hrd]; simpa using h16), if_neg (by rw [hrd, hs, hm]; unfold badMk; simp only [not_or]; refine ⟨?_, ?_, ?_, ?_, ?_, ?_, ?_⟩ <;> first | omega | simpa using h75)]; rw [hrd, hs, hm]
                  rw [e]
                  exact G.done2 rfl (.cellA rfl ag_115 (by (repeat (first | exact Pick.here | apply Pick.there))) (by simp [spl, setAll, mkC]) rfl) (.tmp rfl) ⟨rfl, rfl⟩ (by (repeat (first | exact Picks.nil | (apply Picks.cons; (repeat (first | exact Pick.here | apply Pick.there)))))) (by (repeat (first | exact Suff.here | apply Suff.there)))

end Go.Proofs.Ytepncdidkjjllaa
