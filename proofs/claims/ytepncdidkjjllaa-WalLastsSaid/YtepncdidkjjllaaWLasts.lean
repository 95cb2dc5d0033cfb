/- Own work, by program: WalLasts: walked. -/
import Derived.Test.YtepncdidkjjllaaL4K
namespace Go.Proofs.Ytepncdidkjjllaa
open Go
set_option maxRecDepth 100000 in
theorem wlasts_spec (n0 : Int) (v1 : Value) (xs : List Op4V) (p : HP) (hn0 : -9223372036854775808 ≤ n0 ∧ n0 ≤ 9223372036854775807) (hops : Ops4 p v1 xs) : Fn Try.prog 13 #[vint n0, v1] [p] fun v L => v = .bool true ∧ L = [p] := by
  refine Fn.intro (vs := [vint n0, v1]) Try.func13 rfl rfl ?_
  intro F W
  have hcells := hops.cells
  have hopl := hops.len
  refine G.rdAny (p := p) hcells (by (repeat (first | exact Pick.here | apply Pick.there))) fun a0 c0 e _ => ?_
  subst e
  have hpk := pickZ_range n0 (n := 100) (by decide)
  obtain ⟨hff, -, -⟩ := format_well (n := 16 + pickZ n0 100) (by omega)
  have hfl := lv_new (n := 16 + pickZ n0 100) (by omega)
  refine G.seq ?_
  refine G.region ?_
  refine G.q (Quiet.assign rfl) rfl ?_
  refine G.nil ?_
  refine G.then_n ?_
  refine G.seq ?_
  refine G.region ?_
  refine G.op (OpSpec.call Try.func14 rfl rfl (vs := []) rfl (awake4_spec)) (by (repeat (first | exact Picks.nil | (apply Picks.cons; (repeat (first | exact Pick.here | apply Pick.there)))))) rfl ?nx2
  rintro v L' ⟨rfl, rfl⟩
  refine G.q (Quiet.assign rfl) rfl ?_
  refine G.nil ?_
  refine G.then_n ?_
  refine G.seq ?_
  refine G.region ?_
  refine G.q (Quiet.move rfl) rfl ?_
  refine G.op (OpSpec.call Try.func22 rfl rfl (vs := [_, _]) rfl (pick4_spec n0 100 hn0 (by decide))) (by (repeat (first | exact Picks.nil | (apply Picks.cons; (repeat (first | exact Pick.here | apply Pick.there)))))) rfl ?nx5
  rintro v L' ⟨rfl, rfl⟩
  refine G.q (Quiet.add rfl rfl (by omega)) rfl ?_
  refine G.op (OpSpec.call Try.func15 rfl rfl (vs := [_]) rfl (new_spec (16 + pickZ n0 100))) (by (repeat (first | exact Picks.nil | (apply Picks.cons; (repeat (first | exact Pick.here | apply Pick.there)))))) rfl ?nx8
  rintro v L' (⟨h, -, -⟩ | ⟨-, d, rfl, rfl⟩); · omega
  refine G.q (Quiet.move rfl) rfl ?_
  refine G.q (Quiet.extract rfl rfl) rfl ?_
  refine G.q (Quiet.extract rfl rfl) rfl ?_
  refine G.q (Quiet.assign rfl) rfl ?_
  refine G.q (Quiet.assign rfl) rfl ?_
  refine G.nil ?_
  refine G.then_n ?_
  refine G.seq ?_
  refine G.seq ?_
  refine G.region ?_
  refine G.q (Quiet.move rfl) rfl ?_
  refine G.q (Quiet.not rfl) rfl ?_
  refine G.q (Quiet.move rfl) rfl ?_
  refine G.grun (t := 30) rfl rfl rfl ?_
  refine G.q (Quiet.move rfl) rfl ?_
  refine G.grun (t := 30) rfl rfl rfl ?_
  refine G.q (Quiet.ptreq rfl rfl Try.underlying24) rfl ?_
  refine G.q (Quiet.pickF rfl rfl) rfl ?_
  refine G.q (Quiet.move rfl) rfl ?_
  refine G.grun (t := 34) rfl rfl rfl ?_
  refine G.q (Quiet.move rfl) rfl ?_
  refine G.grun (t := 34) rfl rfl rfl ?_
  refine G.q (Quiet.as (v' := .bool false) (by rfl) (Quiet.int rfl rfl rfl)) rfl ?_
  refine G.q (Quiet.pickF rfl rfl) rfl ?_
  refine G.nil ?_
  refine G.then_n ?_
  refine G.condF rfl ?_
  refine G.skip ?_
  refine G.then_n ?_
  refine G.seq ?_
  refine G.region ?_
  refine G.q (Quiet.move rfl) rfl ?_
  refine G.op (OpSpec.call Try.func23 rfl rfl (vs := [_]) rfl (format_spec d (Dk.new (16 + pickZ n0 100)) (by show (0 : Int) + 10 < _; decide))) (by (repeat (first | exact Picks.nil | (apply Picks.cons; (repeat (first | exact Pick.here | apply Pick.there)))))) rfl ?nx15
  rintro v L' (⟨h, -, -⟩ | ⟨-, x0, rfl, rfl⟩); · rw [hff] at h; cases h
  refine G.q (Quiet.move rfl) rfl ?_
  refine G.q (Quiet.extract rfl rfl) rfl ?_
  refine G.q (Quiet.extract rfl rfl) rfl ?_
  refine G.q (Quiet.assign rfl) rfl ?_
  refine G.q (Quiet.assign rfl) rfl ?_
  refine G.nil ?_
  refine G.then_n ?_
  refine G.seq ?_
  refine G.seq ?_
  refine G.region ?_
  refine G.q (Quiet.move rfl) rfl ?_
  refine G.q (Quiet.ptreq rfl rfl Try.underlying34) rfl ?_
  refine G.q (Quiet.move rfl) rfl ?_
  refine G.grun (t := 45) rfl rfl rfl ?_
  refine G.q (Quiet.move rfl) rfl ?_
  refine G.grun (t := 45) rfl rfl rfl ?_
  refine G.q (Quiet.as (v' := .bool false) (by rfl) (Quiet.int rfl rfl rfl)) rfl ?_
  refine G.q (Quiet.pickF rfl rfl) rfl ?_
  refine G.nil ?_
  refine G.then_n ?_
  refine G.condF rfl ?_
  refine G.skip ?_
  refine G.then_n ?_
  refine G.seq ?_
  refine G.seq ?_
  refine G.region ?_
  refine G.q (Quiet.assign rfl) rfl ?_
  refine G.nil ?_
  refine G.then_n ?_
  refine G.block ?_
  refine G.loopK (ι := Nat × Dk × Wl × Nat) (fun q E => (10, vint q.1) :: (8, vptr q.2.2.2) :: E) (fun q => [dkR d q.2.1, wlR q.2.2.2 d q.2.2.1]) (fun q => q.1 ≤ xs.length ∧ q.1 ≤ 120 ∧ Lv q.2.1 q.2.2.1 (3 + q.1 * 2000000)) (fun q => xs.length - q.1) (0, (formatZ (Dk.new (16 + pickZ n0 100))).1, newW, x0) (ts := [1, 6]) (.cons rfl (.cons rfl (.nil))) (⟨Nat.zero_le _, Nat.zero_le _, hfl.more (by dsimp only; omega)⟩) ⟨rfl, rfl, rfl, rfl, trivial⟩ (by (repeat (first | exact Picks.nil | (apply Picks.cons; (repeat (first | exact Pick.here | apply Pick.there)))))) ?_
  rintro ⟨i, δ, ω, x⟩ ⟨hi, hi120, hL⟩
  dsimp only
  dsimp only at hi hi120 hL
  refine G.seq ?_
  refine G.seq ?_
  refine G.region ?_
  refine G.q (Quiet.move rfl) rfl ?_
  refine G.q (Quiet.move rfl) rfl ?_
  refine G.q (Quiet.slen rfl Try.underlying45 rfl) rfl ?_
  refine G.q (Quiet.int rfl rfl rfl) rfl ?_
  refine G.q (Quiet.move rfl) rfl ?_
  refine G.dec (t := 53) rfl (fun h9_53 => ?_) (fun h9_53 => ?_)
  · refine G.kDT (t := 52) rfl h9_53 ?_
    refine G.grun (t := 53) rfl rfl rfl ?_
    refine G.q (Quiet.move rfl) rfl ?_
    refine G.grun (t := 53) rfl rfl rfl ?_
    refine G.q (Quiet.int rfl rfl rfl) rfl ?_
    refine G.q (Quiet.pickT rfl rfl) rfl ?_
    refine G.nil ?_
    refine G.then_n ?_
    refine G.condD rfl (fun h56 => ?_) (fun h56 => ?_)
    · have hi2 : i < xs.length := by omega
      refine G.rdShape (p := p) hcells (by (repeat (first | exact Pick.here | apply Pick.there))) (by omega) fun ba oa e => ?_
      subst e
      have hmem := List.getElem_mem hi2
      obtain ⟨hob1, hob2, hok, hon, hof⟩ := hops.bnd _ hmem
      unfold i64 at hok hon hof
      obtain ⟨hfl1, hfl2⟩ := hops.fit _ hmem
      have hI := hL.i (by omega)
      have hfit := hI.fits
      have hh := half_le hI.size
      have hrm := laidZ_many ω.recs
      have hst := hI.synced
      have htw : (toldZ ω false).length ≤ ω.recs.length := by have := toldZ_le ω false; unfold tl at this; rw [if_neg (by rw [hL.well.doubt]; decide)] at this; exact this
      refine G.skip ?_
      refine G.then_n ?_
      refine G.seq ?_
      refine G.block ?_
      refine G.seq ?_
      refine G.region ?_
      refine G.q (Quiet.move rfl) rfl ?_
      refine G.q (Quiet.move rfl) rfl ?_
      refine G.q (Quiet.indexAddr rfl rfl el_45 (by omega)) rfl ?_
      refine G.q (Quiet.loadRdA (sz := 5) (j := i * 5) (k := 5) (p := p) (vs := [vint xs[i].2.k, vint xs[i].2.n, vint xs[i].2.f, xs[i].1.1, xs[i].1.2]) rfl ag_42 (by (repeat (first | exact Pick.here | apply Pick.there))) hcells (by simp) (by omega) (by omega) (op4C_at hi2)) rfl ?_
      refine G.op (OpSpec.allocA ze_42) (by (repeat (first | exact Picks.nil | (apply Picks.cons; (repeat (first | exact Pick.here | apply Pick.there)))))) rfl ?nx32
      rintro v L' ⟨bo, rfl, rfl⟩
      refine G.op (OpSpec.storeA rfl rfl ?c34 sz_42 ?c37 ?c35 ?c36) (by (repeat (first | exact Picks.nil | (apply Picks.cons; (repeat (first | exact Pick.here | apply Pick.there)))))) rfl ?nx38
      case c34 => intro v hv; simp only [List.mem_cons, List.not_mem_nil, or_false] at hv; rcases hv with rfl | rfl | rfl | rfl | rfl; rfl; rfl; rfl; exact (hops.cell _ hmem).1; exact (hops.cell _ hmem).2
      case c37 => (first | (simp; done) | (simp [setAll, spl, Value.cells]; done))
      case c35 => (first | (simp; done) | (simp [setAll, spl, Value.cells]; done))
      case c36 => exact nfz0 _ _
      rintro v L' rfl
      refine G.nil ?_
      refine G.ptCast (b := bo) (l' := [vint xs[i].2.k, vint xs[i].2.n, vint xs[i].2.f, xs[i].1.1, xs[i].1.2]) (by (repeat (first | exact Pick.here | apply Pick.there))) rfl ?_
      refine G.then_n ?_
      refine G.seq ?_
      have hpk6 := pickZ_range xs[i].2.k (n := 6) (by decide)
      refine G.region ?_
      refine G.q (Quiet.fieldAddr rfl fo_42_0) rfl ?_
      refine G.q (Quiet.load rfl ag_3 (by (repeat (first | exact Pick.here | apply Pick.there))) (rfl)) rfl ?_
      refine G.op (OpSpec.call Try.func22 rfl rfl (vs := [_, _]) rfl (pick4_spec xs[i].2.k 6 hok (by decide))) (by (repeat (first | exact Picks.nil | (apply Picks.cons; (repeat (first | exact Pick.here | apply Pick.there)))))) rfl ?nx41
      rintro v L' ⟨rfl, rfl⟩
      refine G.q (Quiet.add rfl rfl (by omega)) rfl ?_
      refine G.q (Quiet.fieldAddr rfl fo_42_0) rfl ?_
      refine G.op (OpSpec.store rfl rfl rfl sz_3 ?c45 ?c46) (by (repeat (first | exact Picks.nil | (apply Picks.cons; (repeat (first | exact Pick.here | apply Pick.there)))))) rfl ?nx47
      case c45 => first | decide | (simp; omega) | simp
      case c46 => exact nfz0 _ _
      rintro v L' rfl
      refine G.nil ?_
      refine G.ptCast (b := bo) (l' := [vint (1 + pickZ xs[i].2.k 6), vint xs[i].2.n, vint xs[i].2.f, xs[i].1.1, xs[i].1.2]) (by (repeat (first | exact Pick.here | apply Pick.there))) rfl ?_
      refine G.then_n ?_
      refine G.seq ?_
      refine G.joinK (ι := Int) (fun q E => E) (fun q => [ptc bo [vint (1 + pickZ xs[i].2.k 6), vint q, vint xs[i].2.f, xs[i].1.1, xs[i].1.2] 42]) (fun q => i64 q) (pre := [ptc bo [vint (1 + pickZ xs[i].2.k 6), vint xs[i].2.n, vint xs[i].2.f, xs[i].1.1, xs[i].1.2] 42]) (ts := [1, 6, 8, 10, 11, 49, 50, 51, 52, 53, 54, 55, 56, 59, 60, 61, 62, 63, 64, 65, 66, 67]) (.cons rfl (.cons rfl (.cons rfl (.cons rfl (.cons rfl (.cons rfl (.cons rfl (.cons rfl (.cons rfl (.cons rfl (.cons rfl (.cons rfl (.cons rfl (.cons rfl (.cons rfl (.cons rfl (.cons rfl (.cons rfl (.cons rfl (.cons rfl (.cons rfl (.cons rfl (.nil))))))))))))))))))))))) (by (repeat (first | exact Picks.nil | (apply Picks.cons; (repeat (first | exact Pick.here | apply Pick.there)))))) ?_ ?_
      · refine G.seq ?_
        refine G.region ?_
        refine G.q (Quiet.fieldAddr rfl fo_42_0) rfl ?_
        refine G.q (Quiet.load rfl ag_3 (by (repeat (first | exact Pick.here | apply Pick.there))) (rfl)) rfl ?_
        refine G.q (Quiet.int rfl rfl rfl) rfl ?_
        refine G.nil ?_
        refine G.then_n ?_
        refine G.condD rfl (fun h70 => ?_) (fun h70 => ?_)
        · refine G.draw [7] [[0, 1, 2, 3, 4, 5, 6, 7]] mixed (by kernel_rfl) ?_
          refine Phases.go [] (by (repeat (first | exact Picks.nil | (apply Picks.cons; (repeat (first | exact Pick.here | apply Pick.there)))))) ?_
          refine D.qw [1, 5, 6, 7] rfl (by kernel_rfl) (Quiet.fieldAddr rfl fo_42_1) ?_
          refine D.qw [5, 6, 7] rfl (by kernel_rfl) (Quiet.load rfl ag_3 (by (repeat (first | exact Pick.here | apply Pick.there))) (rfl)) ?_
          refine D.qw [3, 4, 5, 6, 7] rfl (by kernel_rfl) (Quiet.move rfl) ?_
          refine D.mw [4, 5, 6, 7] rfl (by kernel_rfl) (OpSpec.call Try.func26 rfl rfl (vs := [_]) rfl (wlen_spec x d ω)) (by (repeat (first | exact Picks.nil | (apply Picks.cons; (repeat (first | exact Pick.here | apply Pick.there)))))) ?nx54
          refine D.qw [5, 6, 7] rfl (by kernel_rfl) (Quiet.add rfl rfl (by omega)) ?_
          refine D.mw [6, 7] rfl (by kernel_rfl) (OpSpec.call Try.func22 rfl rfl (vs := [_, _]) rfl (pick4_spec xs[i].2.n (ω.recs.length + 1) hon (by omega))) (by (repeat (first | exact Picks.nil | (apply Picks.cons; (repeat (first | exact Pick.here | apply Pick.there)))))) ?nx57
          refine D.qw [7] rfl (by kernel_rfl) (Quiet.fieldAddr rfl fo_42_1) ?_
          refine D.h rfl (by kernel_rfl) (OpSpec.store rfl rfl rfl sz_3 ?c60 ?c61) (by (repeat (first | exact Picks.nil | (apply Picks.cons; (repeat (first | exact Pick.here | apply Pick.there)))))) ?nx62
          case c60 => first | decide | (simp; omega) | simp
          case c61 => exact nfz0 _ _
          rintro v L' rfl
          refine D.ph ?_
          refine Phases.fin ?_
          refine G.ptCast (b := bo) (l' := [vint (1 + pickZ xs[i].2.k 6), vint (pickZ xs[i].2.n (ω.recs.length + 1)), vint xs[i].2.f, xs[i].1.1, xs[i].1.2]) (by (repeat (first | exact Pick.here | apply Pick.there))) rfl ?_
          refine G.then_n ?_
          exact G.meetK ((pickZ xs[i].2.n (ω.recs.length + 1))) (by have := pickZ_range xs[i].2.n (n := (ω.recs.length : Int) + 1) (by omega); unfold i64; omega) ⟨rfl, rfl, rfl, rfl, rfl, rfl, rfl, rfl, rfl, rfl, rfl, rfl, rfl, rfl, rfl, rfl, rfl, rfl, rfl, rfl, rfl, rfl, trivial⟩ (by (repeat (first | exact Picks.nil | (apply Picks.cons; (repeat (first | exact Pick.here | apply Pick.there)))))) (by ((repeat (apply Have.cons; (repeat (first | exact Pick.here | apply Pick.there)))); apply Have.base; repeat (first | exact Suff.here | apply Suff.there)))
        · refine G.skip ?_
          refine G.then_n ?_
          exact G.meetK (xs[i].2.n) (hon) ⟨rfl, rfl, rfl, rfl, rfl, rfl, rfl, rfl, rfl, rfl, rfl, rfl, rfl, rfl, rfl, rfl, rfl, rfl, rfl, rfl, rfl, rfl, trivial⟩ (by (repeat (first | exact Picks.nil | (apply Picks.cons; (repeat (first | exact Pick.here | apply Pick.there)))))) (by ((repeat (apply Have.cons; (repeat (first | exact Pick.here | apply Pick.there)))); apply Have.base; repeat (first | exact Suff.here | apply Suff.there)))
      · rintro nn hnn
        refine G.seq ?_
        refine G.seq ?_
        unfold i64 at hnn
        refine G.region ?_
        refine G.q (Quiet.fieldAddr rfl fo_42_0) rfl ?_
        refine G.q (Quiet.load rfl ag_3 (by (repeat (first | exact Pick.here | apply Pick.there))) (rfl)) rfl ?_
        refine G.q (Quiet.int rfl rfl rfl) rfl ?_
        refine G.nil ?_
        refine G.then_n ?_
        refine G.condD rfl (fun h80 => ?_) (fun h80 => ?_)
        · refine G.seq ?_
          refine G.seq ?_
          have hp9 := pickZ_range nn (n := 9) (by decide)
          obtain ⟨ha1, hLa⟩ := lv_arm hL hp9.1
          refine G.region ?_
          refine G.q (Quiet.move rfl) rfl ?_
          refine G.q (Quiet.fieldAddr rfl fo_42_1) rfl ?_
          refine G.q (Quiet.load rfl ag_3 (by (repeat (first | exact Pick.here | apply Pick.there))) (rfl)) rfl ?_
          refine G.op (OpSpec.call Try.func22 rfl rfl (vs := [_, _]) rfl (pick4_spec nn 9 hnn (by decide))) (by (repeat (first | exact Picks.nil | (apply Picks.cons; (repeat (first | exact Pick.here | apply Pick.there)))))) rfl ?nx69
          rintro v L' ⟨rfl, rfl⟩
          refine G.op (OpSpec.call Try.func51 rfl rfl (vs := [_, _]) rfl (arm_spec d δ (pickZ nn 9) (by omega))) (by (repeat (first | exact Picks.nil | (apply Picks.cons; (repeat (first | exact Pick.here | apply Pick.there)))))) rfl ?nx71
          rintro v L' ⟨rfl, rfl⟩; rw [ha1]
          refine G.q (Quiet.int rfl rfl rfl) rfl ?_
          refine G.nil ?_
          refine G.then_n ?_
          refine G.condF rfl ?_
          refine G.skip ?_
          refine G.then_n ?_
          refine G.exit ?_
          refine G.then_e ?_
          refine G.blk_e ?_
          refine G.then_n ?_
          refine G.region ?_
          refine G.q (Quiet.move rfl) rfl ?_
          refine G.q (Quiet.add rfl rfl (by omega)) rfl ?_
          refine G.q (Quiet.assign rfl) rfl ?_
          refine G.nil ?_
          refine G.then_n ?_
          exact G.roundK ((i + 1, (δ.arm (pickZ nn 9)).1, ω, x)) (⟨by dsimp only; omega, by dsimp only; omega, hLa.more (by omega)⟩) (by dsimp only; omega) ⟨rfl, rfl, rfl, rfl, trivial⟩ (by (repeat (first | exact Picks.nil | (apply Picks.cons; (repeat (first | exact Pick.here | apply Pick.there)))))) (by ((repeat (apply Have.cons; (repeat (first | exact Pick.here | apply Pick.there)))); apply Have.base; repeat (first | exact Suff.here | apply Suff.there)))
        · refine G.skip ?_
          refine G.then_n ?_
          refine G.seq ?_
          refine G.region ?_
          refine G.q (Quiet.move rfl) rfl ?_
          refine G.op (OpSpec.call Try.func29 rfl rfl (vs := [_, _]) rfl (told_spec x d ω false hst.1 (by omega))) (by (repeat (first | exact Picks.nil | (apply Picks.cons; (repeat (first | exact Pick.here | apply Pick.there)))))) rfl ?nx77
          rintro v L' ⟨a1, c1, rfl, rfl⟩
          refine G.op (OpSpec.allocA ze_54) (by (repeat (first | exact Picks.nil | (apply Picks.cons; (repeat (first | exact Pick.here | apply Pick.there)))))) rfl ?nx79
          rintro v L' ⟨bw, rfl, rfl⟩
          refine G.op (OpSpec.storeA rfl rfl ?c81 sz_54 ?c84 ?c82 ?c83) (by (repeat (first | exact Picks.nil | (apply Picks.cons; (repeat (first | exact Pick.here | apply Pick.there)))))) rfl ?nx85
          case c81 => (first | (simp [isCell]; done) | (simp [isCell, setAll, Value.cells]; done))
          case c84 => (first | (simp; done) | (simp [setAll, spl, Value.cells]; done))
          case c82 => (first | (simp; done) | (simp [setAll, spl, Value.cells]; done))
          case c83 => exact nfz0 _ _
          rintro v L' rfl
          refine G.nil ?_
          refine G.ptCast (b := bw) (l' := [.slice a1 (toldZ ω false).length c1, vint ω.a, vint ω.b]) (by (repeat (first | exact Pick.here | apply Pick.there))) rfl ?_
          refine G.then_n ?_
          refine G.seq ?_
          have hR := does_res hL (1 + pickZ xs[i].2.k 6) hnn.2 hof.2 xs[i].2.l
          rcases hB : behindZ ω (1 + pickZ xs[i].2.k 6) nn xs[i].2.f xs[i].2.l with ⟨⟨bl, ba, bb⟩, bt⟩
          rcases hd : doesZ δ ω (1 + pickZ xs[i].2.k 6) nn xs[i].2.f xs[i].2.l with ⟨σ, τ, er⟩
          rw [hB, hd] at hR
          have hbl := behind_len ω (1 + pickZ xs[i].2.k 6) nn xs[i].2.f xs[i].2.l
          rw [hB] at hbl
          dsimp only at hbl
          have hmz := manyZ_laid xs[i].2.l
          have htt : (tl ω).length = ω.recs.length := by unfold tl; rw [if_neg (by rw [hL.well.doubt]; decide)]
          refine G.region ?_
          refine G.q (Quiet.move rfl) rfl ?_
          refine G.q (Quiet.loadAs (vs := [vint (1 + pickZ xs[i].2.k 6), vint nn, vint xs[i].2.f, xs[i].1.1, xs[i].1.2]) rfl ag_42 (by (repeat (first | exact Pick.here | apply Pick.there))) (by simp) rfl) rfl ?_
          refine G.op (OpSpec.call Try.func59 rfl rfl (vs := [_, _]) rfl (behind_spec x d ω (1 + pickZ xs[i].2.k 6) nn xs[i].2.f xs[i].1.1 xs[i].1.2 xs[i].2.l p hst.1 (by omega) (hops.ls _ hmem) hob1 (by omega) (hops.cell _ hmem))) (by (repeat (first | exact Picks.nil | (apply Picks.cons; (repeat (first | exact Pick.here | apply Pick.there)))))) rfl ?nx88
          rintro v L' ⟨u, q, hq, rfl, rfl⟩; rw [hB] at hq ⊢; dsimp only at hq ⊢; refine G.rdAny (p := q) hq (by (repeat (first | exact Pick.here | apply Pick.there))) fun ub uc e _ => ?_; subst e
          refine G.q (Quiet.move rfl) rfl ?_
          refine G.q (Quiet.extract rfl rfl) rfl ?_
          refine G.q (Quiet.extract rfl rfl) rfl ?_
          refine G.op (OpSpec.allocA ze_54) (by (repeat (first | exact Picks.nil | (apply Picks.cons; (repeat (first | exact Pick.here | apply Pick.there)))))) rfl ?nx92
          rintro v L' ⟨bb1, rfl, rfl⟩
          refine G.op (OpSpec.storeA rfl rfl ?c94 sz_54 ?c97 ?c95 ?c96) (by (repeat (first | exact Picks.nil | (apply Picks.cons; (repeat (first | exact Pick.here | apply Pick.there)))))) rfl ?nx98
          case c94 => (first | (simp [isCell]; done) | (simp [isCell, setAll, Value.cells]; done))
          case c97 => (first | (simp; done) | (simp [setAll, spl, Value.cells]; done))
          case c95 => (first | (simp; done) | (simp [setAll, spl, Value.cells]; done))
          case c96 => exact nfz0 _ _
          rintro v L' rfl
          refine G.q (Quiet.assign rfl) rfl ?_
          refine G.nil ?_
          refine G.ptCast (b := bb1) (l' := [.slice ub bl.length uc, vint ba, vint bb]) (by (repeat (first | exact Pick.here | apply Pick.there))) rfl ?_
          refine G.then_n ?_
          refine G.seq ?_
          refine G.region ?_
          refine G.q (Quiet.move rfl) rfl ?_
          refine G.q (Quiet.loadAs (vs := [vint (1 + pickZ xs[i].2.k 6), vint nn, vint xs[i].2.f, xs[i].1.1, xs[i].1.2]) rfl ag_42 (by (repeat (first | exact Pick.here | apply Pick.there))) (by simp) rfl) rfl ?_
          refine G.op (OpSpec.call Try.func24 rfl rfl (vs := [_, _]) rfl (does_spec x d ω δ (1 + pickZ xs[i].2.k 6) nn xs[i].2.f xs[i].1.1 xs[i].1.2 xs[i].2.l p hI hnn (hops.ls _ hmem) hob1 (by omega) (hops.cell _ hmem))) (by (repeat (first | exact Picks.nil | (apply Picks.cons; (repeat (first | exact Pick.here | apply Pick.there)))))) rfl ?nx101
          rintro v L' ⟨rfl, rfl⟩; rw [hd]; dsimp only
          refine G.q (Quiet.assign rfl) rfl ?_
          refine G.nil ?_
          refine G.then_n ?_
          refine G.seq ?_
          refine G.seq ?_
          refine G.region ?_
          refine G.q (Quiet.move rfl) rfl ?_
          refine G.q (Quiet.int rfl rfl rfl) rfl ?_
          refine G.nil ?_
          refine G.then_n ?_
          refine G.condN rfl (fun h99 => ?_) (fun h99 => ?_)
          · have hLt := hR.live h99
            dsimp only at hLt
            have hst2 := hLt.well.synced
            have hrm2 := laidZ_many τ.recs
            have hft2 := hLt.well.fits
            have hht2 := half_le hLt.well.size
            refine G.seq ?_
            refine G.seq ?_
            refine G.region ?_
            rcases last_cases er bt (1 + pickZ xs[i].2.k 6) with he0 | ⟨he0, rfl⟩ | ⟨he0, rfl, h5⟩ | ⟨he0, rfl, h5⟩
            · refine G.q (Quiet.move rfl) rfl ?_
              refine G.q (Quiet.as (v' := .bool false) (by simp [he0]) (Quiet.int rfl rfl rfl)) rfl ?_
              refine G.q (Quiet.move rfl) rfl ?_
              refine G.gskip (t := 102) rfl rfl rfl rfl ?_
              refine G.q (Quiet.pickF rfl rfl) rfl ?_
              refine G.q (Quiet.move rfl) rfl ?_
              refine G.gskip (t := 105) rfl rfl rfl rfl ?_
              refine G.gskip (t := 105) rfl rfl rfl rfl ?_
              refine G.gskip (t := 105) rfl rfl rfl rfl ?_
              refine G.gskip (t := 105) rfl rfl rfl rfl ?_
              refine G.q (Quiet.pickF rfl rfl) rfl ?_
              refine G.q (Quiet.move rfl) rfl ?_
              refine G.gskip (t := 111) rfl rfl rfl rfl ?_
              refine G.gskip (t := 111) rfl rfl rfl rfl ?_
              refine G.gskip (t := 111) rfl rfl rfl rfl ?_
              refine G.q (Quiet.pickF rfl rfl) rfl ?_
              refine G.nil ?_
              refine G.then_n ?_
              refine G.condF rfl ?_
              refine G.skip ?_
              refine G.then_n ?_
              refine G.exit ?_
              refine G.then_e ?_
              refine G.blk_e ?_
              refine G.then_n ?_
              refine G.region ?_
              refine G.q (Quiet.move rfl) rfl ?_
              refine G.q (Quiet.add rfl rfl (by omega)) rfl ?_
              refine G.q (Quiet.assign rfl) rfl ?_
              refine G.nil ?_
              refine G.then_n ?_
              exact G.roundK ((i + 1, σ, τ, x)) (⟨by dsimp only; omega, by dsimp only; omega, hLt.more (by omega)⟩) (by dsimp only; omega) ⟨rfl, rfl, rfl, rfl, trivial⟩ (by (repeat (first | exact Picks.nil | (apply Picks.cons; (repeat (first | exact Pick.here | apply Pick.there)))))) (by ((repeat (apply Have.cons; (repeat (first | exact Pick.here | apply Pick.there)))); apply Have.base; repeat (first | exact Suff.here | apply Suff.there)))
            · subst he0
              refine G.q (Quiet.move rfl) rfl ?_
              refine G.q (Quiet.as (v' := .bool true) (by rfl) (Quiet.int rfl rfl rfl)) rfl ?_
              refine G.q (Quiet.move rfl) rfl ?_
              refine G.grun (t := 102) rfl rfl rfl ?_
              refine G.q (Quiet.move rfl) rfl ?_
              refine G.q (Quiet.pickT rfl rfl) rfl ?_
              refine G.q (Quiet.move rfl) rfl ?_
              refine G.gskip (t := 105) rfl rfl rfl rfl ?_
              refine G.gskip (t := 105) rfl rfl rfl rfl ?_
              refine G.gskip (t := 105) rfl rfl rfl rfl ?_
              refine G.gskip (t := 105) rfl rfl rfl rfl ?_
              refine G.q (Quiet.pickF rfl rfl) rfl ?_
              refine G.q (Quiet.move rfl) rfl ?_
              refine G.gskip (t := 111) rfl rfl rfl rfl ?_
              refine G.gskip (t := 111) rfl rfl rfl rfl ?_
              refine G.gskip (t := 111) rfl rfl rfl rfl ?_
              refine G.q (Quiet.pickF rfl rfl) rfl ?_
              refine G.nil ?_
              refine G.then_n ?_
              refine G.condF rfl ?_
              refine G.skip ?_
              refine G.then_n ?_
              refine G.exit ?_
              refine G.then_e ?_
              refine G.blk_e ?_
              refine G.then_n ?_
              refine G.region ?_
              refine G.q (Quiet.move rfl) rfl ?_
              refine G.q (Quiet.add rfl rfl (by omega)) rfl ?_
              refine G.q (Quiet.assign rfl) rfl ?_
              refine G.nil ?_
              refine G.then_n ?_
              exact G.roundK ((i + 1, σ, τ, x)) (⟨by dsimp only; omega, by dsimp only; omega, hLt.more (by omega)⟩) (by dsimp only; omega) ⟨rfl, rfl, rfl, rfl, trivial⟩ (by (repeat (first | exact Picks.nil | (apply Picks.cons; (repeat (first | exact Pick.here | apply Pick.there)))))) (by ((repeat (apply Have.cons; (repeat (first | exact Pick.here | apply Pick.there)))); apply Have.base; repeat (first | exact Suff.here | apply Suff.there)))
            · subst he0
              refine G.q (Quiet.move rfl) rfl ?_
              refine G.q (Quiet.as (v' := .bool true) (by rfl) (Quiet.int rfl rfl rfl)) rfl ?_
              refine G.q (Quiet.move rfl) rfl ?_
              refine G.grun (t := 102) rfl rfl rfl ?_
              refine G.q (Quiet.move rfl) rfl ?_
              refine G.q (Quiet.pickT rfl rfl) rfl ?_
              refine G.q (Quiet.move rfl) rfl ?_
              refine G.grun (t := 105) rfl rfl rfl ?_
              refine G.q (Quiet.move rfl) rfl ?_
              refine G.grun (t := 105) rfl rfl rfl ?_
              refine G.q (Quiet.loadAs (vs := [.slice ub bl.length uc, vint ba, vint bb]) rfl ag_54 (by (repeat (first | exact Pick.here | apply Pick.there))) (by simp) rfl) rfl ?_
              refine G.grun (t := 105) rfl rfl rfl ?_
              refine G.op (OpSpec.call Try.func31 rfl rfl (vs := [_, _]) rfl (same4_spec x d τ (.slice ub bl.length uc) bl ba bb q hst2.1 (by omega) hq (by omega))) (by (repeat (first | exact Picks.nil | (apply Picks.cons; (repeat (first | exact Pick.here | apply Pick.there)))))) rfl ?nx118
              rintro v L' ⟨rfl, rfl⟩; rw [show sameZ τ (bl, ba, bb) = true from hR.same rfl rfl h5]
              refine G.grun (t := 105) rfl rfl rfl ?_
              refine G.q (Quiet.not rfl) rfl ?_
              refine G.q (Quiet.pickT rfl rfl) rfl ?_
              refine G.q (Quiet.move rfl) rfl ?_
              refine G.gskip (t := 111) rfl rfl rfl rfl ?_
              refine G.gskip (t := 111) rfl rfl rfl rfl ?_
              refine G.gskip (t := 111) rfl rfl rfl rfl ?_
              refine G.q (Quiet.pickF rfl rfl) rfl ?_
              refine G.nil ?_
              refine G.then_n ?_
              refine G.condF rfl ?_
              refine G.skip ?_
              refine G.then_n ?_
              refine G.exit ?_
              refine G.then_e ?_
              refine G.blk_e ?_
              refine G.then_n ?_
              refine G.region ?_
              refine G.q (Quiet.move rfl) rfl ?_
              refine G.q (Quiet.add rfl rfl (by omega)) rfl ?_
              refine G.q (Quiet.assign rfl) rfl ?_
              refine G.nil ?_
              refine G.then_n ?_
              exact G.roundK ((i + 1, σ, τ, x)) (⟨by dsimp only; omega, by dsimp only; omega, hLt.more (by omega)⟩) (by dsimp only; omega) ⟨rfl, rfl, rfl, rfl, trivial⟩ (by (repeat (first | exact Picks.nil | (apply Picks.cons; (repeat (first | exact Pick.here | apply Pick.there)))))) (by ((repeat (apply Have.cons; (repeat (first | exact Pick.here | apply Pick.there)))); apply Have.base; repeat (first | exact Suff.here | apply Suff.there)))
            · subst he0
              refine G.q (Quiet.move rfl) rfl ?_
              refine G.q (Quiet.as (v' := .bool true) (by rfl) (Quiet.int rfl rfl rfl)) rfl ?_
              refine G.q (Quiet.move rfl) rfl ?_
              refine G.grun (t := 102) rfl rfl rfl ?_
              refine G.q (Quiet.move rfl) rfl ?_
              refine G.q (Quiet.pickT rfl rfl) rfl ?_
              refine G.q (Quiet.move rfl) rfl ?_
              refine G.grun (t := 105) rfl rfl rfl ?_
              refine G.q (Quiet.move rfl) rfl ?_
              refine G.grun (t := 105) rfl rfl rfl ?_
              refine G.q (Quiet.loadAs (vs := [.slice ub bl.length uc, vint ba, vint bb]) rfl ag_54 (by (repeat (first | exact Pick.here | apply Pick.there))) (by simp) rfl) rfl ?_
              refine G.grun (t := 105) rfl rfl rfl ?_
              refine G.op (OpSpec.call Try.func31 rfl rfl (vs := [_, _]) rfl (same4_spec x d τ (.slice ub bl.length uc) bl ba bb q hst2.1 (by omega) hq (by omega))) (by (repeat (first | exact Picks.nil | (apply Picks.cons; (repeat (first | exact Pick.here | apply Pick.there)))))) rfl ?nx127
              rintro v L' ⟨rfl, rfl⟩
              refine G.grun (t := 105) rfl rfl rfl ?_
              refine G.q (Quiet.not rfl) rfl ?_
              refine G.q (Quiet.pickT rfl rfl) rfl ?_
              refine G.q (Quiet.move rfl) rfl ?_
              refine G.bool (t := 111) rfl (fun h22_111 => ?_) (fun h22_111 => ?_)
              · refine G.kB (t := 109) rfl h22_111 ?_
                refine G.kB (t := 110) rfl h22_111 ?_
                refine G.grun (t := 111) rfl rfl rfl ?_
                refine G.q (Quiet.fieldAddr rfl fo_42_0) rfl ?_
                refine G.grun (t := 111) rfl rfl rfl ?_
                refine G.q (Quiet.load rfl ag_3 (by (repeat (first | exact Pick.here | apply Pick.there))) (rfl)) rfl ?_
                refine G.grun (t := 111) rfl rfl rfl ?_
                refine G.q (Quiet.as (v' := .bool false) (by simp [h5]) (Quiet.int rfl rfl rfl)) rfl ?_
                refine G.q (Quiet.pickT rfl rfl) rfl ?_
                refine G.nil ?_
                refine G.then_n ?_
                refine G.condF rfl ?_
                refine G.skip ?_
                refine G.then_n ?_
                refine G.exit ?_
                refine G.then_e ?_
                refine G.blk_e ?_
                refine G.then_n ?_
                refine G.region ?_
                refine G.q (Quiet.move rfl) rfl ?_
                refine G.q (Quiet.add rfl rfl (by omega)) rfl ?_
                refine G.q (Quiet.assign rfl) rfl ?_
                refine G.nil ?_
                refine G.then_n ?_
                exact G.roundK ((i + 1, σ, τ, x)) (⟨by dsimp only; omega, by dsimp only; omega, hLt.more (by omega)⟩) (by dsimp only; omega) ⟨rfl, rfl, rfl, rfl, trivial⟩ (by (repeat (first | exact Picks.nil | (apply Picks.cons; (repeat (first | exact Pick.here | apply Pick.there)))))) (by ((repeat (apply Have.cons; (repeat (first | exact Pick.here | apply Pick.there)))); apply Have.base; repeat (first | exact Suff.here | apply Suff.there)))
              · refine G.kB (t := 109) rfl h22_111 ?_
                refine G.kB (t := 110) rfl h22_111 ?_
                refine G.gskip (t := 111) rfl rfl rfl rfl ?_
                refine G.gskip (t := 111) rfl rfl rfl rfl ?_
                refine G.gskip (t := 111) rfl rfl rfl rfl ?_
                refine G.q (Quiet.pickF rfl rfl) rfl ?_
                refine G.nil ?_
                refine G.then_n ?_
                refine G.condF rfl ?_
                refine G.skip ?_
                refine G.then_n ?_
                refine G.exit ?_
                refine G.then_e ?_
                refine G.blk_e ?_
                refine G.then_n ?_
                refine G.region ?_
                refine G.q (Quiet.move rfl) rfl ?_
                refine G.q (Quiet.add rfl rfl (by omega)) rfl ?_
                refine G.q (Quiet.assign rfl) rfl ?_
                refine G.nil ?_
                refine G.then_n ?_
                exact G.roundK ((i + 1, σ, τ, x)) (⟨by dsimp only; omega, by dsimp only; omega, hLt.more (by omega)⟩) (by dsimp only; omega) ⟨rfl, rfl, rfl, rfl, trivial⟩ (by (repeat (first | exact Picks.nil | (apply Picks.cons; (repeat (first | exact Pick.here | apply Pick.there)))))) (by ((repeat (apply Have.cons; (repeat (first | exact Pick.here | apply Pick.there)))); apply Have.base; repeat (first | exact Suff.here | apply Suff.there)))
          · have her : er = 2 := by simpa using h99
            refine G.dkOk (d := d) (δ := σ) (by (repeat (first | exact Pick.here | apply Pick.there))) fun hok1 => ?_
            obtain ⟨ω2, hL2, hop2, hsm⟩ := hR.dead her hok1 xs[i].2.how
            dsimp only at hL2 hop2 hsm
            have hok2 := hok1.crashed xs[i].2.how
            have hs2 := hL2.well.synced
            have hr2 := laidZ_many ω2.recs
            have hf2 := hL2.well.fits
            have hh2 := half_le hL2.well.size
            refine G.skip ?_
            refine G.then_n ?_
            refine G.seq ?_
            refine G.region ?_
            refine G.q (Quiet.move rfl) rfl ?_
            refine G.q (Quiet.fieldAddr rfl fo_42_4) rfl ?_
            refine G.q (Quiet.load rfl ag_40 (by (repeat (first | exact Pick.here | apply Pick.there))) (rfl)) rfl ?_
            refine G.op (OpSpec.call Try.func53 rfl rfl (vs := [_, _]) rfl (crash_spec d σ xs[i].1.2 xs[i].2.how p (hops.hows _ hmem) hob2)) (by (repeat (first | exact Picks.nil | (apply Picks.cons; (repeat (first | exact Pick.here | apply Pick.there)))))) rfl ?nx141
            rintro v L' ⟨rfl, rfl⟩
            refine G.nil ?_
            refine G.then_n ?_
            refine G.seq ?_
            refine G.region ?_
            refine G.q (Quiet.move rfl) rfl ?_
            refine G.op (OpSpec.call Try.func30 rfl rfl (vs := [_]) rfl (open_spec d (σ.crash xs[i].2.how) hL2.well.size hok2)) (by (repeat (first | exact Picks.nil | (apply Picks.cons; (repeat (first | exact Pick.here | apply Pick.there)))))) rfl ?nx144
            rintro v L' (⟨h, -, -⟩ | ⟨-, h, -, -⟩ | ⟨-, ω3, hop3, y, rfl, rfl⟩); · rw [hL2.dead] at h; cases h
            · rw [hop2] at h; cases h
            obtain rfl : ω2 = ω3 := by rw [hop2] at hop3; exact Option.some.inj hop3
            refine G.q (Quiet.move rfl) rfl ?_
            refine G.q (Quiet.extract rfl rfl) rfl ?_
            refine G.q (Quiet.extract rfl rfl) rfl ?_
            refine G.q (Quiet.assign rfl) rfl ?_
            refine G.q (Quiet.assign rfl) rfl ?_
            refine G.nil ?_
            refine G.then_n ?_
            refine G.seq ?_
            refine G.seq ?_
            refine G.region ?_
            refine G.q (Quiet.move rfl) rfl ?_
            refine G.q (Quiet.ptreq rfl rfl Try.underlying34) rfl ?_
            refine G.q (Quiet.move rfl) rfl ?_
            refine G.grun (t := 127) rfl rfl rfl ?_
            refine G.q (Quiet.move rfl) rfl ?_
            refine G.grun (t := 127) rfl rfl rfl ?_
            refine G.q (Quiet.as (v' := .bool false) (by rfl) (Quiet.int rfl rfl rfl)) rfl ?_
            refine G.q (Quiet.pickF rfl rfl) rfl ?_
            refine G.nil ?_
            refine G.then_n ?_
            refine G.condF rfl ?_
            refine G.skip ?_
            refine G.then_n ?_
            refine G.seq ?_
            refine G.region ?_
            rcases hsm with hsm | ⟨hbt, hsm⟩
            · refine G.q (Quiet.move rfl) rfl ?_
              refine G.q (Quiet.loadAs (vs := [.slice a1 (toldZ ω false).length c1, vint ω.a, vint ω.b]) rfl ag_54 (by (repeat (first | exact Pick.here | apply Pick.there))) (by simp) rfl) rfl ?_
              refine G.op (OpSpec.call Try.func31 rfl rfl (vs := [_, _]) rfl (same4_spec y d ω2 (.slice a1 (toldZ ω false).length c1) (toldZ ω false) ω.a ω.b (strR (.slice a1 (toldZ ω false).length c1) (toldZ ω false)) hs2.1 (by omega) (fun h hp => slR_rd hp) (by omega))) (by (repeat (first | exact Picks.nil | (apply Picks.cons; (repeat (first | exact Pick.here | apply Pick.there)))))) rfl ?nx151
              rintro v L' ⟨rfl, rfl⟩; rw [hsm]
              refine G.q (Quiet.assign rfl) rfl ?_
              refine G.nil ?_
              refine G.then_n ?_
              refine G.seq ?_
              refine G.region ?_
              refine G.q (Quiet.move rfl) rfl ?_
              refine G.q (Quiet.move rfl) rfl ?_
              refine G.bool (t := 135) rfl (fun h29_135 => ?_) (fun h29_135 => ?_)
              · refine G.kB (t := 94) rfl h29_135 ?_
                refine G.kB (t := 14) rfl h29_135 ?_
                refine G.kB (t := 134) rfl h29_135 ?_
                refine G.grun (t := 135) rfl rfl rfl ?_
                refine G.q (Quiet.move rfl) rfl ?_
                refine G.grun (t := 135) rfl rfl rfl ?_
                refine G.q (Quiet.loadAs (vs := [.slice ub bl.length uc, vint ba, vint bb]) rfl ag_54 (by (repeat (first | exact Pick.here | apply Pick.there))) (by simp) rfl) rfl ?_
                refine G.grun (t := 135) rfl rfl rfl ?_
                refine G.op (OpSpec.call Try.func31 rfl rfl (vs := [_, _]) rfl (same4_spec y d ω2 (.slice ub bl.length uc) bl ba bb q hs2.1 (by omega) hq (by omega))) (by (repeat (first | exact Picks.nil | (apply Picks.cons; (repeat (first | exact Pick.here | apply Pick.there)))))) rfl ?nx154
                rintro v L' ⟨rfl, rfl⟩
                refine G.q (Quiet.pickT rfl rfl) rfl ?_
                refine G.q (Quiet.assign rfl) rfl ?_
                refine G.nil ?_
                refine G.then_n ?_
                refine G.seq ?_
                refine G.region ?_
                refine G.q (Quiet.move rfl) rfl ?_
                refine G.q (Quiet.not rfl) rfl ?_
                refine G.q (Quiet.move rfl) rfl ?_
                refine G.gskip (t := 142) rfl rfl rfl rfl ?_
                refine G.gskip (t := 142) rfl rfl rfl rfl ?_
                refine G.q (Quiet.pickF rfl rfl) rfl ?_
                refine G.nil ?_
                refine G.then_n ?_
                refine G.condF rfl ?_
                refine G.skip ?_
                refine G.blk_n ?_
                refine G.then_n ?_
                refine G.region ?_
                refine G.q (Quiet.move rfl) rfl ?_
                refine G.q (Quiet.add rfl rfl (by omega)) rfl ?_
                refine G.q (Quiet.assign rfl) rfl ?_
                refine G.nil ?_
                refine G.then_n ?_
                exact G.roundK ((i + 1, σ.crash xs[i].2.how, ω2, y)) (⟨by dsimp only; omega, by dsimp only; omega, hL2.more (by omega)⟩) (by dsimp only; omega) ⟨rfl, rfl, rfl, rfl, trivial⟩ (by (repeat (first | exact Picks.nil | (apply Picks.cons; (repeat (first | exact Pick.here | apply Pick.there)))))) (by ((repeat (apply Have.cons; (repeat (first | exact Pick.here | apply Pick.there)))); apply Have.base; repeat (first | exact Suff.here | apply Suff.there)))
              · refine G.kB (t := 94) rfl h29_135 ?_
                refine G.kB (t := 14) rfl h29_135 ?_
                refine G.kB (t := 134) rfl h29_135 ?_
                refine G.gskip (t := 135) rfl rfl rfl rfl ?_
                refine G.gskip (t := 135) rfl rfl rfl rfl ?_
                refine G.gskip (t := 135) rfl rfl rfl rfl ?_
                refine G.q (Quiet.pickF rfl rfl) rfl ?_
                refine G.q (Quiet.assign rfl) rfl ?_
                refine G.nil ?_
                refine G.then_n ?_
                refine G.seq ?_
                refine G.region ?_
                refine G.q (Quiet.move rfl) rfl ?_
                refine G.q (Quiet.not rfl) rfl ?_
                refine G.q (Quiet.move rfl) rfl ?_
                refine G.gskip (t := 142) rfl rfl rfl rfl ?_
                refine G.gskip (t := 142) rfl rfl rfl rfl ?_
                refine G.q (Quiet.pickF rfl rfl) rfl ?_
                refine G.nil ?_
                refine G.then_n ?_
                refine G.condF rfl ?_
                refine G.skip ?_
                refine G.blk_n ?_
                refine G.then_n ?_
                refine G.region ?_
                refine G.q (Quiet.move rfl) rfl ?_
                refine G.q (Quiet.add rfl rfl (by omega)) rfl ?_
                refine G.q (Quiet.assign rfl) rfl ?_
                refine G.nil ?_
                refine G.then_n ?_
                exact G.roundK ((i + 1, σ.crash xs[i].2.how, ω2, y)) (⟨by dsimp only; omega, by dsimp only; omega, hL2.more (by omega)⟩) (by dsimp only; omega) ⟨rfl, rfl, rfl, rfl, trivial⟩ (by (repeat (first | exact Picks.nil | (apply Picks.cons; (repeat (first | exact Pick.here | apply Pick.there)))))) (by ((repeat (apply Have.cons; (repeat (first | exact Pick.here | apply Pick.there)))); apply Have.base; repeat (first | exact Suff.here | apply Suff.there)))
            · subst hbt
              refine G.q (Quiet.move rfl) rfl ?_
              refine G.q (Quiet.loadAs (vs := [.slice a1 (toldZ ω false).length c1, vint ω.a, vint ω.b]) rfl ag_54 (by (repeat (first | exact Pick.here | apply Pick.there))) (by simp) rfl) rfl ?_
              refine G.op (OpSpec.call Try.func31 rfl rfl (vs := [_, _]) rfl (same4_spec y d ω2 (.slice a1 (toldZ ω false).length c1) (toldZ ω false) ω.a ω.b (strR (.slice a1 (toldZ ω false).length c1) (toldZ ω false)) hs2.1 (by omega) (fun h hp => slR_rd hp) (by omega))) (by (repeat (first | exact Picks.nil | (apply Picks.cons; (repeat (first | exact Pick.here | apply Pick.there)))))) rfl ?nx166
              rintro v L' ⟨rfl, rfl⟩
              refine G.q (Quiet.assign rfl) rfl ?_
              refine G.nil ?_
              refine G.then_n ?_
              refine G.seq ?_
              refine G.region ?_
              refine G.q (Quiet.move rfl) rfl ?_
              refine G.q (Quiet.move rfl) rfl ?_
              refine G.grun (t := 135) rfl rfl rfl ?_
              refine G.q (Quiet.move rfl) rfl ?_
              refine G.grun (t := 135) rfl rfl rfl ?_
              refine G.q (Quiet.loadAs (vs := [.slice ub bl.length uc, vint ba, vint bb]) rfl ag_54 (by (repeat (first | exact Pick.here | apply Pick.there))) (by simp) rfl) rfl ?_
              refine G.grun (t := 135) rfl rfl rfl ?_
              refine G.op (OpSpec.call Try.func31 rfl rfl (vs := [_, _]) rfl (same4_spec y d ω2 (.slice ub bl.length uc) bl ba bb q hs2.1 (by omega) hq (by omega))) (by (repeat (first | exact Picks.nil | (apply Picks.cons; (repeat (first | exact Pick.here | apply Pick.there)))))) rfl ?nx169
              rintro v L' ⟨rfl, rfl⟩; rw [hsm]
              refine G.q (Quiet.pickT rfl rfl) rfl ?_
              refine G.q (Quiet.assign rfl) rfl ?_
              refine G.nil ?_
              refine G.then_n ?_
              refine G.seq ?_
              refine G.region ?_
              refine G.q (Quiet.move rfl) rfl ?_
              refine G.q (Quiet.not rfl) rfl ?_
              refine G.q (Quiet.move rfl) rfl ?_
              refine G.bool (t := 142) rfl (fun h30_142 => ?_) (fun h30_142 => ?_)
              · refine G.kB (t := 141) rfl h30_142 ?_
                refine G.grun (t := 142) rfl rfl rfl ?_
                refine G.q (Quiet.move rfl) rfl ?_
                refine G.grun (t := 142) rfl rfl rfl ?_
                refine G.q (Quiet.not rfl) rfl ?_
                refine G.q (Quiet.pickT rfl rfl) rfl ?_
                refine G.nil ?_
                refine G.then_n ?_
                refine G.condF rfl ?_
                refine G.skip ?_
                refine G.blk_n ?_
                refine G.then_n ?_
                refine G.region ?_
                refine G.q (Quiet.move rfl) rfl ?_
                refine G.q (Quiet.add rfl rfl (by omega)) rfl ?_
                refine G.q (Quiet.assign rfl) rfl ?_
                refine G.nil ?_
                refine G.then_n ?_
                exact G.roundK ((i + 1, σ.crash xs[i].2.how, ω2, y)) (⟨by dsimp only; omega, by dsimp only; omega, hL2.more (by omega)⟩) (by dsimp only; omega) ⟨rfl, rfl, rfl, rfl, trivial⟩ (by (repeat (first | exact Picks.nil | (apply Picks.cons; (repeat (first | exact Pick.here | apply Pick.there)))))) (by ((repeat (apply Have.cons; (repeat (first | exact Pick.here | apply Pick.there)))); apply Have.base; repeat (first | exact Suff.here | apply Suff.there)))
              · refine G.kB (t := 141) rfl h30_142 ?_
                refine G.gskip (t := 142) rfl rfl rfl rfl ?_
                refine G.gskip (t := 142) rfl rfl rfl rfl ?_
                refine G.q (Quiet.pickF rfl rfl) rfl ?_
                refine G.nil ?_
                refine G.then_n ?_
                refine G.condF rfl ?_
                refine G.skip ?_
                refine G.blk_n ?_
                refine G.then_n ?_
                refine G.region ?_
                refine G.q (Quiet.move rfl) rfl ?_
                refine G.q (Quiet.add rfl rfl (by omega)) rfl ?_
                refine G.q (Quiet.assign rfl) rfl ?_
                refine G.nil ?_
                refine G.then_n ?_
                exact G.roundK ((i + 1, σ.crash xs[i].2.how, ω2, y)) (⟨by dsimp only; omega, by dsimp only; omega, hL2.more (by omega)⟩) (by dsimp only; omega) ⟨rfl, rfl, rfl, rfl, trivial⟩ (by (repeat (first | exact Picks.nil | (apply Picks.cons; (repeat (first | exact Pick.here | apply Pick.there)))))) (by ((repeat (apply Have.cons; (repeat (first | exact Pick.here | apply Pick.there)))); apply Have.base; repeat (first | exact Suff.here | apply Suff.there)))
    · refine G.exit ?_
      refine G.then_e ?_
      refine G.then_e ?_
      refine G.blk_e ?_
      refine G.then_n ?_
      refine G.seq ?_
      have hI := hL.i (by omega)
      have hfit := hI.fits
      have hh := half_le hI.size
      have hrm := laidZ_many ω.recs
      have hst := hI.synced
      have htw : (toldZ ω false).length ≤ ω.recs.length := by have := toldZ_le ω false; unfold tl at this; rw [if_neg (by rw [hL.well.doubt]; decide)] at this; exact this
      obtain ⟨ha1, hLa⟩ := lv_arm hL (Int.le_refl 0)
      refine G.region ?_
      refine G.q (Quiet.move rfl) rfl ?_
      refine G.op (OpSpec.call Try.func29 rfl rfl (vs := [_, _]) rfl (told_spec x d ω false hst.1 (by omega))) (by (repeat (first | exact Picks.nil | (apply Picks.cons; (repeat (first | exact Pick.here | apply Pick.there)))))) rfl ?nx179
      rintro v L' ⟨a1, c1, rfl, rfl⟩
      refine G.op (OpSpec.allocA ze_54) (by (repeat (first | exact Picks.nil | (apply Picks.cons; (repeat (first | exact Pick.here | apply Pick.there)))))) rfl ?nx181
      rintro v L' ⟨bw, rfl, rfl⟩
      refine G.op (OpSpec.storeA rfl rfl ?c183 sz_54 ?c186 ?c184 ?c185) (by (repeat (first | exact Picks.nil | (apply Picks.cons; (repeat (first | exact Pick.here | apply Pick.there)))))) rfl ?nx187
      case c183 => (first | (simp [isCell]; done) | (simp [isCell, setAll, Value.cells]; done))
      case c186 => (first | (simp; done) | (simp [setAll, spl, Value.cells]; done))
      case c184 => (first | (simp; done) | (simp [setAll, spl, Value.cells]; done))
      case c185 => exact nfz0 _ _
      rintro v L' rfl
      refine G.nil ?_
      refine G.ptCast (b := bw) (l' := [.slice a1 (toldZ ω false).length c1, vint ω.a, vint ω.b]) (by (repeat (first | exact Pick.here | apply Pick.there))) rfl ?_
      refine G.then_n ?_
      refine G.seq ?_
      refine G.seq ?_
      refine G.region ?_
      refine G.q (Quiet.move rfl) rfl ?_
      refine G.op (OpSpec.call Try.func51 rfl rfl (vs := [_, _]) rfl (arm_spec d δ 0 (by decide))) (by (repeat (first | exact Picks.nil | (apply Picks.cons; (repeat (first | exact Pick.here | apply Pick.there)))))) rfl ?nx189
      rintro v L' ⟨rfl, rfl⟩; rw [ha1]
      refine G.q (Quiet.int rfl rfl rfl) rfl ?_
      refine G.nil ?_
      refine G.then_n ?_
      refine G.condF rfl ?_
      refine G.skip ?_
      refine G.then_n ?_
      refine G.seq ?_
      refine G.dkOk (d := d) (δ := (δ.arm 0).1) (by (repeat (first | exact Pick.here | apply Pick.there))) fun hok1 => ?_
      obtain ⟨ω2, hL2, hop2, hsm⟩ := lv_end hLa hok1 []
      have hok2 := hok1.crashed []
      have hs2 := hL2.well.synced
      have hr2 := laidZ_many ω2.recs
      have hf2 := hL2.well.fits
      have hh2 := half_le hL2.well.size
      refine G.region ?_
      refine G.q (Quiet.move rfl) rfl ?_
      refine G.op (OpSpec.call Try.func53 rfl rfl (vs := [_, _]) rfl (crash_spec d (δ.arm 0).1 (.slice none 0 0) [] p (fun _ _ => .inl ⟨rfl, rfl, none, 0, rfl⟩) (by simp))) (by (repeat (first | exact Picks.nil | (apply Picks.cons; (repeat (first | exact Pick.here | apply Pick.there)))))) rfl ?nx193
      rintro v L' ⟨rfl, rfl⟩
      refine G.nil ?_
      refine G.then_n ?_
      refine G.seq ?_
      refine G.region ?_
      refine G.q (Quiet.move rfl) rfl ?_
      refine G.op (OpSpec.call Try.func30 rfl rfl (vs := [_]) rfl (open_spec d ((δ.arm 0).1.crash []) hL2.well.size hok2)) (by (repeat (first | exact Picks.nil | (apply Picks.cons; (repeat (first | exact Pick.here | apply Pick.there)))))) rfl ?nx196
      rintro v L' (⟨h, -, -⟩ | ⟨-, h, -, -⟩ | ⟨-, ω3, hop3, y, rfl, rfl⟩); · rw [hL2.dead] at h; cases h
      · rw [hop2] at h; cases h
      obtain rfl : ω2 = ω3 := by rw [hop2] at hop3; exact Option.some.inj hop3
      refine G.q (Quiet.move rfl) rfl ?_
      refine G.q (Quiet.extract rfl rfl) rfl ?_
      refine G.q (Quiet.extract rfl rfl) rfl ?_
      refine G.q (Quiet.assign rfl) rfl ?_
      refine G.q (Quiet.assign rfl) rfl ?_
      refine G.nil ?_
      refine G.then_n ?_
      refine G.seq ?_
      refine G.region ?_
      refine G.q (Quiet.move rfl) rfl ?_
      refine G.q (Quiet.ptrne rfl rfl Try.underlying34) rfl ?_
      refine G.q (Quiet.move rfl) rfl ?_
      refine G.grun (t := 160) rfl rfl rfl ?_
      refine G.q (Quiet.move rfl) rfl ?_
      refine G.grun (t := 160) rfl rfl rfl ?_
      refine G.q (Quiet.as (v' := .bool true) (by rfl) (Quiet.int rfl rfl rfl)) rfl ?_
      refine G.q (Quiet.pickT rfl rfl) rfl ?_
      refine G.q (Quiet.move rfl) rfl ?_
      refine G.grun (t := 164) rfl rfl rfl ?_
      refine G.q (Quiet.move rfl) rfl ?_
      refine G.grun (t := 164) rfl rfl rfl ?_
      refine G.q (Quiet.loadAs (vs := [.slice a1 (toldZ ω false).length c1, vint ω.a, vint ω.b]) rfl ag_54 (by (repeat (first | exact Pick.here | apply Pick.there))) (by simp) rfl) rfl ?_
      refine G.grun (t := 164) rfl rfl rfl ?_
      refine G.op (OpSpec.call Try.func31 rfl rfl (vs := [_, _]) rfl (same4_spec y d ω2 (.slice a1 (toldZ ω false).length c1) (toldZ ω false) ω.a ω.b (strR (.slice a1 (toldZ ω false).length c1) (toldZ ω false)) hs2.1 (by omega) (fun h hp => slR_rd hp) (by omega))) (by (repeat (first | exact Picks.nil | (apply Picks.cons; (repeat (first | exact Pick.here | apply Pick.there)))))) rfl ?nx203
      rintro v L' ⟨rfl, rfl⟩; rw [hsm]
      refine G.q (Quiet.pickT rfl rfl) rfl ?_
      refine G.q (Quiet.assign rfl) rfl ?_
      refine G.nil ?_
      refine G.then_n ?_
      refine G.ret ?_
      exact G.done (l := [.tmp 4]) rfl rfl ⟨rfl, rfl⟩ (by (repeat (first | exact Picks.nil | (apply Picks.cons; (repeat (first | exact Pick.here | apply Pick.there)))))) (by (repeat (first | exact Suff.here | apply Suff.there)))
  · refine G.kDF (t := 52) rfl h9_53 ?_
    refine G.gskip (t := 53) rfl rfl rfl rfl ?_
    refine G.gskip (t := 53) rfl rfl rfl rfl ?_
    refine G.q (Quiet.pickF rfl rfl) rfl ?_
    refine G.nil ?_
    refine G.then_n ?_
    refine G.condF rfl ?_
    refine G.exit ?_
    refine G.then_e ?_
    refine G.then_e ?_
    refine G.blk_e ?_
    refine G.then_n ?_
    refine G.seq ?_
    have hI := hL.i (by omega)
    have hfit := hI.fits
    have hh := half_le hI.size
    have hrm := laidZ_many ω.recs
    have hst := hI.synced
    have htw : (toldZ ω false).length ≤ ω.recs.length := by have := toldZ_le ω false; unfold tl at this; rw [if_neg (by rw [hL.well.doubt]; decide)] at this; exact this
    obtain ⟨ha1, hLa⟩ := lv_arm hL (Int.le_refl 0)
    refine G.region ?_
    refine G.q (Quiet.move rfl) rfl ?_
    refine G.op (OpSpec.call Try.func29 rfl rfl (vs := [_, _]) rfl (told_spec x d ω false hst.1 (by omega))) (by (repeat (first | exact Picks.nil | (apply Picks.cons; (repeat (first | exact Pick.here | apply Pick.there)))))) rfl ?nx207
    rintro v L' ⟨a1, c1, rfl, rfl⟩
    refine G.op (OpSpec.allocA ze_54) (by (repeat (first | exact Picks.nil | (apply Picks.cons; (repeat (first | exact Pick.here | apply Pick.there)))))) rfl ?nx209
    rintro v L' ⟨bw, rfl, rfl⟩
    refine G.op (OpSpec.storeA rfl rfl ?c211 sz_54 ?c214 ?c212 ?c213) (by (repeat (first | exact Picks.nil | (apply Picks.cons; (repeat (first | exact Pick.here | apply Pick.there)))))) rfl ?nx215
    case c211 => (first | (simp [isCell]; done) | (simp [isCell, setAll, Value.cells]; done))
    case c214 => (first | (simp; done) | (simp [setAll, spl, Value.cells]; done))
    case c212 => (first | (simp; done) | (simp [setAll, spl, Value.cells]; done))
    case c213 => exact nfz0 _ _
    rintro v L' rfl
    refine G.nil ?_
    refine G.ptCast (b := bw) (l' := [.slice a1 (toldZ ω false).length c1, vint ω.a, vint ω.b]) (by (repeat (first | exact Pick.here | apply Pick.there))) rfl ?_
    refine G.then_n ?_
    refine G.seq ?_
    refine G.seq ?_
    refine G.region ?_
    refine G.q (Quiet.move rfl) rfl ?_
    refine G.op (OpSpec.call Try.func51 rfl rfl (vs := [_, _]) rfl (arm_spec d δ 0 (by decide))) (by (repeat (first | exact Picks.nil | (apply Picks.cons; (repeat (first | exact Pick.here | apply Pick.there)))))) rfl ?nx217
    rintro v L' ⟨rfl, rfl⟩; rw [ha1]
    refine G.q (Quiet.int rfl rfl rfl) rfl ?_
    refine G.nil ?_
    refine G.then_n ?_
    refine G.condF rfl ?_
    refine G.skip ?_
    refine G.then_n ?_
    refine G.seq ?_
    refine G.dkOk (d := d) (δ := (δ.arm 0).1) (by (repeat (first | exact Pick.here | apply Pick.there))) fun hok1 => ?_
    obtain ⟨ω2, hL2, hop2, hsm⟩ := lv_end hLa hok1 []
    have hok2 := hok1.crashed []
    have hs2 := hL2.well.synced
    have hr2 := laidZ_many ω2.recs
    have hf2 := hL2.well.fits
    have hh2 := half_le hL2.well.size
    refine G.region ?_
    refine G.q (Quiet.move rfl) rfl ?_
    refine G.op (OpSpec.call Try.func53 rfl rfl (vs := [_, _]) rfl (crash_spec d (δ.arm 0).1 (.slice none 0 0) [] p (fun _ _ => .inl ⟨rfl, rfl, none, 0, rfl⟩) (by simp))) (by (repeat (first | exact Picks.nil | (apply Picks.cons; (repeat (first | exact Pick.here | apply Pick.there)))))) rfl ?nx221
    rintro v L' ⟨rfl, rfl⟩
    refine G.nil ?_
    refine G.then_n ?_
    refine G.seq ?_
    refine G.region ?_
    refine G.q (Quiet.move rfl) rfl ?_
    refine G.op (OpSpec.call Try.func30 rfl rfl (vs := [_]) rfl (open_spec d ((δ.arm 0).1.crash []) hL2.well.size hok2)) (by (repeat (first | exact Picks.nil | (apply Picks.cons; (repeat (first | exact Pick.here | apply Pick.there)))))) rfl ?nx224
    rintro v L' (⟨h, -, -⟩ | ⟨-, h, -, -⟩ | ⟨-, ω3, hop3, y, rfl, rfl⟩); · rw [hL2.dead] at h; cases h
    · rw [hop2] at h; cases h
    obtain rfl : ω2 = ω3 := by rw [hop2] at hop3; exact Option.some.inj hop3
    refine G.q (Quiet.move rfl) rfl ?_
    refine G.q (Quiet.extract rfl rfl) rfl ?_
    refine G.q (Quiet.extract rfl rfl) rfl ?_
    refine G.q (Quiet.assign rfl) rfl ?_
    refine G.q (Quiet.assign rfl) rfl ?_
    refine G.nil ?_
    refine G.then_n ?_
    refine G.seq ?_
    refine G.region ?_
    refine G.q (Quiet.move rfl) rfl ?_
    refine G.q (Quiet.ptrne rfl rfl Try.underlying34) rfl ?_
    refine G.q (Quiet.move rfl) rfl ?_
    refine G.grun (t := 160) rfl rfl rfl ?_
    refine G.q (Quiet.move rfl) rfl ?_
    refine G.grun (t := 160) rfl rfl rfl ?_
    refine G.q (Quiet.as (v' := .bool true) (by rfl) (Quiet.int rfl rfl rfl)) rfl ?_
    refine G.q (Quiet.pickT rfl rfl) rfl ?_
    refine G.q (Quiet.move rfl) rfl ?_
    refine G.grun (t := 164) rfl rfl rfl ?_
    refine G.q (Quiet.move rfl) rfl ?_
    refine G.grun (t := 164) rfl rfl rfl ?_
    refine G.q (Quiet.loadAs (vs := [.slice a1 (toldZ ω false).length c1, vint ω.a, vint ω.b]) rfl ag_54 (by (repeat (first | exact Pick.here | apply Pick.there))) (by simp) rfl) rfl ?_
    refine G.grun (t := 164) rfl rfl rfl ?_
    refine G.op (OpSpec.call Try.func31 rfl rfl (vs := [_, _]) rfl (same4_spec y d ω2 (.slice a1 (toldZ ω false).length c1) (toldZ ω false) ω.a ω.b (strR (.slice a1 (toldZ ω false).length c1) (toldZ ω false)) hs2.1 (by omega) (fun h hp => slR_rd hp) (by omega))) (by (repeat (first | exact Picks.nil | (apply Picks.cons; (repeat (first | exact Pick.here | apply Pick.there)))))) rfl ?nx231
    rintro v L' ⟨rfl, rfl⟩; rw [hsm]
    refine G.q (Quiet.pickT rfl rfl) rfl ?_
    refine G.q (Quiet.assign rfl) rfl ?_
    refine G.nil ?_
    refine G.then_n ?_
    refine G.ret ?_
    exact G.done (l := [.tmp 4]) rfl rfl ⟨rfl, rfl⟩ (by (repeat (first | exact Picks.nil | (apply Picks.cons; (repeat (first | exact Pick.here | apply Pick.there)))))) (by (repeat (first | exact Suff.here | apply Suff.there)))

end Go.Proofs.Ytepncdidkjjllaa
