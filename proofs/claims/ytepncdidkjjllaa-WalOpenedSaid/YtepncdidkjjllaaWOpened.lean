/- Own work, by program: WalOpened: walked. -/
import Derived.Test.YtepncdidkjjllaaL4I
namespace Go.Proofs.Ytepncdidkjjllaa
open Go
set_option maxRecDepth 100000 in
theorem wopened_spec (n0 n2 : Int) (v1 : Value) (xs : List Op4V) (p : HP) (hn0 : -9223372036854775808 ≤ n0 ∧ n0 ≤ 9223372036854775807) (hn2 : -9223372036854775808 ≤ n2 ∧ n2 ≤ 9223372036854775807) (hops : Ops4 p v1 xs) : Fn Try.prog 5 #[vint n0, v1, vint n2] [p] fun v L => v = .bool true ∧ L = [p] := by
  refine Fn.intro (vs := [vint n0, v1, vint n2]) Try.func5 rfl rfl ?_
  intro F W
  have hcells := hops.cells
  have hopl := hops.len
  refine G.rdAny (p := p) hcells (by (repeat (first | exact Pick.here | apply Pick.there))) fun a0 c0 e _ => ?_
  subst e
  have hpk := pickZ_range n0 (n := 100) (by decide)
  have hpt := pickZ_range n2 (n := 5) (by decide)
  obtain ⟨hff, hfw, -⟩ := format_well (n := 16 + pickZ n0 100) (by omega)
  have hfk := kp_new (n := 16 + pickZ n0 100) (by omega)
  refine G.seq ?_
  refine G.region ?_
  refine G.q (Quiet.assign rfl) rfl ?_
  refine G.nil ?_
  refine G.then_n ?_
  refine G.seq ?_
  refine G.region ?_
  refine G.op (OpSpec.call Try.func14 rfl rfl (vs := []) rfl (awake4_spec)) (by (repeat (first | exact Picks.nil | (apply Picks.cons; (repeat (first | exact Pick.here | apply Pick.there)))))) rfl ?nx2
  rintro v L' ⟨rfl, rfl⟩
  refine G.q (Quiet.assign rfl) rfl ?_
  refine G.nil ?_
  refine G.then_n ?_
  refine G.seq ?_
  refine G.region ?_
  refine G.q (Quiet.move rfl) rfl ?_
  refine G.op (OpSpec.call Try.func22 rfl rfl (vs := [_, _]) rfl (pick4_spec n0 100 hn0 (by decide))) (by (repeat (first | exact Picks.nil | (apply Picks.cons; (repeat (first | exact Pick.here | apply Pick.there)))))) rfl ?nx5
  rintro v L' ⟨rfl, rfl⟩
  refine G.q (Quiet.add rfl rfl (by omega)) rfl ?_
  refine G.op (OpSpec.call Try.func15 rfl rfl (vs := [_]) rfl (new_spec (16 + pickZ n0 100))) (by (repeat (first | exact Picks.nil | (apply Picks.cons; (repeat (first | exact Pick.here | apply Pick.there)))))) rfl ?nx8
  rintro v L' (⟨h, -, -⟩ | ⟨-, d, rfl, rfl⟩); · omega
  refine G.q (Quiet.move rfl) rfl ?_
  refine G.q (Quiet.extract rfl rfl) rfl ?_
  refine G.q (Quiet.extract rfl rfl) rfl ?_
  refine G.q (Quiet.assign rfl) rfl ?_
  refine G.q (Quiet.assign rfl) rfl ?_
  refine G.nil ?_
  refine G.then_n ?_
  refine G.seq ?_
  refine G.region ?_
  refine G.q (Quiet.move rfl) rfl ?_
  refine G.op (OpSpec.call Try.func23 rfl rfl (vs := [_]) rfl (format_spec d (Dk.new (16 + pickZ n0 100)) (by show (0 : Int) + 10 < _; decide))) (by (repeat (first | exact Picks.nil | (apply Picks.cons; (repeat (first | exact Pick.here | apply Pick.there)))))) rfl ?nx12
  rintro v L' (⟨h, -, -⟩ | ⟨-, x, rfl, rfl⟩); · rw [hff] at h; cases h
  refine G.q (Quiet.move rfl) rfl ?_
  refine G.q (Quiet.extract rfl rfl) rfl ?_
  refine G.q (Quiet.extract rfl rfl) rfl ?_
  refine G.q (Quiet.assign rfl) rfl ?_
  refine G.q (Quiet.assign rfl) rfl ?_
  refine G.nil ?_
  refine G.then_n ?_
  refine G.seq ?_
  refine G.seq ?_
  refine G.region ?_
  refine G.q (Quiet.move rfl) rfl ?_
  refine G.q (Quiet.not rfl) rfl ?_
  refine G.q (Quiet.move rfl) rfl ?_
  refine G.grun (t := 34) rfl rfl rfl ?_
  refine G.q (Quiet.move rfl) rfl ?_
  refine G.grun (t := 34) rfl rfl rfl ?_
  refine G.q (Quiet.ptreq rfl rfl Try.underlying34) rfl ?_
  refine G.q (Quiet.pickF rfl rfl) rfl ?_
  refine G.q (Quiet.move rfl) rfl ?_
  refine G.grun (t := 38) rfl rfl rfl ?_
  refine G.q (Quiet.move rfl) rfl ?_
  refine G.grun (t := 38) rfl rfl rfl ?_
  refine G.q (Quiet.as (v' := .bool false) (by rfl) (Quiet.int rfl rfl rfl)) rfl ?_
  refine G.q (Quiet.pickF rfl rfl) rfl ?_
  refine G.q (Quiet.move rfl) rfl ?_
  refine G.grun (t := 42) rfl rfl rfl ?_
  refine G.q (Quiet.move rfl) rfl ?_
  refine G.grun (t := 42) rfl rfl rfl ?_
  refine G.q (Quiet.as (v' := .bool false) (by rfl) (Quiet.int rfl rfl rfl)) rfl ?_
  refine G.q (Quiet.pickF rfl rfl) rfl ?_
  refine G.nil ?_
  refine G.then_n ?_
  refine G.condF rfl ?_
  refine G.skip ?_
  refine G.then_n ?_
  refine G.seq ?_
  refine G.seq ?_
  refine G.region ?_
  refine G.q (Quiet.assign rfl) rfl ?_
  refine G.nil ?_
  refine G.then_n ?_
  refine G.block ?_
  refine G.loopK (ι := Nat × Dk × Wl) (fun q E => (12, vint q.1) :: E) (fun q => [dkR d q.2.1, wlR x d q.2.2]) (fun q => q.1 ≤ xs.length ∧ q.1 ≤ 60 ∧ Well q.2.1 q.2.2 (3 + q.1 * 2000000) ∧ Kp q.2.1 q.2.2 ∧ q.2.2.count ≤ 1 + q.1) (fun q => xs.length - q.1) (0, (formatZ (Dk.new (16 + pickZ n0 100))).1, newW) (ts := [1, 2, 6, 8, 10]) (.cons rfl (.cons rfl (.cons rfl (.cons rfl (.cons rfl (.nil)))))) (⟨Nat.zero_le _, Nat.zero_le _, hfw.more (by dsimp only; omega), hfk, (by show (1 : Int) ≤ 1 + ((0 : Nat) : Int); decide)⟩) ⟨rfl, rfl, rfl, rfl, rfl, rfl, trivial⟩ (by (repeat (first | exact Picks.nil | (apply Picks.cons; (repeat (first | exact Pick.here | apply Pick.there)))))) ?_
  rintro ⟨i, δ, ω⟩ ⟨hi, hi60, hW, hK, hct⟩
  dsimp only
  dsimp only at hi hi60 hW hK hct
  refine G.seq ?_
  refine G.seq ?_
  refine G.region ?_
  refine G.q (Quiet.move rfl) rfl ?_
  refine G.q (Quiet.move rfl) rfl ?_
  refine G.q (Quiet.slen rfl Try.underlying45 rfl) rfl ?_
  refine G.q (Quiet.int rfl rfl rfl) rfl ?_
  refine G.q (Quiet.move rfl) rfl ?_
  refine G.dec (t := 50) rfl (fun h7_50 => ?_) (fun h7_50 => ?_)
  · refine G.kDT (t := 49) rfl h7_50 ?_
    refine G.grun (t := 50) rfl rfl rfl ?_
    refine G.q (Quiet.move rfl) rfl ?_
    refine G.grun (t := 50) rfl rfl rfl ?_
    refine G.q (Quiet.int rfl rfl rfl) rfl ?_
    refine G.q (Quiet.pickT rfl rfl) rfl ?_
    refine G.nil ?_
    refine G.then_n ?_
    refine G.condD rfl (fun h53 => ?_) (fun h53 => ?_)
    · have hi2 : i < xs.length := by omega
      refine G.rdShape (p := p) hcells (by (repeat (first | exact Pick.here | apply Pick.there))) (by omega) fun ba oa e => ?_
      subst e
      have hmem := List.getElem_mem hi2
      obtain ⟨hob1, hob2, hok, hon, hof⟩ := hops.bnd _ hmem
      unfold i64 at hok hon hof
      obtain ⟨hfl1, hfl2⟩ := hops.fit _ hmem
      refine G.skip ?_
      refine G.then_n ?_
      refine G.seq ?_
      refine G.block ?_
      refine G.seq ?_
      refine G.region ?_
      refine G.q (Quiet.move rfl) rfl ?_
      refine G.q (Quiet.move rfl) rfl ?_
      refine G.q (Quiet.indexAddr rfl rfl el_45 (by omega)) rfl ?_
      refine G.q (Quiet.loadRdA (sz := 5) (j := i * 5) (k := 5) (p := p) (vs := [vint xs[i].2.k, vint xs[i].2.n, vint xs[i].2.f, xs[i].1.1, xs[i].1.2]) rfl ag_42 (by (repeat (first | exact Pick.here | apply Pick.there))) hcells (by simp) (by omega) (by omega) (op4C_at hi2)) rfl ?_
      refine G.op (OpSpec.allocA ze_42) (by (repeat (first | exact Picks.nil | (apply Picks.cons; (repeat (first | exact Pick.here | apply Pick.there)))))) rfl ?nx31
      rintro v L' ⟨bo, rfl, rfl⟩
      refine G.op (OpSpec.storeA rfl rfl ?c33 sz_42 ?c36 ?c34 ?c35) (by (repeat (first | exact Picks.nil | (apply Picks.cons; (repeat (first | exact Pick.here | apply Pick.there)))))) rfl ?nx37
      case c33 => intro v hv; simp only [List.mem_cons, List.not_mem_nil, or_false] at hv; rcases hv with rfl | rfl | rfl | rfl | rfl; rfl; rfl; rfl; exact (hops.cell _ hmem).1; exact (hops.cell _ hmem).2
      case c36 => (first | (simp; done) | (simp [setAll, spl, Value.cells]; done))
      case c34 => (first | (simp; done) | (simp [setAll, spl, Value.cells]; done))
      case c35 => exact nfz0 _ _
      rintro v L' rfl
      refine G.nil ?_
      refine G.ptCast (b := bo) (l' := [vint xs[i].2.k, vint xs[i].2.n, vint xs[i].2.f, xs[i].1.1, xs[i].1.2]) (by (repeat (first | exact Pick.here | apply Pick.there))) rfl ?_
      refine G.then_n ?_
      refine G.seq ?_
      have hpk5 := pickZ_range xs[i].2.k (n := 5) (by decide)
      refine G.region ?_
      refine G.q (Quiet.fieldAddr rfl fo_42_0) rfl ?_
      refine G.q (Quiet.load rfl ag_3 (by (repeat (first | exact Pick.here | apply Pick.there))) (rfl)) rfl ?_
      refine G.op (OpSpec.call Try.func22 rfl rfl (vs := [_, _]) rfl (pick4_spec xs[i].2.k 5 hok (by decide))) (by (repeat (first | exact Picks.nil | (apply Picks.cons; (repeat (first | exact Pick.here | apply Pick.there)))))) rfl ?nx40
      rintro v L' ⟨rfl, rfl⟩
      refine G.q (Quiet.add rfl rfl (by omega)) rfl ?_
      refine G.q (Quiet.fieldAddr rfl fo_42_0) rfl ?_
      refine G.op (OpSpec.store rfl rfl rfl sz_3 ?c44 ?c45) (by (repeat (first | exact Picks.nil | (apply Picks.cons; (repeat (first | exact Pick.here | apply Pick.there)))))) rfl ?nx46
      case c44 => first | decide | (simp; omega) | simp
      case c45 => exact nfz0 _ _
      rintro v L' rfl
      refine G.nil ?_
      refine G.ptCast (b := bo) (l' := [vint (1 + pickZ xs[i].2.k 5), vint xs[i].2.n, vint xs[i].2.f, xs[i].1.1, xs[i].1.2]) (by (repeat (first | exact Pick.here | apply Pick.there))) rfl ?_
      refine G.then_n ?_
      refine G.region ?_
      refine G.q (Quiet.move rfl) rfl ?_
      refine G.q (Quiet.loadAs (vs := [vint (1 + pickZ xs[i].2.k 5), vint xs[i].2.n, vint xs[i].2.f, xs[i].1.1, xs[i].1.2]) rfl ag_42 (by (repeat (first | exact Pick.here | apply Pick.there))) (by simp) rfl) rfl ?_
      refine G.op (OpSpec.call Try.func24 rfl rfl (vs := [_, _]) rfl (does_spec x d ω δ (1 + pickZ xs[i].2.k 5) xs[i].2.n xs[i].2.f xs[i].1.1 xs[i].1.2 xs[i].2.l p (hW.i (by omega)) hon (hops.ls _ hmem) hob1 (by omega) (hops.cell _ hmem))) (by (repeat (first | exact Picks.nil | (apply Picks.cons; (repeat (first | exact Pick.here | apply Pick.there)))))) rfl ?nx49
      rintro v L' ⟨rfl, rfl⟩
      refine G.nil ?_
      refine G.blk_n ?_
      refine G.then_n ?_
      refine G.region ?_
      refine G.q (Quiet.move rfl) rfl ?_
      refine G.q (Quiet.add rfl rfl (by omega)) rfl ?_
      refine G.q (Quiet.assign rfl) rfl ?_
      refine G.nil ?_
      refine G.then_n ?_
      exact G.roundK ((i + 1, (doesZ δ ω (1 + pickZ xs[i].2.k 5) xs[i].2.n xs[i].2.f xs[i].2.l).1, (doesZ δ ω (1 + pickZ xs[i].2.k 5) xs[i].2.n xs[i].2.f xs[i].2.l).2.1)) (⟨by dsimp only; omega, by dsimp only; omega, (kept_does hW _ _ _ _).well.more (by omega), (kp_does hK hW _ hon.2 hof.2 _).kp, by have := (kp_does hK hW (1 + pickZ xs[i].2.k 5) hon.2 hof.2 xs[i].2.l).count; dsimp only; omega⟩) (by dsimp only; omega) ⟨rfl, rfl, rfl, rfl, rfl, rfl, trivial⟩ (by (repeat (first | exact Picks.nil | (apply Picks.cons; (repeat (first | exact Pick.here | apply Pick.there)))))) (by ((repeat (apply Have.cons; (repeat (first | exact Pick.here | apply Pick.there)))); apply Have.base; repeat (first | exact Suff.here | apply Suff.there)))
    · refine G.exit ?_
      refine G.then_e ?_
      refine G.then_e ?_
      refine G.blk_e ?_
      refine G.then_n ?_
      refine G.seq ?_
      have hI := hW.i (by omega)
      have hks := kept_sync hW
      have hkp := kp_sync hK hW
      have hall := sync_all hW (by omega)
      rcases hs : syncZ δ ω with ⟨σ, τ, er⟩
      rw [hs] at hks hkp hall
      have hWt := hks.well
      have hKt := hkp.kp
      dsimp only at hWt hKt hall
      have hIt := hWt.i (by omega)
      have hfit := hIt.fits
      have hh := half_le hIt.size
      have hrm := laidZ_many τ.recs
      have hst := hIt.synced
      have htl : (toldZ τ true).length = τ.recs.length := by unfold toldZ tl; rw [if_pos rfl, if_neg (by rw [hWt.doubt]; decide)]
      refine G.region ?_
      refine G.q (Quiet.move rfl) rfl ?_
      refine G.op (OpSpec.call Try.func28 rfl rfl (vs := [_]) rfl (wsync_spec x d ω δ hI)) (by (repeat (first | exact Picks.nil | (apply Picks.cons; (repeat (first | exact Pick.here | apply Pick.there)))))) rfl ?nx54
      rintro v L' ⟨rfl, rfl⟩; rw [hs]; dsimp only
      refine G.nil ?_
      refine G.then_n ?_
      refine G.seq ?_
      refine G.region ?_
      refine G.q (Quiet.move rfl) rfl ?_
      refine G.op (OpSpec.call Try.func21 rfl rfl (vs := [_]) rfl (acts_spec d σ)) (by (repeat (first | exact Picks.nil | (apply Picks.cons; (repeat (first | exact Pick.here | apply Pick.there)))))) rfl ?nx57
      rintro v L' ⟨rfl, rfl⟩
      refine G.q (Quiet.assign rfl) rfl ?_
      refine G.nil ?_
      refine G.then_n ?_
      refine G.seq ?_
      refine G.region ?_
      refine G.q (Quiet.move rfl) rfl ?_
      refine G.op (OpSpec.call Try.func29 rfl rfl (vs := [_, _]) rfl (told_spec x d τ true hst.1 (by omega))) (by (repeat (first | exact Picks.nil | (apply Picks.cons; (repeat (first | exact Pick.here | apply Pick.there)))))) rfl ?nx60
      rintro v L' ⟨a1, c1, rfl, rfl⟩
      refine G.op (OpSpec.allocA ze_54) (by (repeat (first | exact Picks.nil | (apply Picks.cons; (repeat (first | exact Pick.here | apply Pick.there)))))) rfl ?nx62
      rintro v L' ⟨bt, rfl, rfl⟩
      refine G.op (OpSpec.storeA rfl rfl ?c64 sz_54 ?c67 ?c65 ?c66) (by (repeat (first | exact Picks.nil | (apply Picks.cons; (repeat (first | exact Pick.here | apply Pick.there)))))) rfl ?nx68
      case c64 => (first | (simp [isCell]; done) | (simp [isCell, setAll, Value.cells]; done))
      case c67 => (first | (simp; done) | (simp [setAll, spl, Value.cells]; done))
      case c65 => (first | (simp; done) | (simp [setAll, spl, Value.cells]; done))
      case c66 => exact nfz0 _ _
      rintro v L' rfl
      refine G.nil ?_
      refine G.ptCast (b := bt) (l' := [.slice a1 (toldZ τ true).length c1, vint τ.a, vint τ.b]) (by (repeat (first | exact Pick.here | apply Pick.there))) rfl ?_
      refine G.then_n ?_
      refine G.seq ?_
      refine G.seq ?_
      refine G.region ?_
      refine G.q (Quiet.assign rfl) rfl ?_
      refine G.nil ?_
      refine G.then_n ?_
      refine G.block ?_
      refine G.loopK (ι := Nat) (fun q E => (16, vint q) :: E) (fun q => []) (fun q => q ≤ 6) (fun q => 6 - q) (0) (ts := [2, 8, 10, 14, 15]) (.cons rfl (.cons rfl (.cons rfl (.cons rfl (.cons rfl (.nil)))))) (Nat.zero_le _) ⟨rfl, rfl, rfl, rfl, rfl, rfl, trivial⟩ (by (repeat (first | exact Picks.nil | (apply Picks.cons; (repeat (first | exact Pick.here | apply Pick.there)))))) ?_
      rintro j hj
      refine G.seq ?_
      refine G.seq ?_
      refine G.region ?_
      refine G.q (Quiet.move rfl) rfl ?_
      refine G.q (Quiet.move rfl) rfl ?_
      refine G.op (OpSpec.call Try.func22 rfl rfl (vs := [_, _]) rfl (pick4_spec n2 5 hn2 (by decide))) (by (repeat (first | exact Picks.nil | (apply Picks.cons; (repeat (first | exact Pick.here | apply Pick.there)))))) rfl ?nx72
      rintro v L' ⟨rfl, rfl⟩
      refine G.q (Quiet.int rfl rfl rfl) rfl ?_
      refine G.nil ?_
      refine G.then_n ?_
      refine G.condD rfl (fun h77 => ?_) (fun h77 => ?_)
      · refine G.skip ?_
        refine G.then_n ?_
        refine G.seq ?_
        refine G.block ?_
        refine G.seq ?_
        refine G.dkOk (d := d) (δ := σ) (by (repeat (first | exact Pick.here | apply Pick.there))) fun hok => ?_
        have hop := opened_full hKt hWt hok hall
        refine G.region ?_
        refine G.q (Quiet.move rfl) rfl ?_
        refine G.op (OpSpec.call Try.func30 rfl rfl (vs := [_]) rfl (open_spec d σ hIt.size hok)) (by (repeat (first | exact Picks.nil | (apply Picks.cons; (repeat (first | exact Pick.here | apply Pick.there)))))) rfl ?nx76
        rintro v L' (⟨h, -, -⟩ | ⟨-, h, -, -⟩ | ⟨-, ω2, hop2, y, rfl, rfl⟩); · rw [hWt.al.dead] at h; cases h
        · rw [hop] at h; cases h
        obtain rfl : τ = ω2 := by rw [hop] at hop2; exact Option.some.inj hop2
        refine G.q (Quiet.move rfl) rfl ?_
        refine G.q (Quiet.extract rfl rfl) rfl ?_
        refine G.q (Quiet.extract rfl rfl) rfl ?_
        refine G.q (Quiet.assign rfl) rfl ?_
        refine G.q (Quiet.assign rfl) rfl ?_
        refine G.nil ?_
        refine G.then_n ?_
        refine G.seq ?_
        refine G.region ?_
        refine G.q (Quiet.move rfl) rfl ?_
        refine G.q (Quiet.ptreq rfl rfl Try.underlying34) rfl ?_
        refine G.q (Quiet.move rfl) rfl ?_
        refine G.grun (t := 87) rfl rfl rfl ?_
        refine G.q (Quiet.move rfl) rfl ?_
        refine G.grun (t := 87) rfl rfl rfl ?_
        refine G.q (Quiet.as (v' := .bool false) (by rfl) (Quiet.int rfl rfl rfl)) rfl ?_
        refine G.q (Quiet.pickF rfl rfl) rfl ?_
        refine G.q (Quiet.move rfl) rfl ?_
        refine G.grun (t := 91) rfl rfl rfl ?_
        refine G.q (Quiet.move rfl) rfl ?_
        refine G.grun (t := 91) rfl rfl rfl ?_
        refine G.q (Quiet.loadAs (vs := [.slice a1 (toldZ τ true).length c1, vint τ.a, vint τ.b]) rfl ag_54 (by (repeat (first | exact Pick.here | apply Pick.there))) (by simp) rfl) rfl ?_
        refine G.grun (t := 91) rfl rfl rfl ?_
        refine G.op (OpSpec.call Try.func31 rfl rfl (vs := [_, _]) rfl (same4_spec y d τ (.slice a1 (toldZ τ true).length c1) (toldZ τ true) τ.a τ.b (strR (.slice a1 (toldZ τ true).length c1) (toldZ τ true)) hst.1 (by omega) (fun h hp => slR_rd hp) (by omega))) (by (repeat (first | exact Picks.nil | (apply Picks.cons; (repeat (first | exact Pick.here | apply Pick.there)))))) rfl ?nx83
        rintro v L' ⟨rfl, rfl⟩; rw [sameZ_self hall]
        refine G.grun (t := 91) rfl rfl rfl ?_
        refine G.q (Quiet.as (v' := .bool false) (by rfl) (Quiet.not rfl)) rfl ?_
        refine G.q (Quiet.pickF rfl rfl) rfl ?_
        refine G.q (Quiet.move rfl) rfl ?_
        refine G.grun (t := 97) rfl rfl rfl ?_
        refine G.q (Quiet.move rfl) rfl ?_
        refine G.grun (t := 97) rfl rfl rfl ?_
        refine G.op (OpSpec.call Try.func25 rfl rfl (vs := [_]) rfl (wroom_spec y d τ σ hIt.size (by omega))) (by (repeat (first | exact Picks.nil | (apply Picks.cons; (repeat (first | exact Pick.here | apply Pick.there)))))) rfl ?nx86
        rintro v L' ⟨rfl, rfl⟩
        refine G.grun (t := 97) rfl rfl rfl ?_
        refine G.q (Quiet.move rfl) rfl ?_
        refine G.grun (t := 97) rfl rfl rfl ?_
        refine G.op (OpSpec.call Try.func25 rfl rfl (vs := [_]) rfl (wroom_spec x d τ σ hIt.size (by omega))) (by (repeat (first | exact Picks.nil | (apply Picks.cons; (repeat (first | exact Pick.here | apply Pick.there)))))) rfl ?nx89
        rintro v L' ⟨rfl, rfl⟩
        refine G.grun (t := 97) rfl rfl rfl ?_
        refine G.q (Quiet.as (v' := .bool false) (by simp) (Quiet.int rfl rfl rfl)) rfl ?_
        refine G.q (Quiet.pickF rfl rfl) rfl ?_
        refine G.nil ?_
        refine G.then_n ?_
        refine G.condF rfl ?_
        refine G.skip ?_
        refine G.blk_n ?_
        refine G.then_n ?_
        refine G.region ?_
        refine G.q (Quiet.move rfl) rfl ?_
        refine G.q (Quiet.add rfl rfl (by omega)) rfl ?_
        refine G.q (Quiet.assign rfl) rfl ?_
        refine G.nil ?_
        refine G.then_n ?_
        exact G.roundK (j + 1) (by omega) (by omega) ⟨rfl, rfl, rfl, rfl, rfl, rfl, trivial⟩ (by (repeat (first | exact Picks.nil | (apply Picks.cons; (repeat (first | exact Pick.here | apply Pick.there)))))) (by ((repeat (apply Have.cons; (repeat (first | exact Pick.here | apply Pick.there)))); apply Have.base; repeat (first | exact Suff.here | apply Suff.there)))
      · refine G.exit ?_
        refine G.then_e ?_
        refine G.then_e ?_
        refine G.blk_e ?_
        refine G.then_n ?_
        refine G.seq ?_
        refine G.region ?_
        refine G.q (Quiet.move rfl) rfl ?_
        refine G.op (OpSpec.call Try.func21 rfl rfl (vs := [_]) rfl (acts_spec d σ)) (by (repeat (first | exact Picks.nil | (apply Picks.cons; (repeat (first | exact Pick.here | apply Pick.there)))))) rfl ?nx95
        rintro v L' ⟨rfl, rfl⟩
        refine G.q (Quiet.move rfl) rfl ?_
        refine G.q (Quiet.as (v' := .bool true) (by simp) (Quiet.int rfl rfl rfl)) rfl ?_
        refine G.q (Quiet.assign rfl) rfl ?_
        refine G.nil ?_
        refine G.then_n ?_
        refine G.ret ?_
        exact G.done (l := [.tmp 6]) rfl rfl ⟨rfl, rfl⟩ (by (repeat (first | exact Picks.nil | (apply Picks.cons; (repeat (first | exact Pick.here | apply Pick.there)))))) (by (repeat (first | exact Suff.here | apply Suff.there)))
  · refine G.kDF (t := 49) rfl h7_50 ?_
    refine G.gskip (t := 50) rfl rfl rfl rfl ?_
    refine G.gskip (t := 50) rfl rfl rfl rfl ?_
    refine G.q (Quiet.pickF rfl rfl) rfl ?_
    refine G.nil ?_
    refine G.then_n ?_
    refine G.condF rfl ?_
    refine G.exit ?_
    refine G.then_e ?_
    refine G.then_e ?_
    refine G.blk_e ?_
    refine G.then_n ?_
    refine G.seq ?_
    have hI := hW.i (by omega)
    have hks := kept_sync hW
    have hkp := kp_sync hK hW
    have hall := sync_all hW (by omega)
    rcases hs : syncZ δ ω with ⟨σ, τ, er⟩
    rw [hs] at hks hkp hall
    have hWt := hks.well
    have hKt := hkp.kp
    dsimp only at hWt hKt hall
    have hIt := hWt.i (by omega)
    have hfit := hIt.fits
    have hh := half_le hIt.size
    have hrm := laidZ_many τ.recs
    have hst := hIt.synced
    have htl : (toldZ τ true).length = τ.recs.length := by unfold toldZ tl; rw [if_pos rfl, if_neg (by rw [hWt.doubt]; decide)]
    refine G.region ?_
    refine G.q (Quiet.move rfl) rfl ?_
    refine G.op (OpSpec.call Try.func28 rfl rfl (vs := [_]) rfl (wsync_spec x d ω δ hI)) (by (repeat (first | exact Picks.nil | (apply Picks.cons; (repeat (first | exact Pick.here | apply Pick.there)))))) rfl ?nx101
    rintro v L' ⟨rfl, rfl⟩; rw [hs]; dsimp only
    refine G.nil ?_
    refine G.then_n ?_
    refine G.seq ?_
    refine G.region ?_
    refine G.q (Quiet.move rfl) rfl ?_
    refine G.op (OpSpec.call Try.func21 rfl rfl (vs := [_]) rfl (acts_spec d σ)) (by (repeat (first | exact Picks.nil | (apply Picks.cons; (repeat (first | exact Pick.here | apply Pick.there)))))) rfl ?nx104
    rintro v L' ⟨rfl, rfl⟩
    refine G.q (Quiet.assign rfl) rfl ?_
    refine G.nil ?_
    refine G.then_n ?_
    refine G.seq ?_
    refine G.region ?_
    refine G.q (Quiet.move rfl) rfl ?_
    refine G.op (OpSpec.call Try.func29 rfl rfl (vs := [_, _]) rfl (told_spec x d τ true hst.1 (by omega))) (by (repeat (first | exact Picks.nil | (apply Picks.cons; (repeat (first | exact Pick.here | apply Pick.there)))))) rfl ?nx107
    rintro v L' ⟨a1, c1, rfl, rfl⟩
    refine G.op (OpSpec.allocA ze_54) (by (repeat (first | exact Picks.nil | (apply Picks.cons; (repeat (first | exact Pick.here | apply Pick.there)))))) rfl ?nx109
    rintro v L' ⟨bt, rfl, rfl⟩
    refine G.op (OpSpec.storeA rfl rfl ?c111 sz_54 ?c114 ?c112 ?c113) (by (repeat (first | exact Picks.nil | (apply Picks.cons; (repeat (first | exact Pick.here | apply Pick.there)))))) rfl ?nx115
    case c111 => (first | (simp [isCell]; done) | (simp [isCell, setAll, Value.cells]; done))
    case c114 => (first | (simp; done) | (simp [setAll, spl, Value.cells]; done))
    case c112 => (first | (simp; done) | (simp [setAll, spl, Value.cells]; done))
    case c113 => exact nfz0 _ _
    rintro v L' rfl
    refine G.nil ?_
    refine G.ptCast (b := bt) (l' := [.slice a1 (toldZ τ true).length c1, vint τ.a, vint τ.b]) (by (repeat (first | exact Pick.here | apply Pick.there))) rfl ?_
    refine G.then_n ?_
    refine G.seq ?_
    refine G.seq ?_
    refine G.region ?_
    refine G.q (Quiet.assign rfl) rfl ?_
    refine G.nil ?_
    refine G.then_n ?_
    refine G.block ?_
    refine G.loopK (ι := Nat) (fun q E => (16, vint q) :: E) (fun q => []) (fun q => q ≤ 6) (fun q => 6 - q) (0) (ts := [2, 8, 10, 14, 15]) (.cons rfl (.cons rfl (.cons rfl (.cons rfl (.cons rfl (.nil)))))) (Nat.zero_le _) ⟨rfl, rfl, rfl, rfl, rfl, rfl, trivial⟩ (by (repeat (first | exact Picks.nil | (apply Picks.cons; (repeat (first | exact Pick.here | apply Pick.there)))))) ?_
    rintro j hj
    refine G.seq ?_
    refine G.seq ?_
    refine G.region ?_
    refine G.q (Quiet.move rfl) rfl ?_
    refine G.q (Quiet.move rfl) rfl ?_
    refine G.op (OpSpec.call Try.func22 rfl rfl (vs := [_, _]) rfl (pick4_spec n2 5 hn2 (by decide))) (by (repeat (first | exact Picks.nil | (apply Picks.cons; (repeat (first | exact Pick.here | apply Pick.there)))))) rfl ?nx119
    rintro v L' ⟨rfl, rfl⟩
    refine G.q (Quiet.int rfl rfl rfl) rfl ?_
    refine G.nil ?_
    refine G.then_n ?_
    refine G.condD rfl (fun h77 => ?_) (fun h77 => ?_)
    · refine G.skip ?_
      refine G.then_n ?_
      refine G.seq ?_
      refine G.block ?_
      refine G.seq ?_
      refine G.dkOk (d := d) (δ := σ) (by (repeat (first | exact Pick.here | apply Pick.there))) fun hok => ?_
      have hop := opened_full hKt hWt hok hall
      refine G.region ?_
      refine G.q (Quiet.move rfl) rfl ?_
      refine G.op (OpSpec.call Try.func30 rfl rfl (vs := [_]) rfl (open_spec d σ hIt.size hok)) (by (repeat (first | exact Picks.nil | (apply Picks.cons; (repeat (first | exact Pick.here | apply Pick.there)))))) rfl ?nx123
      rintro v L' (⟨h, -, -⟩ | ⟨-, h, -, -⟩ | ⟨-, ω2, hop2, y, rfl, rfl⟩); · rw [hWt.al.dead] at h; cases h
      · rw [hop] at h; cases h
      obtain rfl : τ = ω2 := by rw [hop] at hop2; exact Option.some.inj hop2
      refine G.q (Quiet.move rfl) rfl ?_
      refine G.q (Quiet.extract rfl rfl) rfl ?_
      refine G.q (Quiet.extract rfl rfl) rfl ?_
      refine G.q (Quiet.assign rfl) rfl ?_
      refine G.q (Quiet.assign rfl) rfl ?_
      refine G.nil ?_
      refine G.then_n ?_
      refine G.seq ?_
      refine G.region ?_
      refine G.q (Quiet.move rfl) rfl ?_
      refine G.q (Quiet.ptreq rfl rfl Try.underlying34) rfl ?_
      refine G.q (Quiet.move rfl) rfl ?_
      refine G.grun (t := 87) rfl rfl rfl ?_
      refine G.q (Quiet.move rfl) rfl ?_
      refine G.grun (t := 87) rfl rfl rfl ?_
      refine G.q (Quiet.as (v' := .bool false) (by rfl) (Quiet.int rfl rfl rfl)) rfl ?_
      refine G.q (Quiet.pickF rfl rfl) rfl ?_
      refine G.q (Quiet.move rfl) rfl ?_
      refine G.grun (t := 91) rfl rfl rfl ?_
      refine G.q (Quiet.move rfl) rfl ?_
      refine G.grun (t := 91) rfl rfl rfl ?_
      refine G.q (Quiet.loadAs (vs := [.slice a1 (toldZ τ true).length c1, vint τ.a, vint τ.b]) rfl ag_54 (by (repeat (first | exact Pick.here | apply Pick.there))) (by simp) rfl) rfl ?_
      refine G.grun (t := 91) rfl rfl rfl ?_
      refine G.op (OpSpec.call Try.func31 rfl rfl (vs := [_, _]) rfl (same4_spec y d τ (.slice a1 (toldZ τ true).length c1) (toldZ τ true) τ.a τ.b (strR (.slice a1 (toldZ τ true).length c1) (toldZ τ true)) hst.1 (by omega) (fun h hp => slR_rd hp) (by omega))) (by (repeat (first | exact Picks.nil | (apply Picks.cons; (repeat (first | exact Pick.here | apply Pick.there)))))) rfl ?nx130
      rintro v L' ⟨rfl, rfl⟩; rw [sameZ_self hall]
      refine G.grun (t := 91) rfl rfl rfl ?_
      refine G.q (Quiet.as (v' := .bool false) (by rfl) (Quiet.not rfl)) rfl ?_
      refine G.q (Quiet.pickF rfl rfl) rfl ?_
      refine G.q (Quiet.move rfl) rfl ?_
      refine G.grun (t := 97) rfl rfl rfl ?_
      refine G.q (Quiet.move rfl) rfl ?_
      refine G.grun (t := 97) rfl rfl rfl ?_
      refine G.op (OpSpec.call Try.func25 rfl rfl (vs := [_]) rfl (wroom_spec y d τ σ hIt.size (by omega))) (by (repeat (first | exact Picks.nil | (apply Picks.cons; (repeat (first | exact Pick.here | apply Pick.there)))))) rfl ?nx133
      rintro v L' ⟨rfl, rfl⟩
      refine G.grun (t := 97) rfl rfl rfl ?_
      refine G.q (Quiet.move rfl) rfl ?_
      refine G.grun (t := 97) rfl rfl rfl ?_
      refine G.op (OpSpec.call Try.func25 rfl rfl (vs := [_]) rfl (wroom_spec x d τ σ hIt.size (by omega))) (by (repeat (first | exact Picks.nil | (apply Picks.cons; (repeat (first | exact Pick.here | apply Pick.there)))))) rfl ?nx136
      rintro v L' ⟨rfl, rfl⟩
      refine G.grun (t := 97) rfl rfl rfl ?_
      refine G.q (Quiet.as (v' := .bool false) (by simp) (Quiet.int rfl rfl rfl)) rfl ?_
      refine G.q (Quiet.pickF rfl rfl) rfl ?_
      refine G.nil ?_
      refine G.then_n ?_
      refine G.condF rfl ?_
      refine G.skip ?_
      refine G.blk_n ?_
      refine G.then_n ?_
      refine G.region ?_
      refine G.q (Quiet.move rfl) rfl ?_
      refine G.q (Quiet.add rfl rfl (by omega)) rfl ?_
      refine G.q (Quiet.assign rfl) rfl ?_
      refine G.nil ?_
      refine G.then_n ?_
      exact G.roundK (j + 1) (by omega) (by omega) ⟨rfl, rfl, rfl, rfl, rfl, rfl, trivial⟩ (by (repeat (first | exact Picks.nil | (apply Picks.cons; (repeat (first | exact Pick.here | apply Pick.there)))))) (by ((repeat (apply Have.cons; (repeat (first | exact Pick.here | apply Pick.there)))); apply Have.base; repeat (first | exact Suff.here | apply Suff.there)))
    · refine G.exit ?_
      refine G.then_e ?_
      refine G.then_e ?_
      refine G.blk_e ?_
      refine G.then_n ?_
      refine G.seq ?_
      refine G.region ?_
      refine G.q (Quiet.move rfl) rfl ?_
      refine G.op (OpSpec.call Try.func21 rfl rfl (vs := [_]) rfl (acts_spec d σ)) (by (repeat (first | exact Picks.nil | (apply Picks.cons; (repeat (first | exact Pick.here | apply Pick.there)))))) rfl ?nx142
      rintro v L' ⟨rfl, rfl⟩
      refine G.q (Quiet.move rfl) rfl ?_
      refine G.q (Quiet.as (v' := .bool true) (by simp) (Quiet.int rfl rfl rfl)) rfl ?_
      refine G.q (Quiet.assign rfl) rfl ?_
      refine G.nil ?_
      refine G.then_n ?_
      refine G.ret ?_
      exact G.done (l := [.tmp 6]) rfl rfl ⟨rfl, rfl⟩ (by (repeat (first | exact Picks.nil | (apply Picks.cons; (repeat (first | exact Pick.here | apply Pick.there)))))) (by (repeat (first | exact Suff.here | apply Suff.there)))

end Go.Proofs.Ytepncdidkjjllaa
