/- Own work, by program: WalRoom: walked. -/
import Derived.Test.YtepncdidkjjllaaL4F
namespace Go.Proofs.Ytepncdidkjjllaa
open Go
set_option maxRecDepth 100000 in
theorem wroom4_spec (n0 : Int) (v1 : Value) (xs : List Op4V) (p : HP) (hn0 : -9223372036854775808 ≤ n0 ∧ n0 ≤ 9223372036854775807) (hops : Ops4 p v1 xs) : Fn Try.prog 4 #[vint n0, v1] [p] fun v L => v = .bool true ∧ L = [p] := by
  refine Fn.intro (vs := [vint n0, v1]) Try.func4 rfl rfl ?_
  intro F W
  have hcells := hops.cells
  have hopl := hops.len
  refine G.rdAny (p := p) hcells (by (repeat (first | exact Pick.here | apply Pick.there))) fun a0 c0 e _ => ?_
  subst e
  have hpk := pickZ_range n0 (n := 300) (by decide)
  obtain ⟨hff, hfw, -⟩ := format_well (n := 16 + pickZ n0 300) (by omega)
  refine G.seq ?_
  refine G.region ?_
  refine G.q (Quiet.assign rfl) rfl ?_
  refine G.nil ?_
  refine G.then_n ?_
  refine G.seq ?_
  refine G.region ?_
  refine G.op (OpSpec.call Try.func14 rfl rfl (vs := []) rfl (awake4_spec)) (by (repeat (first | exact Picks.nil | (apply Picks.cons; (repeat (first | exact Pick.here | apply Pick.there)))))) rfl ?nx2
  rintro v L' ⟨rfl, rfl⟩
  refine G.q (Quiet.assign rfl) rfl ?_
  refine G.nil ?_
  refine G.then_n ?_
  refine G.seq ?_
  refine G.region ?_
  refine G.q (Quiet.move rfl) rfl ?_
  refine G.op (OpSpec.call Try.func22 rfl rfl (vs := [_, _]) rfl (pick4_spec n0 300 hn0 (by decide))) (by (repeat (first | exact Picks.nil | (apply Picks.cons; (repeat (first | exact Pick.here | apply Pick.there)))))) rfl ?nx5
  rintro v L' ⟨rfl, rfl⟩
  refine G.q (Quiet.add rfl rfl (by omega)) rfl ?_
  refine G.op (OpSpec.call Try.func15 rfl rfl (vs := [_]) rfl (new_spec (16 + pickZ n0 300))) (by (repeat (first | exact Picks.nil | (apply Picks.cons; (repeat (first | exact Pick.here | apply Pick.there)))))) rfl ?nx8
  rintro v L' (⟨h, -, -⟩ | ⟨-, d, rfl, rfl⟩); · omega
  refine G.q (Quiet.move rfl) rfl ?_
  refine G.q (Quiet.extract rfl rfl) rfl ?_
  refine G.q (Quiet.extract rfl rfl) rfl ?_
  refine G.q (Quiet.assign rfl) rfl ?_
  refine G.q (Quiet.assign rfl) rfl ?_
  refine G.nil ?_
  refine G.then_n ?_
  refine G.seq ?_
  refine G.region ?_
  refine G.q (Quiet.move rfl) rfl ?_
  refine G.op (OpSpec.call Try.func23 rfl rfl (vs := [_]) rfl (format_spec d (Dk.new (16 + pickZ n0 300)) (by show (0 : Int) + 10 < _; decide))) (by (repeat (first | exact Picks.nil | (apply Picks.cons; (repeat (first | exact Pick.here | apply Pick.there)))))) rfl ?nx12
  rintro v L' (⟨h, -, -⟩ | ⟨-, x, rfl, rfl⟩); · rw [hff] at h; cases h
  refine G.q (Quiet.move rfl) rfl ?_
  refine G.q (Quiet.extract rfl rfl) rfl ?_
  refine G.q (Quiet.extract rfl rfl) rfl ?_
  refine G.q (Quiet.assign rfl) rfl ?_
  refine G.q (Quiet.assign rfl) rfl ?_
  refine G.nil ?_
  refine G.then_n ?_
  refine G.seq ?_
  refine G.seq ?_
  refine G.region ?_
  refine G.q (Quiet.move rfl) rfl ?_
  refine G.q (Quiet.not rfl) rfl ?_
  refine G.q (Quiet.move rfl) rfl ?_
  refine G.grun (t := 32) rfl rfl rfl ?_
  refine G.q (Quiet.move rfl) rfl ?_
  refine G.grun (t := 32) rfl rfl rfl ?_
  refine G.q (Quiet.ptreq rfl rfl Try.underlying34) rfl ?_
  refine G.q (Quiet.pickF rfl rfl) rfl ?_
  refine G.q (Quiet.move rfl) rfl ?_
  refine G.grun (t := 36) rfl rfl rfl ?_
  refine G.q (Quiet.move rfl) rfl ?_
  refine G.grun (t := 36) rfl rfl rfl ?_
  refine G.q (Quiet.as (v' := .bool false) (by rfl) (Quiet.int rfl rfl rfl)) rfl ?_
  refine G.q (Quiet.pickF rfl rfl) rfl ?_
  refine G.q (Quiet.move rfl) rfl ?_
  refine G.grun (t := 40) rfl rfl rfl ?_
  refine G.q (Quiet.move rfl) rfl ?_
  refine G.grun (t := 40) rfl rfl rfl ?_
  refine G.q (Quiet.as (v' := .bool false) (by rfl) (Quiet.int rfl rfl rfl)) rfl ?_
  refine G.q (Quiet.pickF rfl rfl) rfl ?_
  refine G.nil ?_
  refine G.then_n ?_
  refine G.condF rfl ?_
  refine G.skip ?_
  refine G.then_n ?_
  refine G.seq ?_
  refine G.seq ?_
  refine G.region ?_
  refine G.q (Quiet.assign rfl) rfl ?_
  refine G.nil ?_
  refine G.then_n ?_
  refine G.block ?_
  refine G.loopK (ι := Nat × Dk × Wl) (fun q E => (10, vint q.1) :: E) (fun q => [dkR d q.2.1, wlR x d q.2.2]) (fun q => q.1 ≤ xs.length ∧ q.1 ≤ 40 ∧ Well q.2.1 q.2.2 (3 + q.1 * 2000000)) (fun q => xs.length - q.1) (0, (formatZ (Dk.new (16 + pickZ n0 300))).1, newW) (ts := [1, 4, 6, 8]) (.cons rfl (.cons rfl (.cons rfl (.cons rfl (.nil))))) (⟨Nat.zero_le _, Nat.zero_le _, hfw.more (by dsimp only; omega)⟩) ⟨rfl, rfl, rfl, rfl, rfl, trivial⟩ (by (repeat (first | exact Picks.nil | (apply Picks.cons; (repeat (first | exact Pick.here | apply Pick.there)))))) ?_
  rintro ⟨i, δ, ω⟩ ⟨hi, hi40, hW⟩
  dsimp only
  dsimp only at hi hi40 hW
  refine G.seq ?_
  refine G.seq ?_
  refine G.region ?_
  refine G.q (Quiet.move rfl) rfl ?_
  refine G.q (Quiet.move rfl) rfl ?_
  refine G.q (Quiet.slen rfl Try.underlying45 rfl) rfl ?_
  refine G.q (Quiet.int rfl rfl rfl) rfl ?_
  refine G.q (Quiet.move rfl) rfl ?_
  refine G.dec (t := 48) rfl (fun h7_48 => ?_) (fun h7_48 => ?_)
  · refine G.kDT (t := 47) rfl h7_48 ?_
    refine G.grun (t := 48) rfl rfl rfl ?_
    refine G.q (Quiet.move rfl) rfl ?_
    refine G.grun (t := 48) rfl rfl rfl ?_
    refine G.q (Quiet.int rfl rfl rfl) rfl ?_
    refine G.q (Quiet.pickT rfl rfl) rfl ?_
    refine G.nil ?_
    refine G.then_n ?_
    refine G.condD rfl (fun h51 => ?_) (fun h51 => ?_)
    · have hi2 : i < xs.length := by omega
      refine G.rdShape (p := p) hcells (by (repeat (first | exact Pick.here | apply Pick.there))) (by omega) fun ba oa e => ?_
      subst e
      have hmem := List.getElem_mem hi2
      obtain ⟨hob1, hob2, hok, hon, hof⟩ := hops.bnd _ hmem
      unfold i64 at hok hon hof
      obtain ⟨hfl1, hfl2⟩ := hops.fit _ hmem
      refine G.skip ?_
      refine G.then_n ?_
      refine G.seq ?_
      refine G.block ?_
      refine G.seq ?_
      refine G.region ?_
      refine G.q (Quiet.move rfl) rfl ?_
      refine G.q (Quiet.move rfl) rfl ?_
      refine G.q (Quiet.indexAddr rfl rfl el_45 (by omega)) rfl ?_
      refine G.q (Quiet.loadRdA (sz := 5) (j := i * 5) (k := 5) (p := p) (vs := [vint xs[i].2.k, vint xs[i].2.n, vint xs[i].2.f, xs[i].1.1, xs[i].1.2]) rfl ag_42 (by (repeat (first | exact Pick.here | apply Pick.there))) hcells (by simp) (by omega) (by omega) (op4C_at hi2)) rfl ?_
      refine G.op (OpSpec.allocA ze_42) (by (repeat (first | exact Picks.nil | (apply Picks.cons; (repeat (first | exact Pick.here | apply Pick.there)))))) rfl ?nx31
      rintro v L' ⟨bo, rfl, rfl⟩
      refine G.op (OpSpec.storeA rfl rfl ?c33 sz_42 ?c36 ?c34 ?c35) (by (repeat (first | exact Picks.nil | (apply Picks.cons; (repeat (first | exact Pick.here | apply Pick.there)))))) rfl ?nx37
      case c33 => intro v hv; simp only [List.mem_cons, List.not_mem_nil, or_false] at hv; rcases hv with rfl | rfl | rfl | rfl | rfl; rfl; rfl; rfl; exact (hops.cell _ hmem).1; exact (hops.cell _ hmem).2
      case c36 => (first | (simp; done) | (simp [setAll, spl, Value.cells]; done))
      case c34 => (first | (simp; done) | (simp [setAll, spl, Value.cells]; done))
      case c35 => exact nfz0 _ _
      rintro v L' rfl
      refine G.nil ?_
      refine G.ptCast (b := bo) (l' := [vint xs[i].2.k, vint xs[i].2.n, vint xs[i].2.f, xs[i].1.1, xs[i].1.2]) (by (repeat (first | exact Pick.here | apply Pick.there))) rfl ?_
      refine G.then_n ?_
      refine G.seq ?_
      have hpk5 := pickZ_range xs[i].2.k (n := 5) (by decide)
      refine G.region ?_
      refine G.q (Quiet.fieldAddr rfl fo_42_0) rfl ?_
      refine G.q (Quiet.load rfl ag_3 (by (repeat (first | exact Pick.here | apply Pick.there))) (rfl)) rfl ?_
      refine G.op (OpSpec.call Try.func22 rfl rfl (vs := [_, _]) rfl (pick4_spec xs[i].2.k 5 hok (by decide))) (by (repeat (first | exact Picks.nil | (apply Picks.cons; (repeat (first | exact Pick.here | apply Pick.there)))))) rfl ?nx40
      rintro v L' ⟨rfl, rfl⟩
      refine G.q (Quiet.add rfl rfl (by omega)) rfl ?_
      refine G.q (Quiet.fieldAddr rfl fo_42_0) rfl ?_
      refine G.op (OpSpec.store rfl rfl rfl sz_3 ?c44 ?c45) (by (repeat (first | exact Picks.nil | (apply Picks.cons; (repeat (first | exact Pick.here | apply Pick.there)))))) rfl ?nx46
      case c44 => first | decide | (simp; omega) | simp
      case c45 => exact nfz0 _ _
      rintro v L' rfl
      refine G.nil ?_
      refine G.ptCast (b := bo) (l' := [vint (1 + pickZ xs[i].2.k 5), vint xs[i].2.n, vint xs[i].2.f, xs[i].1.1, xs[i].1.2]) (by (repeat (first | exact Pick.here | apply Pick.there))) rfl ?_
      refine G.then_n ?_
      refine G.region ?_
      refine G.q (Quiet.move rfl) rfl ?_
      refine G.q (Quiet.loadAs (vs := [vint (1 + pickZ xs[i].2.k 5), vint xs[i].2.n, vint xs[i].2.f, xs[i].1.1, xs[i].1.2]) rfl ag_42 (by (repeat (first | exact Pick.here | apply Pick.there))) (by simp) rfl) rfl ?_
      refine G.op (OpSpec.call Try.func24 rfl rfl (vs := [_, _]) rfl (does_spec x d ω δ (1 + pickZ xs[i].2.k 5) xs[i].2.n xs[i].2.f xs[i].1.1 xs[i].1.2 xs[i].2.l p (hW.i (by omega)) hon (hops.ls _ hmem) hob1 (by omega) (hops.cell _ hmem))) (by (repeat (first | exact Picks.nil | (apply Picks.cons; (repeat (first | exact Pick.here | apply Pick.there)))))) rfl ?nx49
      rintro v L' ⟨rfl, rfl⟩
      refine G.nil ?_
      refine G.blk_n ?_
      refine G.then_n ?_
      refine G.region ?_
      refine G.q (Quiet.move rfl) rfl ?_
      refine G.q (Quiet.add rfl rfl (by omega)) rfl ?_
      refine G.q (Quiet.assign rfl) rfl ?_
      refine G.nil ?_
      refine G.then_n ?_
      exact G.roundK ((i + 1, (doesZ δ ω (1 + pickZ xs[i].2.k 5) xs[i].2.n xs[i].2.f xs[i].2.l).1, (doesZ δ ω (1 + pickZ xs[i].2.k 5) xs[i].2.n xs[i].2.f xs[i].2.l).2.1)) (⟨by dsimp only; omega, by dsimp only; omega, (kept_does hW _ _ _ _).well.more (by omega)⟩) (by dsimp only; omega) ⟨rfl, rfl, rfl, rfl, rfl, trivial⟩ (by (repeat (first | exact Picks.nil | (apply Picks.cons; (repeat (first | exact Pick.here | apply Pick.there)))))) (by ((repeat (apply Have.cons; (repeat (first | exact Pick.here | apply Pick.there)))); apply Have.base; repeat (first | exact Suff.here | apply Suff.there)))
    · refine G.exit ?_
      refine G.then_e ?_
      refine G.then_e ?_
      refine G.blk_e ?_
      refine G.then_n ?_
      refine G.seq ?_
      have hI := hW.i (by omega)
      obtain ⟨hr1, hr2, hr3, hr4⟩ := room_law hW
      have hfit := hI.fits
      have hh := half_le hI.size
      have hrm := laidZ_many ω.recs
      have hzl : (List.replicate (max (roomZ δ ω + 1) 0).toNat (0 : UInt8)).length = (max (roomZ δ ω + 1) 0).toNat := List.length_replicate
      refine G.region ?_
      refine G.q (Quiet.move rfl) rfl ?_
      refine G.op (OpSpec.call Try.func25 rfl rfl (vs := [_]) rfl (wroom_spec x d ω δ hI.size (by omega))) (by (repeat (first | exact Picks.nil | (apply Picks.cons; (repeat (first | exact Pick.here | apply Pick.there)))))) rfl ?nx54
      rintro v L' ⟨rfl, rfl⟩
      refine G.q (Quiet.assign rfl) rfl ?_
      refine G.nil ?_
      refine G.then_n ?_
      refine G.seq ?_
      refine G.region ?_
      refine G.q (Quiet.move rfl) rfl ?_
      refine G.op (OpSpec.call Try.func26 rfl rfl (vs := [_]) rfl (wlen_spec x d ω)) (by (repeat (first | exact Picks.nil | (apply Picks.cons; (repeat (first | exact Pick.here | apply Pick.there)))))) rfl ?nx57
      rintro v L' ⟨rfl, rfl⟩
      refine G.q (Quiet.assign rfl) rfl ?_
      refine G.nil ?_
      refine G.then_n ?_
      refine G.seq ?_
      refine G.region ?_
      refine G.q (Quiet.move rfl) rfl ?_
      refine G.op (OpSpec.call Try.func21 rfl rfl (vs := [_]) rfl (acts_spec d δ)) (by (repeat (first | exact Picks.nil | (apply Picks.cons; (repeat (first | exact Pick.here | apply Pick.there)))))) rfl ?nx60
      rintro v L' ⟨rfl, rfl⟩
      refine G.q (Quiet.assign rfl) rfl ?_
      refine G.nil ?_
      refine G.then_n ?_
      refine G.seq ?_
      refine G.region ?_
      refine G.q (Quiet.move rfl) rfl ?_
      refine G.q (Quiet.add rfl rfl (by omega)) rfl ?_
      refine G.q (Quiet.max2 rfl rfl) rfl ?_
      refine G.op (OpSpec.make rfl rfl el_31 ze_5 rfl ⟨by simp, by simp; rfl⟩ ?c64) (by (repeat (first | exact Picks.nil | (apply Picks.cons; (repeat (first | exact Pick.here | apply Pick.there)))))) rfl ?nx65
      case c64 => omega
      rintro v L' ⟨bz, rfl, rfl⟩
      refine G.q (Quiet.bytesPt (cs := (List.replicate (max (roomZ δ ω + 1) 0).toNat (0 : UInt8))) rfl Try.underlying31 Try.underlying5 Try.underlying9 (by (repeat (first | exact Pick.here | apply Pick.there))) (by first | (simp [List.map_replicate]; done) | (simp [List.map_replicate]; rfl)) (by simp) (Nat.le_refl _)) rfl ?_
      refine G.q (Quiet.assign rfl) rfl ?_
      refine G.nil ?_
      refine G.then_n ?_
      refine G.seq ?_
      refine G.region ?_
      refine G.q (Quiet.move rfl) rfl ?_
      refine G.q (Quiet.move rfl) rfl ?_
      refine G.op (OpSpec.call Try.func27 rfl rfl (vs := [_, _]) rfl (wappend_spec x d ω δ (List.replicate (max (roomZ δ ω + 1) 0).toNat (0 : UInt8)) hI (by rw [List.length_replicate]; omega))) (by (repeat (first | exact Picks.nil | (apply Picks.cons; (repeat (first | exact Pick.here | apply Pick.there)))))) rfl ?nx69
      rintro v L' ⟨rfl, rfl⟩; obtain ⟨er, her, hap⟩ : ∃ er, (er = 33 ∨ er = 30) ∧ appendZ δ ω (List.replicate (max (roomZ δ ω + 1) 0).toNat (0 : UInt8)) = (δ, ω, er) := by rcases hr3 (List.replicate (max (roomZ δ ω + 1) 0).toNat (0 : UInt8)) (by rw [List.length_replicate]; omega) with h | h; exact ⟨_, .inl rfl, h⟩; exact ⟨_, .inr rfl, h⟩
      rw [hap]; dsimp only
      refine G.q (Quiet.assign rfl) rfl ?_
      refine G.nil ?_
      refine G.then_n ?_
      refine G.seq ?_
      refine G.seq ?_
      refine G.region ?_
      rcases her with rfl | rfl
      · refine G.q (Quiet.move rfl) rfl ?_
        refine G.q (Quiet.as (v' := .bool false) (by rfl) (Quiet.int rfl rfl rfl)) rfl ?_
        refine G.q (Quiet.move rfl) rfl ?_
        refine G.grun (t := 82) rfl rfl rfl ?_
        refine G.q (Quiet.move rfl) rfl ?_
        refine G.grun (t := 82) rfl rfl rfl ?_
        refine G.q (Quiet.as (v' := .bool true) (by rfl) (Quiet.int rfl rfl rfl)) rfl ?_
        refine G.grun (t := 82) rfl rfl rfl ?_
        refine G.q (Quiet.move rfl) rfl ?_
        refine G.grun (t := 85) rfl rfl rfl ?_
        refine G.q (Quiet.move rfl) rfl ?_
        refine G.grun (t := 85) rfl rfl rfl ?_
        refine G.q (Quiet.as (v' := .bool false) (by rfl) (Quiet.int rfl rfl rfl)) rfl ?_
        refine G.grun (t := 82) rfl rfl rfl ?_
        refine G.q (Quiet.pickT rfl rfl) rfl ?_
        refine G.q (Quiet.pickF rfl rfl) rfl ?_
        refine G.q (Quiet.move rfl) rfl ?_
        refine G.grun (t := 90) rfl rfl rfl ?_
        refine G.q (Quiet.move rfl) rfl ?_
        refine G.grun (t := 90) rfl rfl rfl ?_
        refine G.op (OpSpec.call Try.func21 rfl rfl (vs := [_]) rfl (acts_spec d δ)) (by (repeat (first | exact Picks.nil | (apply Picks.cons; (repeat (first | exact Pick.here | apply Pick.there)))))) rfl ?nx75
        rintro v L' ⟨rfl, rfl⟩
        refine G.grun (t := 90) rfl rfl rfl ?_
        refine G.q (Quiet.move rfl) rfl ?_
        refine G.grun (t := 90) rfl rfl rfl ?_
        refine G.q (Quiet.as (v' := .bool false) (by simp) (Quiet.int rfl rfl rfl)) rfl ?_
        refine G.q (Quiet.pickF rfl rfl) rfl ?_
        refine G.q (Quiet.move rfl) rfl ?_
        refine G.grun (t := 96) rfl rfl rfl ?_
        refine G.q (Quiet.move rfl) rfl ?_
        refine G.grun (t := 96) rfl rfl rfl ?_
        refine G.op (OpSpec.call Try.func26 rfl rfl (vs := [_]) rfl (wlen_spec x d ω)) (by (repeat (first | exact Picks.nil | (apply Picks.cons; (repeat (first | exact Pick.here | apply Pick.there)))))) rfl ?nx79
        rintro v L' ⟨rfl, rfl⟩
        refine G.grun (t := 96) rfl rfl rfl ?_
        refine G.q (Quiet.move rfl) rfl ?_
        refine G.grun (t := 96) rfl rfl rfl ?_
        refine G.q (Quiet.as (v' := .bool false) (by simp) (Quiet.int rfl rfl rfl)) rfl ?_
        refine G.q (Quiet.pickF rfl rfl) rfl ?_
        refine G.q (Quiet.move rfl) rfl ?_
        refine G.grun (t := 102) rfl rfl rfl ?_
        refine G.q (Quiet.move rfl) rfl ?_
        refine G.grun (t := 102) rfl rfl rfl ?_
        refine G.op (OpSpec.call Try.func25 rfl rfl (vs := [_]) rfl (wroom_spec x d ω δ hI.size (by omega))) (by (repeat (first | exact Picks.nil | (apply Picks.cons; (repeat (first | exact Pick.here | apply Pick.there)))))) rfl ?nx83
        rintro v L' ⟨rfl, rfl⟩
        refine G.grun (t := 102) rfl rfl rfl ?_
        refine G.q (Quiet.move rfl) rfl ?_
        refine G.grun (t := 102) rfl rfl rfl ?_
        refine G.q (Quiet.as (v' := .bool false) (by simp) (Quiet.int rfl rfl rfl)) rfl ?_
        refine G.q (Quiet.pickF rfl rfl) rfl ?_
        refine G.nil ?_
        refine G.then_n ?_
        refine G.condF rfl ?_
        refine G.skip ?_
        refine G.then_n ?_
        refine G.seq ?_
        refine G.seq ?_
        refine G.region ?_
        refine G.q (Quiet.move rfl) rfl ?_
        refine G.q (Quiet.int rfl rfl rfl) rfl ?_
        refine G.nil ?_
        refine G.then_n ?_
        refine G.condD rfl (fun h109 => ?_) (fun h109 => ?_)
        · refine G.seq ?_
          refine G.region ?_
          refine G.q (Quiet.assign rfl) rfl ?_
          refine G.nil ?_
          refine G.then_n ?_
          refine G.ret ?_
          refine G.then_r ?_
          exact G.done (l := [.tmp 4]) rfl rfl ⟨rfl, rfl⟩ (by (repeat (first | exact Picks.nil | (apply Picks.cons; (repeat (first | exact Pick.here | apply Pick.there)))))) (by (repeat (first | exact Suff.here | apply Suff.there)))
        · refine G.skip ?_
          refine G.then_n ?_
          refine G.seq ?_
          refine G.region ?_
          refine G.q (Quiet.move rfl) rfl ?_
          refine G.q (Quiet.move rfl) rfl ?_
          refine G.q (Quiet.move rfl) rfl ?_
          refine G.q (Quiet.strTo rfl rfl Try.underlying9 (by omega)) rfl ?_
          refine G.op (OpSpec.call Try.func27 rfl rfl (vs := [_, _]) rfl (wappend_spec x d ω δ ((List.replicate (max (roomZ δ ω + 1) 0).toNat (0 : UInt8)).take (roomZ δ ω).toNat) hI (by rw [List.length_take, List.length_replicate]; omega))) (by (repeat (first | exact Picks.nil | (apply Picks.cons; (repeat (first | exact Pick.here | apply Pick.there)))))) rfl ?nx90
          rintro v L' ⟨rfl, rfl⟩; have hap2 := hr4 ((List.replicate (max (roomZ δ ω + 1) 0).toNat (0 : UInt8)).take (roomZ δ ω).toNat) (by rw [List.length_take, List.length_replicate]; omega)
          rw [hap2]; dsimp only
          refine G.q (Quiet.as (v' := .bool true) (by rfl) (Quiet.int rfl rfl rfl)) rfl ?_
          refine G.q (Quiet.move rfl) rfl ?_
          refine G.grun (t := 116) rfl rfl rfl ?_
          refine G.q (Quiet.move rfl) rfl ?_
          refine G.grun (t := 116) rfl rfl rfl ?_
          refine G.op (OpSpec.call Try.func26 rfl rfl (vs := [_]) rfl (wlen_spec x d _)) (by (repeat (first | exact Picks.nil | (apply Picks.cons; (repeat (first | exact Pick.here | apply Pick.there)))))) rfl ?nx94
          rintro v L' ⟨rfl, rfl⟩
          refine G.grun (t := 116) rfl rfl rfl ?_
          refine G.q (Quiet.move rfl) rfl ?_
          refine G.grun (t := 116) rfl rfl rfl ?_
          refine G.q (Quiet.add rfl rfl (by omega)) rfl ?_
          refine G.grun (t := 116) rfl rfl rfl ?_
          refine G.q (Quiet.as (v' := .bool true) (by simp) (Quiet.int rfl rfl rfl)) rfl ?_
          refine G.q (Quiet.pickT rfl rfl) rfl ?_
          refine G.q (Quiet.assign rfl) rfl ?_
          refine G.nil ?_
          refine G.then_n ?_
          refine G.ret ?_
          exact G.done (l := [.tmp 4]) rfl rfl ⟨rfl, rfl⟩ (by (repeat (first | exact Picks.nil | (apply Picks.cons; (repeat (first | exact Pick.here | apply Pick.there)))))) (by (repeat (first | exact Suff.here | apply Suff.there)))
      · refine G.q (Quiet.move rfl) rfl ?_
        refine G.q (Quiet.as (v' := .bool false) (by rfl) (Quiet.int rfl rfl rfl)) rfl ?_
        refine G.q (Quiet.move rfl) rfl ?_
        refine G.grun (t := 82) rfl rfl rfl ?_
        refine G.q (Quiet.move rfl) rfl ?_
        refine G.grun (t := 82) rfl rfl rfl ?_
        refine G.q (Quiet.as (v' := .bool false) (by rfl) (Quiet.int rfl rfl rfl)) rfl ?_
        refine G.grun (t := 82) rfl rfl rfl ?_
        refine G.q (Quiet.move rfl) rfl ?_
        refine G.gskip (t := 85) rfl rfl rfl rfl ?_
        refine G.gskip (t := 85) rfl rfl rfl rfl ?_
        refine G.grun (t := 82) rfl rfl rfl ?_
        refine G.q (Quiet.pickF rfl rfl) rfl ?_
        refine G.q (Quiet.pickF rfl rfl) rfl ?_
        refine G.q (Quiet.move rfl) rfl ?_
        refine G.grun (t := 90) rfl rfl rfl ?_
        refine G.q (Quiet.move rfl) rfl ?_
        refine G.grun (t := 90) rfl rfl rfl ?_
        refine G.op (OpSpec.call Try.func21 rfl rfl (vs := [_]) rfl (acts_spec d δ)) (by (repeat (first | exact Picks.nil | (apply Picks.cons; (repeat (first | exact Pick.here | apply Pick.there)))))) rfl ?nx102
        rintro v L' ⟨rfl, rfl⟩
        refine G.grun (t := 90) rfl rfl rfl ?_
        refine G.q (Quiet.move rfl) rfl ?_
        refine G.grun (t := 90) rfl rfl rfl ?_
        refine G.q (Quiet.as (v' := .bool false) (by simp) (Quiet.int rfl rfl rfl)) rfl ?_
        refine G.q (Quiet.pickF rfl rfl) rfl ?_
        refine G.q (Quiet.move rfl) rfl ?_
        refine G.grun (t := 96) rfl rfl rfl ?_
        refine G.q (Quiet.move rfl) rfl ?_
        refine G.grun (t := 96) rfl rfl rfl ?_
        refine G.op (OpSpec.call Try.func26 rfl rfl (vs := [_]) rfl (wlen_spec x d ω)) (by (repeat (first | exact Picks.nil | (apply Picks.cons; (repeat (first | exact Pick.here | apply Pick.there)))))) rfl ?nx106
        rintro v L' ⟨rfl, rfl⟩
        refine G.grun (t := 96) rfl rfl rfl ?_
        refine G.q (Quiet.move rfl) rfl ?_
        refine G.grun (t := 96) rfl rfl rfl ?_
        refine G.q (Quiet.as (v' := .bool false) (by simp) (Quiet.int rfl rfl rfl)) rfl ?_
        refine G.q (Quiet.pickF rfl rfl) rfl ?_
        refine G.q (Quiet.move rfl) rfl ?_
        refine G.grun (t := 102) rfl rfl rfl ?_
        refine G.q (Quiet.move rfl) rfl ?_
        refine G.grun (t := 102) rfl rfl rfl ?_
        refine G.op (OpSpec.call Try.func25 rfl rfl (vs := [_]) rfl (wroom_spec x d ω δ hI.size (by omega))) (by (repeat (first | exact Picks.nil | (apply Picks.cons; (repeat (first | exact Pick.here | apply Pick.there)))))) rfl ?nx110
        rintro v L' ⟨rfl, rfl⟩
        refine G.grun (t := 102) rfl rfl rfl ?_
        refine G.q (Quiet.move rfl) rfl ?_
        refine G.grun (t := 102) rfl rfl rfl ?_
        refine G.q (Quiet.as (v' := .bool false) (by simp) (Quiet.int rfl rfl rfl)) rfl ?_
        refine G.q (Quiet.pickF rfl rfl) rfl ?_
        refine G.nil ?_
        refine G.then_n ?_
        refine G.condF rfl ?_
        refine G.skip ?_
        refine G.then_n ?_
        refine G.seq ?_
        refine G.seq ?_
        refine G.region ?_
        refine G.q (Quiet.move rfl) rfl ?_
        refine G.q (Quiet.int rfl rfl rfl) rfl ?_
        refine G.nil ?_
        refine G.then_n ?_
        refine G.condD rfl (fun h109 => ?_) (fun h109 => ?_)
        · refine G.seq ?_
          refine G.region ?_
          refine G.q (Quiet.assign rfl) rfl ?_
          refine G.nil ?_
          refine G.then_n ?_
          refine G.ret ?_
          refine G.then_r ?_
          exact G.done (l := [.tmp 4]) rfl rfl ⟨rfl, rfl⟩ (by (repeat (first | exact Picks.nil | (apply Picks.cons; (repeat (first | exact Pick.here | apply Pick.there)))))) (by (repeat (first | exact Suff.here | apply Suff.there)))
        · refine G.skip ?_
          refine G.then_n ?_
          refine G.seq ?_
          refine G.region ?_
          refine G.q (Quiet.move rfl) rfl ?_
          refine G.q (Quiet.move rfl) rfl ?_
          refine G.q (Quiet.move rfl) rfl ?_
          refine G.q (Quiet.strTo rfl rfl Try.underlying9 (by omega)) rfl ?_
          refine G.op (OpSpec.call Try.func27 rfl rfl (vs := [_, _]) rfl (wappend_spec x d ω δ ((List.replicate (max (roomZ δ ω + 1) 0).toNat (0 : UInt8)).take (roomZ δ ω).toNat) hI (by rw [List.length_take, List.length_replicate]; omega))) (by (repeat (first | exact Picks.nil | (apply Picks.cons; (repeat (first | exact Pick.here | apply Pick.there)))))) rfl ?nx117
          rintro v L' ⟨rfl, rfl⟩; have hap2 := hr4 ((List.replicate (max (roomZ δ ω + 1) 0).toNat (0 : UInt8)).take (roomZ δ ω).toNat) (by rw [List.length_take, List.length_replicate]; omega)
          rw [hap2]; dsimp only
          refine G.q (Quiet.as (v' := .bool true) (by rfl) (Quiet.int rfl rfl rfl)) rfl ?_
          refine G.q (Quiet.move rfl) rfl ?_
          refine G.grun (t := 116) rfl rfl rfl ?_
          refine G.q (Quiet.move rfl) rfl ?_
          refine G.grun (t := 116) rfl rfl rfl ?_
          refine G.op (OpSpec.call Try.func26 rfl rfl (vs := [_]) rfl (wlen_spec x d _)) (by (repeat (first | exact Picks.nil | (apply Picks.cons; (repeat (first | exact Pick.here | apply Pick.there)))))) rfl ?nx121
          rintro v L' ⟨rfl, rfl⟩
          refine G.grun (t := 116) rfl rfl rfl ?_
          refine G.q (Quiet.move rfl) rfl ?_
          refine G.grun (t := 116) rfl rfl rfl ?_
          refine G.q (Quiet.add rfl rfl (by omega)) rfl ?_
          refine G.grun (t := 116) rfl rfl rfl ?_
          refine G.q (Quiet.as (v' := .bool true) (by simp) (Quiet.int rfl rfl rfl)) rfl ?_
          refine G.q (Quiet.pickT rfl rfl) rfl ?_
          refine G.q (Quiet.assign rfl) rfl ?_
          refine G.nil ?_
          refine G.then_n ?_
          refine G.ret ?_
          exact G.done (l := [.tmp 4]) rfl rfl ⟨rfl, rfl⟩ (by (repeat (first | exact Picks.nil | (apply Picks.cons; (repeat (first | exact Pick.here | apply Pick.there)))))) (by (repeat (first | exact Suff.here | apply Suff.there)))
  · refine G.kDF (t := 47) rfl h7_48 ?_
    refine G.gskip (t := 48) rfl rfl rfl rfl ?_
    refine G.gskip (t := 48) rfl rfl rfl rfl ?_
    refine G.q (Quiet.pickF rfl rfl) rfl ?_
    refine G.nil ?_
    refine G.then_n ?_
    refine G.condF rfl ?_
    refine G.exit ?_
    refine G.then_e ?_
    refine G.then_e ?_
    refine G.blk_e ?_
    refine G.then_n ?_
    refine G.seq ?_
    have hI := hW.i (by omega)
    obtain ⟨hr1, hr2, hr3, hr4⟩ := room_law hW
    have hfit := hI.fits
    have hh := half_le hI.size
    have hrm := laidZ_many ω.recs
    have hzl : (List.replicate (max (roomZ δ ω + 1) 0).toNat (0 : UInt8)).length = (max (roomZ δ ω + 1) 0).toNat := List.length_replicate
    refine G.region ?_
    refine G.q (Quiet.move rfl) rfl ?_
    refine G.op (OpSpec.call Try.func25 rfl rfl (vs := [_]) rfl (wroom_spec x d ω δ hI.size (by omega))) (by (repeat (first | exact Picks.nil | (apply Picks.cons; (repeat (first | exact Pick.here | apply Pick.there)))))) rfl ?nx127
    rintro v L' ⟨rfl, rfl⟩
    refine G.q (Quiet.assign rfl) rfl ?_
    refine G.nil ?_
    refine G.then_n ?_
    refine G.seq ?_
    refine G.region ?_
    refine G.q (Quiet.move rfl) rfl ?_
    refine G.op (OpSpec.call Try.func26 rfl rfl (vs := [_]) rfl (wlen_spec x d ω)) (by (repeat (first | exact Picks.nil | (apply Picks.cons; (repeat (first | exact Pick.here | apply Pick.there)))))) rfl ?nx130
    rintro v L' ⟨rfl, rfl⟩
    refine G.q (Quiet.assign rfl) rfl ?_
    refine G.nil ?_
    refine G.then_n ?_
    refine G.seq ?_
    refine G.region ?_
    refine G.q (Quiet.move rfl) rfl ?_
    refine G.op (OpSpec.call Try.func21 rfl rfl (vs := [_]) rfl (acts_spec d δ)) (by (repeat (first | exact Picks.nil | (apply Picks.cons; (repeat (first | exact Pick.here | apply Pick.there)))))) rfl ?nx133
    rintro v L' ⟨rfl, rfl⟩
    refine G.q (Quiet.assign rfl) rfl ?_
    refine G.nil ?_
    refine G.then_n ?_
    refine G.seq ?_
    refine G.region ?_
    refine G.q (Quiet.move rfl) rfl ?_
    refine G.q (Quiet.add rfl rfl (by omega)) rfl ?_
    refine G.q (Quiet.max2 rfl rfl) rfl ?_
    refine G.op (OpSpec.make rfl rfl el_31 ze_5 rfl ⟨by simp, by simp; rfl⟩ ?c137) (by (repeat (first | exact Picks.nil | (apply Picks.cons; (repeat (first | exact Pick.here | apply Pick.there)))))) rfl ?nx138
    case c137 => omega
    rintro v L' ⟨bz, rfl, rfl⟩
    refine G.q (Quiet.bytesPt (cs := (List.replicate (max (roomZ δ ω + 1) 0).toNat (0 : UInt8))) rfl Try.underlying31 Try.underlying5 Try.underlying9 (by (repeat (first | exact Pick.here | apply Pick.there))) (by first | (simp [List.map_replicate]; done) | (simp [List.map_replicate]; rfl)) (by simp) (Nat.le_refl _)) rfl ?_
    refine G.q (Quiet.assign rfl) rfl ?_
    refine G.nil ?_
    refine G.then_n ?_
    refine G.seq ?_
    refine G.region ?_
    refine G.q (Quiet.move rfl) rfl ?_
    refine G.q (Quiet.move rfl) rfl ?_
    refine G.op (OpSpec.call Try.func27 rfl rfl (vs := [_, _]) rfl (wappend_spec x d ω δ (List.replicate (max (roomZ δ ω + 1) 0).toNat (0 : UInt8)) hI (by rw [List.length_replicate]; omega))) (by (repeat (first | exact Picks.nil | (apply Picks.cons; (repeat (first | exact Pick.here | apply Pick.there)))))) rfl ?nx142
    rintro v L' ⟨rfl, rfl⟩; obtain ⟨er, her, hap⟩ : ∃ er, (er = 33 ∨ er = 30) ∧ appendZ δ ω (List.replicate (max (roomZ δ ω + 1) 0).toNat (0 : UInt8)) = (δ, ω, er) := by rcases hr3 (List.replicate (max (roomZ δ ω + 1) 0).toNat (0 : UInt8)) (by rw [List.length_replicate]; omega) with h | h; exact ⟨_, .inl rfl, h⟩; exact ⟨_, .inr rfl, h⟩
    rw [hap]; dsimp only
    refine G.q (Quiet.assign rfl) rfl ?_
    refine G.nil ?_
    refine G.then_n ?_
    refine G.seq ?_
    refine G.seq ?_
    refine G.region ?_
    rcases her with rfl | rfl
    · refine G.q (Quiet.move rfl) rfl ?_
      refine G.q (Quiet.as (v' := .bool false) (by rfl) (Quiet.int rfl rfl rfl)) rfl ?_
      refine G.q (Quiet.move rfl) rfl ?_
      refine G.grun (t := 82) rfl rfl rfl ?_
      refine G.q (Quiet.move rfl) rfl ?_
      refine G.grun (t := 82) rfl rfl rfl ?_
      refine G.q (Quiet.as (v' := .bool true) (by rfl) (Quiet.int rfl rfl rfl)) rfl ?_
      refine G.grun (t := 82) rfl rfl rfl ?_
      refine G.q (Quiet.move rfl) rfl ?_
      refine G.grun (t := 85) rfl rfl rfl ?_
      refine G.q (Quiet.move rfl) rfl ?_
      refine G.grun (t := 85) rfl rfl rfl ?_
      refine G.q (Quiet.as (v' := .bool false) (by rfl) (Quiet.int rfl rfl rfl)) rfl ?_
      refine G.grun (t := 82) rfl rfl rfl ?_
      refine G.q (Quiet.pickT rfl rfl) rfl ?_
      refine G.q (Quiet.pickF rfl rfl) rfl ?_
      refine G.q (Quiet.move rfl) rfl ?_
      refine G.grun (t := 90) rfl rfl rfl ?_
      refine G.q (Quiet.move rfl) rfl ?_
      refine G.grun (t := 90) rfl rfl rfl ?_
      refine G.op (OpSpec.call Try.func21 rfl rfl (vs := [_]) rfl (acts_spec d δ)) (by (repeat (first | exact Picks.nil | (apply Picks.cons; (repeat (first | exact Pick.here | apply Pick.there)))))) rfl ?nx148
      rintro v L' ⟨rfl, rfl⟩
      refine G.grun (t := 90) rfl rfl rfl ?_
      refine G.q (Quiet.move rfl) rfl ?_
      refine G.grun (t := 90) rfl rfl rfl ?_
      refine G.q (Quiet.as (v' := .bool false) (by simp) (Quiet.int rfl rfl rfl)) rfl ?_
      refine G.q (Quiet.pickF rfl rfl) rfl ?_
      refine G.q (Quiet.move rfl) rfl ?_
      refine G.grun (t := 96) rfl rfl rfl ?_
      refine G.q (Quiet.move rfl) rfl ?_
      refine G.grun (t := 96) rfl rfl rfl ?_
      refine G.op (OpSpec.call Try.func26 rfl rfl (vs := [_]) rfl (wlen_spec x d ω)) (by (repeat (first | exact Picks.nil | (apply Picks.cons; (repeat (first | exact Pick.here | apply Pick.there)))))) rfl ?nx152
      rintro v L' ⟨rfl, rfl⟩
      refine G.grun (t := 96) rfl rfl rfl ?_
      refine G.q (Quiet.move rfl) rfl ?_
      refine G.grun (t := 96) rfl rfl rfl ?_
      refine G.q (Quiet.as (v' := .bool false) (by simp) (Quiet.int rfl rfl rfl)) rfl ?_
      refine G.q (Quiet.pickF rfl rfl) rfl ?_
      refine G.q (Quiet.move rfl) rfl ?_
      refine G.grun (t := 102) rfl rfl rfl ?_
      refine G.q (Quiet.move rfl) rfl ?_
      refine G.grun (t := 102) rfl rfl rfl ?_
      refine G.op (OpSpec.call Try.func25 rfl rfl (vs := [_]) rfl (wroom_spec x d ω δ hI.size (by omega))) (by (repeat (first | exact Picks.nil | (apply Picks.cons; (repeat (first | exact Pick.here | apply Pick.there)))))) rfl ?nx156
      rintro v L' ⟨rfl, rfl⟩
      refine G.grun (t := 102) rfl rfl rfl ?_
      refine G.q (Quiet.move rfl) rfl ?_
      refine G.grun (t := 102) rfl rfl rfl ?_
      refine G.q (Quiet.as (v' := .bool false) (by simp) (Quiet.int rfl rfl rfl)) rfl ?_
      refine G.q (Quiet.pickF rfl rfl) rfl ?_
      refine G.nil ?_
      refine G.then_n ?_
      refine G.condF rfl ?_
      refine G.skip ?_
      refine G.then_n ?_
      refine G.seq ?_
      refine G.seq ?_
      refine G.region ?_
      refine G.q (Quiet.move rfl) rfl ?_
      refine G.q (Quiet.int rfl rfl rfl) rfl ?_
      refine G.nil ?_
      refine G.then_n ?_
      refine G.condD rfl (fun h109 => ?_) (fun h109 => ?_)
      · refine G.seq ?_
        refine G.region ?_
        refine G.q (Quiet.assign rfl) rfl ?_
        refine G.nil ?_
        refine G.then_n ?_
        refine G.ret ?_
        refine G.then_r ?_
        exact G.done (l := [.tmp 4]) rfl rfl ⟨rfl, rfl⟩ (by (repeat (first | exact Picks.nil | (apply Picks.cons; (repeat (first | exact Pick.here | apply Pick.there)))))) (by (repeat (first | exact Suff.here | apply Suff.there)))
      · refine G.skip ?_
        refine G.then_n ?_
        refine G.seq ?_
        refine G.region ?_
        refine G.q (Quiet.move rfl) rfl ?_
        refine G.q (Quiet.move rfl) rfl ?_
        refine G.q (Quiet.move rfl) rfl ?_
        refine G.q (Quiet.strTo rfl rfl Try.underlying9 (by omega)) rfl ?_
        refine G.op (OpSpec.call Try.func27 rfl rfl (vs := [_, _]) rfl (wappend_spec x d ω δ ((List.replicate (max (roomZ δ ω + 1) 0).toNat (0 : UInt8)).take (roomZ δ ω).toNat) hI (by rw [List.length_take, List.length_replicate]; omega))) (by (repeat (first | exact Picks.nil | (apply Picks.cons; (repeat (first | exact Pick.here | apply Pick.there)))))) rfl ?nx163
        rintro v L' ⟨rfl, rfl⟩; have hap2 := hr4 ((List.replicate (max (roomZ δ ω + 1) 0).toNat (0 : UInt8)).take (roomZ δ ω).toNat) (by rw [List.length_take, List.length_replicate]; omega)
        rw [hap2]; dsimp only
        refine G.q (Quiet.as (v' := .bool true) (by rfl) (Quiet.int rfl rfl rfl)) rfl ?_
        refine G.q (Quiet.move rfl) rfl ?_
        refine G.grun (t := 116) rfl rfl rfl ?_
        refine G.q (Quiet.move rfl) rfl ?_
        refine G.grun (t := 116) rfl rfl rfl ?_
        refine G.op (OpSpec.call Try.func26 rfl rfl (vs := [_]) rfl (wlen_spec x d _)) (by (repeat (first | exact Picks.nil | (apply Picks.cons; (repeat (first | exact Pick.here | apply Pick.there)))))) rfl ?nx167
        rintro v L' ⟨rfl, rfl⟩
        refine G.grun (t := 116) rfl rfl rfl ?_
        refine G.q (Quiet.move rfl) rfl ?_
        refine G.grun (t := 116) rfl rfl rfl ?_
        refine G.q (Quiet.add rfl rfl (by omega)) rfl ?_
        refine G.grun (t := 116) rfl rfl rfl ?_
        refine G.q (Quiet.as (v' := .bool true) (by simp) (Quiet.int rfl rfl rfl)) rfl ?_
        refine G.q (Quiet.pickT rfl rfl) rfl ?_
        refine G.q (Quiet.assign rfl) rfl ?_
        refine G.nil ?_
        refine G.then_n ?_
        refine G.ret ?_
        exact G.done (l := [.tmp 4]) rfl rfl ⟨rfl, rfl⟩ (by (repeat (first | exact Picks.nil | (apply Picks.cons; (repeat (first | exact Pick.here | apply Pick.there)))))) (by (repeat (first | exact Suff.here | apply Suff.there)))
    · refine G.q (Quiet.move rfl) rfl ?_
      refine G.q (Quiet.as (v' := .bool false) (by rfl) (Quiet.int rfl rfl rfl)) rfl ?_
      refine G.q (Quiet.move rfl) rfl ?_
      refine G.grun (t := 82) rfl rfl rfl ?_
      refine G.q (Quiet.move rfl) rfl ?_
      refine G.grun (t := 82) rfl rfl rfl ?_
      refine G.q (Quiet.as (v' := .bool false) (by rfl) (Quiet.int rfl rfl rfl)) rfl ?_
      refine G.grun (t := 82) rfl rfl rfl ?_
      refine G.q (Quiet.move rfl) rfl ?_
      refine G.gskip (t := 85) rfl rfl rfl rfl ?_
      refine G.gskip (t := 85) rfl rfl rfl rfl ?_
      refine G.grun (t := 82) rfl rfl rfl ?_
      refine G.q (Quiet.pickF rfl rfl) rfl ?_
      refine G.q (Quiet.pickF rfl rfl) rfl ?_
      refine G.q (Quiet.move rfl) rfl ?_
      refine G.grun (t := 90) rfl rfl rfl ?_
      refine G.q (Quiet.move rfl) rfl ?_
      refine G.grun (t := 90) rfl rfl rfl ?_
      refine G.op (OpSpec.call Try.func21 rfl rfl (vs := [_]) rfl (acts_spec d δ)) (by (repeat (first | exact Picks.nil | (apply Picks.cons; (repeat (first | exact Pick.here | apply Pick.there)))))) rfl ?nx175
      rintro v L' ⟨rfl, rfl⟩
      refine G.grun (t := 90) rfl rfl rfl ?_
      refine G.q (Quiet.move rfl) rfl ?_
      refine G.grun (t := 90) rfl rfl rfl ?_
      refine G.q (Quiet.as (v' := .bool false) (by simp) (Quiet.int rfl rfl rfl)) rfl ?_
      refine G.q (Quiet.pickF rfl rfl) rfl ?_
      refine G.q (Quiet.move rfl) rfl ?_
      refine G.grun (t := 96) rfl rfl rfl ?_
      refine G.q (Quiet.move rfl) rfl ?_
      refine G.grun (t := 96) rfl rfl rfl ?_
      refine G.op (OpSpec.call Try.func26 rfl rfl (vs := [_]) rfl (wlen_spec x d ω)) (by (repeat (first | exact Picks.nil | (apply Picks.cons; (repeat (first | exact Pick.here | apply Pick.there)))))) rfl ?nx179
      rintro v L' ⟨rfl, rfl⟩
      refine G.grun (t := 96) rfl rfl rfl ?_
      refine G.q (Quiet.move rfl) rfl ?_
      refine G.grun (t := 96) rfl rfl rfl ?_
      refine G.q (Quiet.as (v' := .bool false) (by simp) (Quiet.int rfl rfl rfl)) rfl ?_
      refine G.q (Quiet.pickF rfl rfl) rfl ?_
      refine G.q (Quiet.move rfl) rfl ?_
      refine G.grun (t := 102) rfl rfl rfl ?_
      refine G.q (Quiet.move rfl) rfl ?_
      refine G.grun (t := 102) rfl rfl rfl ?_
      refine G.op (OpSpec.call Try.func25 rfl rfl (vs := [_]) rfl (wroom_spec x d ω δ hI.size (by omega))) (by (repeat (first | exact Picks.nil | (apply Picks.cons; (repeat (first | exact Pick.here | apply Pick.there)))))) rfl ?nx183
      rintro v L' ⟨rfl, rfl⟩
      refine G.grun (t := 102) rfl rfl rfl ?_
      refine G.q (Quiet.move rfl) rfl ?_
      refine G.grun (t := 102) rfl rfl rfl ?_
      refine G.q (Quiet.as (v' := .bool false) (by simp) (Quiet.int rfl rfl rfl)) rfl ?_
      refine G.q (Quiet.pickF rfl rfl) rfl ?_
      refine G.nil ?_
      refine G.then_n ?_
      refine G.condF rfl ?_
      refine G.skip ?_
      refine G.then_n ?_
      refine G.seq ?_
      refine G.seq ?_
      refine G.region ?_
      refine G.q (Quiet.move rfl) rfl ?_
      refine G.q (Quiet.int rfl rfl rfl) rfl ?_
      refine G.nil ?_
      refine G.then_n ?_
      refine G.condD rfl (fun h109 => ?_) (fun h109 => ?_)
      · refine G.seq ?_
        refine G.region ?_
        refine G.q (Quiet.assign rfl) rfl ?_
        refine G.nil ?_
        refine G.then_n ?_
        refine G.ret ?_
        refine G.then_r ?_
        exact G.done (l := [.tmp 4]) rfl rfl ⟨rfl, rfl⟩ (by (repeat (first | exact Picks.nil | (apply Picks.cons; (repeat (first | exact Pick.here | apply Pick.there)))))) (by (repeat (first | exact Suff.here | apply Suff.there)))
      · refine G.skip ?_
        refine G.then_n ?_
        refine G.seq ?_
        refine G.region ?_
        refine G.q (Quiet.move rfl) rfl ?_
        refine G.q (Quiet.move rfl) rfl ?_
        refine G.q (Quiet.move rfl) rfl ?_
        refine G.q (Quiet.strTo rfl rfl Try.underlying9 (by omega)) rfl ?_
        refine G.op (OpSpec.call Try.func27 rfl rfl (vs := [_, _]) rfl (wappend_spec x d ω δ ((List.replicate (max (roomZ δ ω + 1) 0).toNat (0 : UInt8)).take (roomZ δ ω).toNat) hI (by rw [List.length_take, List.length_replicate]; omega))) (by (repeat (first | exact Picks.nil | (apply Picks.cons; (repeat (first | exact Pick.here | apply Pick.there)))))) rfl ?nx190
        rintro v L' ⟨rfl, rfl⟩; have hap2 := hr4 ((List.replicate (max (roomZ δ ω + 1) 0).toNat (0 : UInt8)).take (roomZ δ ω).toNat) (by rw [List.length_take, List.length_replicate]; omega)
        rw [hap2]; dsimp only
        refine G.q (Quiet.as (v' := .bool true) (by rfl) (Quiet.int rfl rfl rfl)) rfl ?_
        refine G.q (Quiet.move rfl) rfl ?_
        refine G.grun (t := 116) rfl rfl rfl ?_
        refine G.q (Quiet.move rfl) rfl ?_
        refine G.grun (t := 116) rfl rfl rfl ?_
        refine G.op (OpSpec.call Try.func26 rfl rfl (vs := [_]) rfl (wlen_spec x d _)) (by (repeat (first | exact Picks.nil | (apply Picks.cons; (repeat (first | exact Pick.here | apply Pick.there)))))) rfl ?nx194
        rintro v L' ⟨rfl, rfl⟩
        refine G.grun (t := 116) rfl rfl rfl ?_
        refine G.q (Quiet.move rfl) rfl ?_
        refine G.grun (t := 116) rfl rfl rfl ?_
        refine G.q (Quiet.add rfl rfl (by omega)) rfl ?_
        refine G.grun (t := 116) rfl rfl rfl ?_
        refine G.q (Quiet.as (v' := .bool true) (by simp) (Quiet.int rfl rfl rfl)) rfl ?_
        refine G.q (Quiet.pickT rfl rfl) rfl ?_
        refine G.q (Quiet.assign rfl) rfl ?_
        refine G.nil ?_
        refine G.then_n ?_
        refine G.ret ?_
        exact G.done (l := [.tmp 4]) rfl rfl ⟨rfl, rfl⟩ (by (repeat (first | exact Picks.nil | (apply Picks.cons; (repeat (first | exact Pick.here | apply Pick.there)))))) (by (repeat (first | exact Suff.here | apply Suff.there)))

end Go.Proofs.Ytepncdidkjjllaa
