/- Own work, by program: package tree: Apply, Stat, Get: walked. -/
import Derived.Test.YtnnbelmpbmfdnaaDoorTree2
namespace Go.Proofs.YtnnbelmpbmfdnaaDoor
open Go
set_option maxRecDepth 100000 in
theorem trapply_spec (t : Nat) (τ : Tr) (zx ses xid : Int) (x : Pt) (subs : List Pt) (p : HP) (hx : TxA p x subs) (N : Nat) (ho : τ.Ok N) (hN : N + subs.length ≤ 1099511627776) : Fn Tryd.prog 17 #[vptr t, .agg ([vint zx, vint ses, vint xid] ++ ptC x).toArray] [treeR t τ, p] fun v L => ∃ u e, v = .tuple #[u, vint e] ∧ e = (applyZ τ zx x subs).2.2 ∧ (∃ a c, u = .slice a (applyZ τ zx x subs).2.1.length c) ∧ L = [treeR t (applyZ τ zx x subs).1, p, slR 35 3 u (applyZ τ zx x subs).2.1.length ((applyZ τ zx x subs).2.1.flatMap evC)] := by
  refine Fn.intro (vs := [vptr t, .agg ([vint zx, vint ses, vint xid] ++ ptC x).toArray]) Tryd.func17 rfl rfl ?_
  intro F W
  refine G.rdAny (p := p) hx.rd (by (repeat (first | exact Pick.here | apply Pick.there))) fun asb csb esub _ => ?_
  have hrd := hx.rd
  rw [esub] at hrd
  have hfs := hx.few
  refine G.seq ?_
  refine G.region ?_
  refine G.op (OpSpec.box rfl) (by (repeat (first | exact Picks.nil | (apply Picks.cons; (repeat (first | exact Pick.here | apply Pick.there)))))) rfl ?nx1
  rintro v L' ⟨be, rfl, rfl⟩
  refine G.q (Quiet.assign rfl) rfl ?_
  refine G.q (Quiet.assign rfl) rfl ?_
  refine G.nil ?_
  refine G.ptCast (b := be) (l' := ([vint zx, vint ses, vint xid] ++ ptC x)) (by (repeat (first | exact Pick.here | apply Pick.there))) rfl ?_
  refine G.then_n ?_
  refine G.seq ?_
  refine G.region ?_
  refine G.q (Quiet.assign rfl) rfl ?_
  refine G.nil ?_
  refine G.then_n ?_
  refine G.seq ?_
  refine G.region ?_
  refine G.q (Quiet.fieldAddr rfl fo_52_3) rfl ?_
  refine G.q (Quiet.loadAs (vs := ptC x) rfl ag_50 (by (repeat (first | exact Pick.here | apply Pick.there))) (by simp [ptC]) rfl) rfl ?_
  refine G.op (OpSpec.allocA ze_50) (by (repeat (first | exact Picks.nil | (apply Picks.cons; (repeat (first | exact Pick.here | apply Pick.there)))))) rfl ?nx8
  rintro v L' ⟨bx, rfl, rfl⟩
  refine G.op (OpSpec.storeA rfl rfl ?c10 sz_50 ?c13 ?c11 ?c12) (by (repeat (first | exact Picks.nil | (apply Picks.cons; (repeat (first | exact Pick.here | apply Pick.there)))))) rfl ?nx14
  case c10 => exact hx.own.all
  case c13 => rfl
  case c11 => simp [ptC]
  case c12 => exact nfz0 _ _
  rintro v L' rfl
  refine G.nil ?_
  refine G.ptCast (b := bx) (l' := ptC x) (by (repeat (first | exact Pick.here | apply Pick.there))) rfl ?_
  refine G.then_n ?_
  refine G.seq ?_
  refine G.trOpen (τ := τ) (by (repeat (first | exact Pick.here | apply Pick.there))) fun rn rs m s hI => ?_
  refine G.region ?_
  refine G.q (Quiet.move rfl) rfl ?_
  refine G.q (Quiet.fieldAddr rfl fo_52_0) rfl ?_
  refine G.q (Quiet.load rfl ag_3 (by (repeat (first | exact Pick.here | apply Pick.there))) (rfl)) rfl ?_
  refine G.q (Quiet.nilp rfl) rfl ?_
  refine G.q (Quiet.fieldAddr rfl fo_90_2) rfl ?_
  refine G.op (OpSpec.store rfl rfl rfl sz_3 ?c20 ?c21) (by (repeat (first | exact Picks.nil | (apply Picks.cons; (repeat (first | exact Pick.here | apply Pick.there)))))) rfl ?nx22
  case c20 => first | decide | (simp; omega) | simp
  case c21 => exact nfz0 _ _
  rintro v L' rfl
  refine G.nil ?_
  refine G.trFold (τ := (zxT τ zx)) (hI.zx zx) (by (repeat (first | exact Picks.nil | (apply Picks.cons; (repeat (first | exact Pick.here | apply Pick.there)))))) rfl rfl rfl ?_
  refine G.then_n ?_
  refine G.seq ?_
  refine G.seq ?_
  refine G.region ?_
  refine G.q (Quiet.fieldAddr rfl fo_50_0) rfl ?_
  refine G.q (Quiet.load rfl ag_3 (by (repeat (first | exact Pick.here | apply Pick.there))) (rfl)) rfl ?_
  refine G.nil ?_
  refine G.then_n ?_
  refine G.block ?_
  refine G.seq ?_
  refine G.region ?_
  refine G.q (Quiet.int rfl rfl rfl) rfl ?_
  refine G.q (Quiet.assign rfl) rfl ?_
  refine G.nil ?_
  refine G.then_n ?_
  refine G.condD rfl (fun h26 => ?_) (fun h26 => ?_)
  · refine G.seq ?_
    refine G.region ?_
    refine G.q (Quiet.fieldAddr rfl fo_50_4) rfl ?_
    refine G.q (Quiet.load rfl ag_3 (by (repeat (first | exact Pick.here | apply Pick.there))) (rfl)) rfl ?_
    refine G.q (Quiet.int rfl rfl rfl) rfl ?_
    refine G.nil ?_
    refine G.then_n ?_
    refine G.condD rfl (fun h30 => ?_) (fun h30 => ?_)
    · refine G.trOpen (τ := (zxT τ zx)) (by (repeat (first | exact Pick.here | apply Pick.there))) fun rn rs m s hI => ?_
      refine G.draw [11] [[0, 1, 2, 3, 4, 5, 6, 7, 8, 9, 10, 11]] mixed (by kernel_rfl) ?_
      refine Phases.go [] (by (repeat (first | exact Picks.nil | (apply Picks.cons; (repeat (first | exact Pick.here | apply Pick.there)))))) ?_
      refine D.qw [1, 2, 3, 11] rfl (by kernel_rfl) (Quiet.move rfl) ?_
      refine D.qw [2, 3, 11] rfl (by kernel_rfl) (Quiet.nilp rfl) ?_
      refine D.qw [3, 11] rfl (by kernel_rfl) (Quiet.fieldAddr rfl fo_90_1) ?_
      refine D.qw [11] rfl (by kernel_rfl) (Quiet.load rfl ag_88 (by (repeat (first | exact Pick.here | apply Pick.there))) (rfl)) ?_
      refine D.qw [5, 11] rfl (by kernel_rfl) (Quiet.fieldAddr rfl fo_50_4) ?_
      refine D.qw [11] rfl (by kernel_rfl) (Quiet.load rfl ag_3 (by (repeat (first | exact Pick.here | apply Pick.there))) (rfl)) ?_
      refine D.qw [7, 10, 11] rfl (by kernel_rfl) (Quiet.fieldAddr rfl fo_50_5) ?_
      refine D.qw [10, 11] rfl (by kernel_rfl) (Quiet.load rfl ag_3 (by (repeat (first | exact Pick.here | apply Pick.there))) (rfl)) ?_
      refine D.qw [9, 10, 11] rfl (by kernel_rfl) (Quiet.fieldAddr rfl fo_50_2) ?_
      refine D.qw [10, 11] rfl (by kernel_rfl) (Quiet.load rfl ag_9 (by (repeat (first | exact Pick.here | apply Pick.there))) (rfl)) ?_
      refine D.qw [11] rfl (by kernel_rfl) (Quiet.build (us := [(0, _), (1, _)]) fl_92 ze_92 rfl rfl (by simp [isCell])) ?_
      refine D.h rfl (by kernel_rfl) (OpSpec.mapSet (m := s) (enc := ssV) (v := (x.num, x.data)) (k := x.own) (KeyLaw.int Tryd.underlying3) rfl rfl rfl Tryd.underlying88 ?he40) (by (repeat (first | exact Picks.nil | (apply Picks.cons; (repeat (first | exact Pick.here | apply Pick.there)))))) ?nx41
      case he40 => rfl
      rintro v L' rfl
      refine D.ph ?_
      refine Phases.fin ?_
      refine G.trFold (τ := (openS (zxT τ zx) x.own x.num x.data)) (hI.open x.own x.num x.data) (by (repeat (first | exact Picks.nil | (apply Picks.cons; (repeat (first | exact Pick.here | apply Pick.there)))))) rfl rfl rfl ?_
      refine G.blk_n ?_
      refine G.then_n ?_
      refine G.seq ?_
      refine G.region ?_
      refine G.q (Quiet.move rfl) rfl ?_
      refine G.q (Quiet.assign rfl) rfl ?_
      refine G.q (Quiet.assign rfl) rfl ?_
      refine G.nil ?_
      refine G.then_n ?_
      refine G.ret ?_
      refine G.add (slR_nil 35 3) ?_
      have hc : applyZ τ zx x subs = (openS (zxT τ zx) x.own x.num x.data, ([], 0)) := by unfold applyZ; dsimp only; rw [if_pos h26, if_pos (by omega)]
      refine G.trCast (τ' := (applyZ τ zx x subs).1) (by (repeat (first | exact Pick.here | apply Pick.there))) (by rw [hc]) ?_
      refine G.slCast (T := 35) (sz := 3) (m' := (applyZ τ zx x subs).2.1.length) (xs' := (applyZ τ zx x subs).2.1.flatMap evC) (by (repeat (first | exact Pick.here | apply Pick.there))) (by (rw [hc]; try rfl)) (by (rw [hc]; try rfl)) ?_
      exact G.done (l := [.tmp 4, .tmp 5]) rfl rfl ⟨_, _, rfl, by rw [hc], ⟨_, _, by (rw [hc]; try rfl)⟩, rfl⟩ (by (repeat (first | exact Picks.nil | (apply Picks.cons; (repeat (first | exact Pick.here | apply Pick.there)))))) (by (repeat (first | exact Suff.here | apply Suff.there)))
    · refine G.skip ?_
      refine G.blk_n ?_
      refine G.then_n ?_
      refine G.seq ?_
      refine G.region ?_
      refine G.q (Quiet.move rfl) rfl ?_
      refine G.q (Quiet.assign rfl) rfl ?_
      refine G.q (Quiet.assign rfl) rfl ?_
      refine G.nil ?_
      refine G.then_n ?_
      refine G.ret ?_
      refine G.add (slR_nil 35 3) ?_
      have hc : applyZ τ zx x subs = ((zxT τ zx), ([], 0)) := by unfold applyZ; dsimp only; rw [if_pos h26, if_neg (by omega)]
      refine G.trCast (τ' := (applyZ τ zx x subs).1) (by (repeat (first | exact Pick.here | apply Pick.there))) (by rw [hc]) ?_
      refine G.slCast (T := 35) (sz := 3) (m' := (applyZ τ zx x subs).2.1.length) (xs' := (applyZ τ zx x subs).2.1.flatMap evC) (by (repeat (first | exact Pick.here | apply Pick.there))) (by (rw [hc]; try rfl)) (by (rw [hc]; try rfl)) ?_
      exact G.done (l := [.tmp 4, .tmp 5]) rfl rfl ⟨_, _, rfl, by rw [hc], ⟨_, _, by (rw [hc]; try rfl)⟩, rfl⟩ (by (repeat (first | exact Picks.nil | (apply Picks.cons; (repeat (first | exact Pick.here | apply Pick.there)))))) (by (repeat (first | exact Suff.here | apply Suff.there)))
  · refine G.seq ?_
    refine G.region ?_
    refine G.q (Quiet.int rfl rfl rfl) rfl ?_
    refine G.q (Quiet.assign rfl) rfl ?_
    refine G.nil ?_
    refine G.then_n ?_
    refine G.condD rfl (fun h42 => ?_) (fun h42 => ?_)
    · refine G.seq ?_
      refine G.seq ?_
      refine G.region ?_
      refine G.q (Quiet.fieldAddr rfl fo_50_7) rfl ?_
      refine G.q (Quiet.as (v' := .slice asb subs.length csb) (by exact esub) (Quiet.load rfl ag_48 (by (repeat (first | exact Pick.here | apply Pick.there))) (rfl))) rfl ?_
      refine G.q (Quiet.slen rfl Tryd.underlying48 rfl) rfl ?_
      refine G.q (Quiet.move rfl) rfl ?_
      refine G.nil ?_
      refine G.then_n ?_
      refine G.block ?_
      refine G.add (slR_nil 35 3) ?_
      refine G.trCast (τ' := (partsZ (zxT τ zx) zx ((subs.take 0).filter isDel)).1) (by (repeat (first | exact Pick.here | apply Pick.there))) (by rw [List.take_zero]; rfl) ?_
      refine G.slCast (T := 35) (sz := 3) (m' := (partsZ (zxT τ zx) zx ((subs.take 0).filter isDel)).2.length) (xs' := (partsZ (zxT τ zx) zx ((subs.take 0).filter isDel)).2.flatMap evC) (by (repeat (first | exact Pick.here | apply Pick.there))) (by rw [List.take_zero]; rfl) (by rw [List.take_zero]; rfl) ?_
      refine G.loopK (ι := Nat × Value) (fun q E => (47, vint q.1) :: (6, q.2) :: E) (fun q => [treeR t (partsZ (zxT τ zx) zx ((subs.take q.1).filter isDel)).1, slR 35 3 q.2 (partsZ (zxT τ zx) zx ((subs.take q.1).filter isDel)).2.length ((partsZ (zxT τ zx) zx ((subs.take q.1).filter isDel)).2.flatMap evC)]) (fun q => q.1 ≤ subs.length ∧ ∃ a c, q.2 = .slice a (partsZ (zxT τ zx) zx ((subs.take q.1).filter isDel)).2.length c) (fun q => subs.length - q.1) (0, .slice none 0 0) (ts := [0, 3, 4, 5, 7, 45, 46]) (.cons rfl (.cons rfl (.cons rfl (.cons rfl (.cons rfl (.cons rfl (.cons rfl (.nil)))))))) (⟨Nat.zero_le _, none, 0, by rw [List.take_zero]; rfl⟩) ⟨rfl, rfl, rfl, rfl, rfl, rfl, rfl, rfl, rfl, trivial⟩ (by (repeat (first | exact Picks.nil | (apply Picks.cons; (repeat (first | exact Pick.here | apply Pick.there)))))) ?_
      rintro ⟨i, u⟩ ⟨hi, au, cu, hu⟩
      dsimp only
      dsimp only at hi hu
      subst hu
      have hev := parts_ev (zxT τ zx) zx ((subs.take i).filter isDel)
      have hfl := List.length_filter_le isDel (subs.take i)
      rw [List.length_take] at hfl
      have hok : (partsZ (zxT τ zx) zx ((subs.take i).filter isDel)).1.Ok (N + subs.length) := ((ho.zx zx).parts zx _ (fun y hy => (hx.each y (List.mem_of_mem_take (List.mem_filter.1 hy).1)).few)).more (by omega)
      refine G.seq ?_
      refine G.region ?_
      refine G.q (Quiet.int rfl rfl rfl) rfl ?_
      refine G.nil ?_
      refine G.then_n ?_
      refine G.seq ?_
      refine G.condD rfl (fun h48 => ?_) (fun h48 => ?_)
      · have hi2 : i < subs.length := by omega
        refine G.rdShape (p := p) hrd (by (repeat (first | exact Pick.here | apply Pick.there))) (by omega) fun bs os e1 => ?_
        subst e1
        have hys := hx.each _ (List.getElem_mem hi2)
        refine G.skip ?_
        refine G.then_n ?_
        refine G.seq ?_
        refine G.block ?_
        refine G.seq ?_
        refine G.region ?_
        refine G.q (Quiet.indexAddr rfl rfl el_48 (by omega)) rfl ?_
        refine G.q (Quiet.loadRdA (sz := 8) (j := i * 8) (k := 8) (p := p) (vs := ptC subs[i]) rfl ag_50 (by (repeat (first | exact Pick.here | apply Pick.there))) hrd (by simp) (by omega) (by omega) (flatMap_at (f := ptC) (sz := 8) (fun _ _ => rfl) (by omega))) rfl ?_
        refine G.op (OpSpec.allocA ze_50) (by (repeat (first | exact Picks.nil | (apply Picks.cons; (repeat (first | exact Pick.here | apply Pick.there)))))) rfl ?nx52
        rintro v L' ⟨by1, rfl, rfl⟩
        refine G.op (OpSpec.storeA rfl rfl ?c54 sz_50 ?c57 ?c55 ?c56) (by (repeat (first | exact Picks.nil | (apply Picks.cons; (repeat (first | exact Pick.here | apply Pick.there)))))) rfl ?nx58
        case c54 => exact hys.all
        case c57 => rfl
        case c55 => simp [ptC]
        case c56 => exact nfz0 _ _
        rintro v L' rfl
        refine G.nil ?_
        refine G.ptCast (b := by1) (l' := ptC subs[i]) (by (repeat (first | exact Pick.here | apply Pick.there))) rfl ?_
        refine G.then_n ?_
        refine G.seq ?_
        refine G.region ?_
        refine G.q (Quiet.fieldAddr rfl fo_50_0) rfl ?_
        refine G.q (Quiet.load rfl ag_3 (by (repeat (first | exact Pick.here | apply Pick.there))) (rfl)) rfl ?_
        refine G.q (Quiet.int rfl rfl rfl) rfl ?_
        refine G.nil ?_
        refine G.then_n ?_
        refine G.condD rfl (fun h53 => ?_) (fun h53 => ?_)
        · refine G.region ?_
          refine G.q (Quiet.move rfl) rfl ?_
          refine G.q (Quiet.move rfl) rfl ?_
          refine G.q (Quiet.loadAs (vs := ptC subs[i]) rfl ag_50 (by (repeat (first | exact Pick.here | apply Pick.there))) (by simp [ptC]) rfl) rfl ?_
          refine G.q (Quiet.fieldAddr rfl fo_52_0) rfl ?_
          refine G.q (Quiet.load rfl ag_3 (by (repeat (first | exact Pick.here | apply Pick.there))) (rfl)) rfl ?_
          refine G.op (OpSpec.call Tryd.func30 rfl rfl (vs := [_, _, _]) rfl (trpart_spec t (partsZ (zxT τ zx) zx ((subs.take i).filter isDel)).1 subs[i] zx p hys (N + subs.length) hok (by omega))) (by (repeat (first | exact Picks.nil | (apply Picks.cons; (repeat (first | exact Pick.here | apply Pick.there)))))) rfl ?nx67
          rintro v L' ⟨a14, c14, rfl, rfl⟩
          refine G.op (OpSpec.append (n := (partsZ (zxT τ zx) zx ((subs.take i).filter isDel)).2.length) (m := (partZ (partsZ (zxT τ zx) zx ((subs.take i).filter isDel)).1 subs[i] zx).2.length) (ys := (partZ (partsZ (zxT τ zx) zx ((subs.take i).filter isDel)).1 subs[i] zx).2.flatMap evC) (p := slR 35 3 (.slice a14 (partZ (partsZ (zxT τ zx) zx ((subs.take i).filter isDel)).1 subs[i] zx).2.length c14) (partZ (partsZ (zxT τ zx) zx ((subs.take i).filter isDel)).1 subs[i] zx).2.length ((partZ (partsZ (zxT τ zx) zx ((subs.take i).filter isDel)).1 subs[i] zx).2.flatMap evC)) rfl rfl rfl el_23 (.inl ⟨_, Tryd.underlying23⟩) ze_35 rfl rfl ?hc69 ?hr70 ?hb71 (by decide)) (by (repeat (first | exact Picks.nil | (apply Picks.cons; (repeat (first | exact Pick.here | apply Pick.there)))))) rfl ?nx72
          case hc69 => exact evC_cells _
          case hr70 => exact fun h hp => slR_rd hp
          case hb71 => have := part_ev (partsZ (zxT τ zx) zx ((subs.take i).filter isDel)).1 subs[i] zx; omega
          rintro v L' ⟨⟨a14_6, c14_6, rfl⟩, rfl⟩
          refine G.q (Quiet.assign rfl) rfl ?_
          refine G.nil ?_
          refine G.blk_n ?_
          refine G.then_n ?_
          refine G.region ?_
          refine G.q (Quiet.add rfl rfl (by omega)) rfl ?_
          refine G.q (Quiet.move rfl) rfl ?_
          refine G.nil ?_
          refine G.then_n ?_
          have hst := filter_take_yes (f := isDel) hi2 (by unfold isDel; rw [decide_eq_true h53])
          refine G.trCast (τ' := (partsZ (zxT τ zx) zx ((subs.take (i + 1)).filter isDel)).1) (by (repeat (first | exact Pick.here | apply Pick.there))) (by rw [hst, parts_snoc]) ?_
          refine G.slCast (T := 35) (sz := 3) (m' := (partsZ (zxT τ zx) zx ((subs.take (i + 1)).filter isDel)).2.length) (xs' := (partsZ (zxT τ zx) zx ((subs.take (i + 1)).filter isDel)).2.flatMap evC) (by (repeat (first | exact Pick.here | apply Pick.there))) (by rw [hst, parts_snoc]; simp) (by rw [hst, parts_snoc]; simp) ?_
          exact G.roundK ((i + 1, .slice a14_6 ((partsZ (zxT τ zx) zx ((subs.take i).filter isDel)).2.length + (partZ (partsZ (zxT τ zx) zx ((subs.take i).filter isDel)).1 subs[i] zx).2.length) c14_6)) (⟨by dsimp only; omega, _, _, by rw [hst, parts_snoc, List.length_append]⟩) (by dsimp only; omega) ⟨rfl, rfl, rfl, rfl, rfl, rfl, rfl, rfl, rfl, trivial⟩ (by (repeat (first | exact Picks.nil | (apply Picks.cons; (repeat (first | exact Pick.here | apply Pick.there)))))) (by ((repeat (apply Have.cons; (repeat (first | exact Pick.here | apply Pick.there)))); apply Have.base; repeat (first | exact Suff.here | apply Suff.there)))
        · refine G.skip ?_
          refine G.blk_n ?_
          refine G.then_n ?_
          refine G.region ?_
          refine G.q (Quiet.add rfl rfl (by omega)) rfl ?_
          refine G.q (Quiet.move rfl) rfl ?_
          refine G.nil ?_
          refine G.then_n ?_
          have hst := filter_take_no (f := isDel) hi2 (by unfold isDel; rw [decide_eq_false h53])
          refine G.trCast (τ' := (partsZ (zxT τ zx) zx ((subs.take (i + 1)).filter isDel)).1) (by (repeat (first | exact Pick.here | apply Pick.there))) (by rw [hst]) ?_
          refine G.slCast (T := 35) (sz := 3) (m' := (partsZ (zxT τ zx) zx ((subs.take (i + 1)).filter isDel)).2.length) (xs' := (partsZ (zxT τ zx) zx ((subs.take (i + 1)).filter isDel)).2.flatMap evC) (by (repeat (first | exact Pick.here | apply Pick.there))) (by rw [hst]) (by rw [hst]) ?_
          exact G.roundK ((i + 1, .slice au (partsZ (zxT τ zx) zx ((subs.take i).filter isDel)).2.length cu)) (⟨by dsimp only; omega, _, _, by rw [hst]⟩) (by dsimp only; omega) ⟨rfl, rfl, rfl, rfl, rfl, rfl, rfl, rfl, rfl, trivial⟩ (by (repeat (first | exact Picks.nil | (apply Picks.cons; (repeat (first | exact Pick.here | apply Pick.there)))))) (by ((repeat (apply Have.cons; (repeat (first | exact Pick.here | apply Pick.there)))); apply Have.base; repeat (first | exact Suff.here | apply Suff.there)))
      · have hii : i = subs.length := by omega
        rw [hii, List.take_length]
        refine G.exit ?_
        refine G.then_e ?_
        refine G.then_e ?_
        refine G.blk_e ?_
        refine G.then_n ?_
        refine G.trOpen (τ := (partsZ (zxT τ zx) zx (subs.filter isDel)).1) (by (repeat (first | exact Pick.here | apply Pick.there))) fun rn rs m s hI => ?_
        refine G.draw [6] [[0, 1, 2, 3, 4, 5, 6]] mixed (by kernel_rfl) ?_
        refine Phases.go [] (by (repeat (first | exact Picks.nil | (apply Picks.cons; (repeat (first | exact Pick.here | apply Pick.there)))))) ?_
        refine D.qw [1, 2, 3, 6] rfl (by kernel_rfl) (Quiet.move rfl) ?_
        refine D.qw [2, 3, 6] rfl (by kernel_rfl) (Quiet.nilp rfl) ?_
        refine D.qw [3, 6] rfl (by kernel_rfl) (Quiet.fieldAddr rfl fo_90_1) ?_
        refine D.qw [6] rfl (by kernel_rfl) (Quiet.load rfl ag_88 (by (repeat (first | exact Pick.here | apply Pick.there))) (rfl)) ?_
        refine D.qw [5, 6] rfl (by kernel_rfl) (Quiet.fieldAddr rfl fo_50_4) ?_
        refine D.qw [6] rfl (by kernel_rfl) (Quiet.load rfl ag_3 (by (repeat (first | exact Pick.here | apply Pick.there))) (rfl)) ?_
        refine D.h rfl (by kernel_rfl) (OpSpec.mapDel (m := s) (enc := ssV) (k := x.own) (KeyLaw.int Tryd.underlying3) rfl rfl rfl Tryd.underlying88 ?he82) (by (repeat (first | exact Picks.nil | (apply Picks.cons; (repeat (first | exact Pick.here | apply Pick.there)))))) ?nx83
        case he82 => rfl
        rintro v L' rfl
        refine D.ph ?_
        refine Phases.fin ?_
        refine G.trFold (τ := (dropS (partsZ (zxT τ zx) zx (subs.filter isDel)).1 x.own)) (hI.drop x.own) (by (repeat (first | exact Picks.nil | (apply Picks.cons; (repeat (first | exact Pick.here | apply Pick.there)))))) rfl rfl rfl ?_
        refine G.blk_n ?_
        refine G.then_n ?_
        refine G.seq ?_
        refine G.region ?_
        refine G.q (Quiet.move rfl) rfl ?_
        refine G.q (Quiet.assign rfl) rfl ?_
        refine G.q (Quiet.assign rfl) rfl ?_
        refine G.nil ?_
        refine G.then_n ?_
        refine G.ret ?_
        have hc : applyZ τ zx x subs = (dropS (partsZ (zxT τ zx) zx (subs.filter isDel)).1 x.own, ((partsZ (zxT τ zx) zx (subs.filter isDel)).2, 0)) := by unfold applyZ; dsimp only; rw [if_neg h26, if_pos h42]
        refine G.trCast (τ' := (applyZ τ zx x subs).1) (by (repeat (first | exact Pick.here | apply Pick.there))) (by rw [hc]) ?_
        refine G.slCast (T := 35) (sz := 3) (m' := (applyZ τ zx x subs).2.1.length) (xs' := (applyZ τ zx x subs).2.1.flatMap evC) (by (repeat (first | exact Pick.here | apply Pick.there))) (by (rw [hc]; try rfl)) (by (rw [hc]; try rfl)) ?_
        exact G.done (l := [.tmp 4, .tmp 5]) rfl rfl ⟨_, _, rfl, by rw [hc], ⟨_, _, by (rw [hc]; try rfl)⟩, rfl⟩ (by (repeat (first | exact Picks.nil | (apply Picks.cons; (repeat (first | exact Pick.here | apply Pick.there)))))) (by (repeat (first | exact Suff.here | apply Suff.there)))
    · refine G.seq ?_
      refine G.region ?_
      refine G.q (Quiet.int rfl rfl rfl) rfl ?_
      refine G.q (Quiet.assign rfl) rfl ?_
      refine G.nil ?_
      refine G.then_n ?_
      refine G.condD rfl (fun h68 => ?_) (fun h68 => ?_)
      · refine G.seq ?_
        refine G.region ?_
        refine G.q (Quiet.fieldAddr rfl fo_50_7) rfl ?_
        refine G.q (Quiet.as (v' := .slice asb subs.length csb) (by exact esub) (Quiet.load rfl ag_48 (by (repeat (first | exact Pick.here | apply Pick.there))) (rfl))) rfl ?_
        refine G.q (Quiet.slen rfl Tryd.underlying48 rfl) rfl ?_
        refine G.q (Quiet.move rfl) rfl ?_
        refine G.nil ?_
        refine G.then_n ?_
        refine G.block ?_
        refine G.add (slR_nil 35 3) ?_
        refine G.trCast (τ' := (partsZ (zxT τ zx) zx (subs.take 0)).1) (by (repeat (first | exact Pick.here | apply Pick.there))) (by rw [List.take_zero]; rfl) ?_
        refine G.slCast (T := 35) (sz := 3) (m' := (partsZ (zxT τ zx) zx (subs.take 0)).2.length) (xs' := (partsZ (zxT τ zx) zx (subs.take 0)).2.flatMap evC) (by (repeat (first | exact Pick.here | apply Pick.there))) (by rw [List.take_zero]; rfl) (by rw [List.take_zero]; rfl) ?_
        refine G.loopK (ι := Nat × Value) (fun q E => (73, vint q.1) :: (6, q.2) :: E) (fun q => [treeR t (partsZ (zxT τ zx) zx (subs.take q.1)).1, slR 35 3 q.2 (partsZ (zxT τ zx) zx (subs.take q.1)).2.length ((partsZ (zxT τ zx) zx (subs.take q.1)).2.flatMap evC)]) (fun q => q.1 ≤ subs.length ∧ ∃ a c, q.2 = .slice a (partsZ (zxT τ zx) zx (subs.take q.1)).2.length c) (fun q => subs.length - q.1) (0, .slice none 0 0) (ts := [0, 3, 4, 5, 71, 72]) (.cons rfl (.cons rfl (.cons rfl (.cons rfl (.cons rfl (.cons rfl (.nil))))))) (⟨Nat.zero_le _, none, 0, by rw [List.take_zero]; rfl⟩) ⟨rfl, rfl, rfl, rfl, rfl, rfl, rfl, rfl, trivial⟩ (by (repeat (first | exact Picks.nil | (apply Picks.cons; (repeat (first | exact Pick.here | apply Pick.there)))))) ?_
        rintro ⟨i, u⟩ ⟨hi, au, cu, hu⟩
        dsimp only
        dsimp only at hi hu
        subst hu
        have hev := parts_ev (zxT τ zx) zx (subs.take i)
        have hfl := List.length_take_le i subs
        have hok : (partsZ (zxT τ zx) zx (subs.take i)).1.Ok (N + subs.length) := ((ho.zx zx).parts zx _ (fun y hy => (hx.each y (List.mem_of_mem_take hy)).few)).more (by rw [List.length_take]; omega)
        refine G.seq ?_
        refine G.region ?_
        refine G.q (Quiet.int rfl rfl rfl) rfl ?_
        refine G.nil ?_
        refine G.then_n ?_
        refine G.seq ?_
        refine G.condD rfl (fun h74 => ?_) (fun h74 => ?_)
        · have hi2 : i < subs.length := by omega
          refine G.rdShape (p := p) hrd (by (repeat (first | exact Pick.here | apply Pick.there))) (by omega) fun bs os e1 => ?_
          subst e1
          have hys := hx.each _ (List.getElem_mem hi2)
          refine G.skip ?_
          refine G.then_n ?_
          refine G.seq ?_
          refine G.block ?_
          refine G.seq ?_
          refine G.region ?_
          refine G.q (Quiet.indexAddr rfl rfl el_48 (by omega)) rfl ?_
          refine G.q (Quiet.loadRdA (sz := 8) (j := i * 8) (k := 8) (p := p) (vs := ptC subs[i]) rfl ag_50 (by (repeat (first | exact Pick.here | apply Pick.there))) hrd (by simp) (by omega) (by omega) (flatMap_at (f := ptC) (sz := 8) (fun _ _ => rfl) (by omega))) rfl ?_
          refine G.op (OpSpec.allocA ze_50) (by (repeat (first | exact Picks.nil | (apply Picks.cons; (repeat (first | exact Pick.here | apply Pick.there)))))) rfl ?nx94
          rintro v L' ⟨by1, rfl, rfl⟩
          refine G.op (OpSpec.storeA rfl rfl ?c96 sz_50 ?c99 ?c97 ?c98) (by (repeat (first | exact Picks.nil | (apply Picks.cons; (repeat (first | exact Pick.here | apply Pick.there)))))) rfl ?nx100
          case c96 => exact hys.all
          case c99 => rfl
          case c97 => simp [ptC]
          case c98 => exact nfz0 _ _
          rintro v L' rfl
          refine G.nil ?_
          refine G.ptCast (b := by1) (l' := ptC subs[i]) (by (repeat (first | exact Pick.here | apply Pick.there))) rfl ?_
          refine G.then_n ?_
          refine G.region ?_
          refine G.q (Quiet.move rfl) rfl ?_
          refine G.q (Quiet.move rfl) rfl ?_
          refine G.q (Quiet.loadAs (vs := ptC subs[i]) rfl ag_50 (by (repeat (first | exact Pick.here | apply Pick.there))) (by simp [ptC]) rfl) rfl ?_
          refine G.q (Quiet.fieldAddr rfl fo_52_0) rfl ?_
          refine G.q (Quiet.load rfl ag_3 (by (repeat (first | exact Pick.here | apply Pick.there))) (rfl)) rfl ?_
          refine G.op (OpSpec.call Tryd.func30 rfl rfl (vs := [_, _, _]) rfl (trpart_spec t (partsZ (zxT τ zx) zx (subs.take i)).1 subs[i] zx p hys (N + subs.length) hok (by omega))) (by (repeat (first | exact Picks.nil | (apply Picks.cons; (repeat (first | exact Pick.here | apply Pick.there)))))) rfl ?nx106
          rintro v L' ⟨a21, c21, rfl, rfl⟩
          refine G.op (OpSpec.append (n := (partsZ (zxT τ zx) zx (subs.take i)).2.length) (m := (partZ (partsZ (zxT τ zx) zx (subs.take i)).1 subs[i] zx).2.length) (ys := (partZ (partsZ (zxT τ zx) zx (subs.take i)).1 subs[i] zx).2.flatMap evC) (p := slR 35 3 (.slice a21 (partZ (partsZ (zxT τ zx) zx (subs.take i)).1 subs[i] zx).2.length c21) (partZ (partsZ (zxT τ zx) zx (subs.take i)).1 subs[i] zx).2.length ((partZ (partsZ (zxT τ zx) zx (subs.take i)).1 subs[i] zx).2.flatMap evC)) rfl rfl rfl el_23 (.inl ⟨_, Tryd.underlying23⟩) ze_35 rfl rfl ?hc108 ?hr109 ?hb110 (by decide)) (by (repeat (first | exact Picks.nil | (apply Picks.cons; (repeat (first | exact Pick.here | apply Pick.there)))))) rfl ?nx111
          case hc108 => exact evC_cells _
          case hr109 => exact fun h hp => slR_rd hp
          case hb110 => have := part_ev (partsZ (zxT τ zx) zx (subs.take i)).1 subs[i] zx; omega
          rintro v L' ⟨⟨a21_6, c21_6, rfl⟩, rfl⟩
          refine G.q (Quiet.assign rfl) rfl ?_
          refine G.nil ?_
          refine G.blk_n ?_
          refine G.then_n ?_
          refine G.region ?_
          refine G.q (Quiet.add rfl rfl (by omega)) rfl ?_
          refine G.q (Quiet.move rfl) rfl ?_
          refine G.nil ?_
          refine G.then_n ?_
          have hst := List.take_succ_eq_append_getElem hi2
          refine G.trCast (τ' := (partsZ (zxT τ zx) zx (subs.take (i + 1))).1) (by (repeat (first | exact Pick.here | apply Pick.there))) (by rw [hst, parts_snoc]) ?_
          refine G.slCast (T := 35) (sz := 3) (m' := (partsZ (zxT τ zx) zx (subs.take (i + 1))).2.length) (xs' := (partsZ (zxT τ zx) zx (subs.take (i + 1))).2.flatMap evC) (by (repeat (first | exact Pick.here | apply Pick.there))) (by rw [hst, parts_snoc]; simp) (by rw [hst, parts_snoc]; simp) ?_
          exact G.roundK ((i + 1, .slice a21_6 ((partsZ (zxT τ zx) zx (subs.take i)).2.length + (partZ (partsZ (zxT τ zx) zx (subs.take i)).1 subs[i] zx).2.length) c21_6)) (⟨by dsimp only; omega, _, _, by rw [hst, parts_snoc, List.length_append]⟩) (by dsimp only; omega) ⟨rfl, rfl, rfl, rfl, rfl, rfl, rfl, rfl, trivial⟩ (by (repeat (first | exact Picks.nil | (apply Picks.cons; (repeat (first | exact Pick.here | apply Pick.there)))))) (by ((repeat (apply Have.cons; (repeat (first | exact Pick.here | apply Pick.there)))); apply Have.base; repeat (first | exact Suff.here | apply Suff.there)))
        · have hii : i = subs.length := by omega
          rw [hii, List.take_length]
          refine G.exit ?_
          refine G.then_e ?_
          refine G.then_e ?_
          refine G.blk_e ?_
          refine G.blk_n ?_
          refine G.then_n ?_
          refine G.seq ?_
          refine G.region ?_
          refine G.q (Quiet.move rfl) rfl ?_
          refine G.q (Quiet.assign rfl) rfl ?_
          refine G.q (Quiet.assign rfl) rfl ?_
          refine G.nil ?_
          refine G.then_n ?_
          refine G.ret ?_
          have hc : applyZ τ zx x subs = ((partsZ (zxT τ zx) zx subs).1, ((partsZ (zxT τ zx) zx subs).2, 0)) := by unfold applyZ; dsimp only; rw [if_neg h26, if_neg h42, if_pos h68]
          refine G.trCast (τ' := (applyZ τ zx x subs).1) (by (repeat (first | exact Pick.here | apply Pick.there))) (by rw [hc]) ?_
          refine G.slCast (T := 35) (sz := 3) (m' := (applyZ τ zx x subs).2.1.length) (xs' := (applyZ τ zx x subs).2.1.flatMap evC) (by (repeat (first | exact Pick.here | apply Pick.there))) (by (rw [hc]; try rfl)) (by (rw [hc]; try rfl)) ?_
          exact G.done (l := [.tmp 4, .tmp 5]) rfl rfl ⟨_, _, rfl, by rw [hc], ⟨_, _, by (rw [hc]; try rfl)⟩, rfl⟩ (by (repeat (first | exact Picks.nil | (apply Picks.cons; (repeat (first | exact Pick.here | apply Pick.there)))))) (by (repeat (first | exact Suff.here | apply Suff.there)))
      · refine G.seq ?_
        refine G.region ?_
        refine G.q (Quiet.int rfl rfl rfl) rfl ?_
        refine G.q (Quiet.assign rfl) rfl ?_
        refine G.nil ?_
        refine G.then_n ?_
        refine G.condD rfl (fun h85 => ?_) (fun h85 => ?_)
        · refine G.seq ?_
          refine G.draw [] [[0, 1, 2, 3]] mixed (by kernel_rfl) ?_
          refine Phases.go [] (by (repeat (first | exact Picks.nil | (apply Picks.cons; (repeat (first | exact Pick.here | apply Pick.there)))))) ?_
          refine D.qw [1, 3] rfl (by kernel_rfl) (Quiet.fieldAddr rfl fo_50_6) ?_
          refine D.qw [3] rfl (by kernel_rfl) (Quiet.load rfl ag_27 (by (repeat (first | exact Pick.here | apply Pick.there))) (rfl)) ?_
          refine D.qw [3] rfl (by kernel_rfl) (Quiet.assign rfl) ?_
          refine D.qw [] rfl (by kernel_rfl) (Quiet.assign rfl) ?_
          refine D.ph ?_
          refine Phases.fin ?_
          refine G.then_n ?_
          refine G.ret ?_
          refine G.blk_r ?_
          refine G.then_r ?_
          refine G.add (slR_nil 35 3) ?_
          have hc : applyZ τ zx x subs = ((zxT τ zx), ([], x.err)) := by unfold applyZ; dsimp only; rw [if_neg h26, if_neg h42, if_neg h68, if_pos h85]
          refine G.trCast (τ' := (applyZ τ zx x subs).1) (by (repeat (first | exact Pick.here | apply Pick.there))) (by rw [hc]) ?_
          refine G.slCast (T := 35) (sz := 3) (m' := (applyZ τ zx x subs).2.1.length) (xs' := (applyZ τ zx x subs).2.1.flatMap evC) (by (repeat (first | exact Pick.here | apply Pick.there))) (by (rw [hc]; try rfl)) (by (rw [hc]; try rfl)) ?_
          exact G.done (l := [.tmp 4, .tmp 5]) rfl rfl ⟨_, _, rfl, by rw [hc], ⟨_, _, by (rw [hc]; try rfl)⟩, rfl⟩ (by (repeat (first | exact Picks.nil | (apply Picks.cons; (repeat (first | exact Pick.here | apply Pick.there)))))) (by (repeat (first | exact Suff.here | apply Suff.there)))
        · refine G.region ?_
          refine G.q (Quiet.move rfl) rfl ?_
          refine G.q (Quiet.loadAs (vs := ptC x) rfl ag_50 (by (repeat (first | exact Pick.here | apply Pick.there))) (by simp [ptC]) rfl) rfl ?_
          refine G.q (Quiet.fieldAddr rfl fo_52_0) rfl ?_
          refine G.q (Quiet.load rfl ag_3 (by (repeat (first | exact Pick.here | apply Pick.there))) (rfl)) rfl ?_
          refine G.op (OpSpec.call Tryd.func30 rfl rfl (vs := [_, _, _]) rfl (trpart_spec t (zxT τ zx) x zx p hx.own N (ho.zx zx) (by omega))) (by (repeat (first | exact Picks.nil | (apply Picks.cons; (repeat (first | exact Pick.here | apply Pick.there)))))) rfl ?nx124
          rintro v L' ⟨a5, c5, rfl, rfl⟩
          refine G.q (Quiet.assign rfl) rfl ?_
          refine G.nil ?_
          refine G.blk_n ?_
          refine G.then_n ?_
          refine G.seq ?_
          refine G.region ?_
          refine G.q (Quiet.move rfl) rfl ?_
          refine G.q (Quiet.assign rfl) rfl ?_
          refine G.q (Quiet.assign rfl) rfl ?_
          refine G.nil ?_
          refine G.then_n ?_
          refine G.ret ?_
          have hc : applyZ τ zx x subs = ((partZ (zxT τ zx) x zx).1, ((partZ (zxT τ zx) x zx).2, 0)) := by unfold applyZ; dsimp only; rw [if_neg h26, if_neg h42, if_neg h68, if_neg h85]
          refine G.trCast (τ' := (applyZ τ zx x subs).1) (by (repeat (first | exact Pick.here | apply Pick.there))) (by rw [hc]) ?_
          refine G.slCast (T := 35) (sz := 3) (m' := (applyZ τ zx x subs).2.1.length) (xs' := (applyZ τ zx x subs).2.1.flatMap evC) (by (repeat (first | exact Pick.here | apply Pick.there))) (by (rw [hc]; try rfl)) (by (rw [hc]; try rfl)) ?_
          exact G.done (l := [.tmp 4, .tmp 5]) rfl rfl ⟨_, _, rfl, by rw [hc], ⟨_, _, by (rw [hc]; try rfl)⟩, rfl⟩ (by (repeat (first | exact Picks.nil | (apply Picks.cons; (repeat (first | exact Pick.here | apply Pick.there)))))) (by (repeat (first | exact Suff.here | apply Suff.there)))

end Go.Proofs.YtnnbelmpbmfdnaaDoor
