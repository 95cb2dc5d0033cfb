/- Own work, by program: records, marks, areas: walked. -/
import Derived.Test.YtepncdidkjjllaaWal0
import Derived.Test.YtepncdidkjjllaaDisk
namespace Go.Proofs.Ytepncdidkjjllaa
open Go
set_option maxRecDepth 100000 in
theorem record_spec (s : Bs) (hs : s.length ≤ 2147483648) : Fn Try.prog 84 #[vstr s] [] fun v L => (∃ a c, v = .slice a (recZ s).length c) ∧ L = [bytR v (recZ s)] := by
  refine Fn.intro (vs := [vstr s]) Try.func84 rfl rfl ?_
  intro F W
  have hsum := sumZ_range (headZ s)
  have hh : (headZ s).length = s.length + 2 := by simp [headZ, beB_len]; omega
  refine G.seq ?_
  refine G.region ?_
  refine G.q (Quiet.assign rfl) rfl ?_
  refine G.nil ?_
  refine G.then_n ?_
  refine G.seq ?_
  refine G.region ?_
  refine G.q (Quiet.move rfl) rfl ?_
  refine G.q (Quiet.strlen rfl Try.underlying9 rfl) rfl ?_
  refine G.q (Quiet.add rfl rfl (by omega)) rfl ?_
  refine G.op (OpSpec.make rfl rfl el_31 ze_5 rfl ⟨by simp, by simp; rfl⟩ ?hc5) (by (repeat (first | exact Picks.nil | (apply Picks.cons; (repeat (first | exact Pick.here | apply Pick.there)))))) rfl ?nx6
  case hc5 => omega
  rintro v L' ⟨b, rfl, rfl⟩; rw [show ((s.length : Int) + 6).toNat = s.length + 6 by omega, show (2 : Int).toNat = 2 from rfl]
  refine G.q (Quiet.assign rfl) rfl ?_
  refine G.nil ?_
  refine G.then_n ?_
  refine G.seq ?_
  refine G.region ?_
  refine G.q (Quiet.move rfl) rfl ?_
  refine G.q (Quiet.move rfl) rfl ?_
  refine G.q (Quiet.strlen rfl Try.underlying9 rfl) rfl ?_
  refine G.op (OpSpec.call Try.func117 rfl rfl (vs := [_, _]) rfl (big_spec b 0 2 (s.length + 6) s.length _ _ (by decide) ?hl10)) (by (repeat (first | exact Picks.nil | (apply Picks.cons; (repeat (first | exact Pick.here | apply Pick.there)))))) rfl ?nx11
  case hl10 => simp
  rintro v L' ⟨rfl, rfl⟩
  refine G.nil ?_
  refine G.slMake (n := 2) (c := s.length + 6) (xs := bysL (beB s.length 2)) (by (repeat (first | exact Pick.here | apply Pick.there))) (by omega) (by simp [spl, bysL_len, beB_len]; omega) (by simp [spl, bysL_len, beB_len]) ?_
  refine G.then_n ?_
  refine G.seq ?_
  refine G.region ?_
  refine G.q (Quiet.move rfl) rfl ?_
  refine G.q (Quiet.move rfl) rfl ?_
  refine G.op (OpSpec.appendS rfl rfl rfl el_31 Try.underlying9 ze_5 rfl rfl ?hb14 (by decide)) (by (repeat (first | exact Picks.nil | (apply Picks.cons; (repeat (first | exact Pick.here | apply Pick.there)))))) rfl ?nx15
  case hb14 => omega
  rintro v L' ⟨⟨a1, c1, rfl⟩, rfl⟩; rw [show 2 + s.length = (headZ s).length by omega, show bysL (beB (s.length : Int) 2) ++ s.map vbyte = bysL (headZ s) from (bysL_append _ _).symm]
  refine G.q (Quiet.assign rfl) rfl ?_
  refine G.nil ?_
  refine G.then_n ?_
  refine G.seq ?_
  refine G.region ?_
  refine G.op (OpSpec.make rfl rfl el_31 ze_5 rfl ⟨by simp, by simp; rfl⟩ ?hc17) (by (repeat (first | exact Picks.nil | (apply Picks.cons; (repeat (first | exact Pick.here | apply Pick.there)))))) rfl ?nx18
  case hc17 => omega
  rintro v L' ⟨b2, rfl, rfl⟩; rw [show (4 : Int).toNat = 4 from rfl]
  refine G.q (Quiet.assign rfl) rfl ?_
  refine G.nil ?_
  refine G.then_n ?_
  refine G.seq ?_
  refine G.region ?_
  refine G.q (Quiet.move rfl) rfl ?_
  refine G.q (Quiet.move rfl) rfl ?_
  refine G.q (Quiet.bytesBy (cs := headZ s) (n := (headZ s).length) (p := bytR (.slice a1 (headZ s).length c1) (headZ s)) rfl Try.underlying31 Try.underlying5 Try.underlying9 (fun h hp => slR_rd hp) (by (repeat (first | exact Pick.here | apply Pick.there)))) rfl ?_
  refine G.op (OpSpec.call Try.func122 rfl rfl (vs := [_]) rfl (sum_spec (headZ s) (by omega))) (by (repeat (first | exact Picks.nil | (apply Picks.cons; (repeat (first | exact Pick.here | apply Pick.there)))))) rfl ?nx21
  rintro v L' ⟨rfl, rfl⟩
  refine G.q (Quiet.as (v' := vint (sumZ (headZ s))) (by rw [i64w (by omega)]) (Quiet.conv rfl Try.underlying167 Try.underlying3)) rfl ?_
  refine G.op (OpSpec.call Try.func117 rfl rfl (vs := [_, _]) rfl (big_spec b2 0 4 4 (sumZ (headZ s)) _ _ (by decide) ?hl24)) (by (repeat (first | exact Picks.nil | (apply Picks.cons; (repeat (first | exact Pick.here | apply Pick.there)))))) rfl ?nx25
  case hl24 => simp
  rintro v L' ⟨rfl, rfl⟩
  refine G.nil ?_
  refine G.ptCast (l' := bysL (beB (sumZ (headZ s)) 4)) (by (repeat (first | exact Pick.here | apply Pick.there))) (spl_all (by simp [bysL_len, beB_len])) ?_
  refine G.then_n ?_
  refine G.seq ?_
  refine G.region ?_
  refine G.q (Quiet.move rfl) rfl ?_
  refine G.q (Quiet.move rfl) rfl ?_
  refine G.op (OpSpec.append1 (m := 4) rfl rfl rfl el_31 ze_5 rfl rfl ?c127 ?c228 (Nat.le_refl _) ?c329 (by decide)) (by (repeat (first | exact Picks.nil | (apply Picks.cons; (repeat (first | exact Pick.here | apply Pick.there)))))) rfl ?nx30
  case c127 => exact bysL_cell _
  case c228 => simp [bysL_len, beB_len]
  case c329 => omega
  rintro v L' ⟨⟨a2, c2, rfl⟩, rfl⟩; rw [show (headZ s).length + 4 = (recZ s).length by rw [recZ_len]; omega, show bysL (headZ s) ++ bysL (beB (sumZ (headZ s)) 4) = bysL (recZ s) from (bysL_append _ _).symm]
  refine G.q (Quiet.assign rfl) rfl ?_
  refine G.nil ?_
  refine G.then_n ?_
  refine G.ret ?_
  exact G.done (l := [.tmp 2]) rfl rfl ⟨⟨_, _, rfl⟩, rfl⟩ (by (repeat (first | exact Picks.nil | (apply Picks.cons; (repeat (first | exact Pick.here | apply Pick.there)))))) (by (repeat (first | exact Suff.here | apply Suff.there)))

set_option maxRecDepth 100000 in
theorem laid_spec (v : Value) (l : List Bs) (p : HP) (hr : ∀ h : Hp, p h → rdS 1 h v l.length (strs l)) (hl : (laidZ l).length ≤ 2147483648) : Fn Try.prog 118 #[v] [p] fun u L => (∃ a c, u = .slice a (laidZ l).length c) ∧ L = [bytR u (laidZ l), p] := by
  refine Fn.intro (vs := [v]) Try.func118 rfl rfl ?_
  intro F W
  have hll : l.length ≤ (laidZ l).length := laidZ_many l
  refine G.rdAny (p := p) hr (by (repeat (first | exact Pick.here | apply Pick.there))) fun aa ca e _ => ?_
  subst e
  refine G.seq ?_
  refine G.region ?_
  refine G.q (Quiet.assign rfl) rfl ?_
  refine G.nil ?_
  refine G.then_n ?_
  refine G.seq ?_
  refine G.add (slR_nil 5 1) ?_
  refine G.region ?_
  refine G.q (Quiet.assign rfl) rfl ?_
  refine G.nil ?_
  refine G.then_n ?_
  refine G.seq ?_
  refine G.seq ?_
  refine G.region ?_
  refine G.q (Quiet.move rfl) rfl ?_
  refine G.q (Quiet.slen rfl Try.underlying22 rfl) rfl ?_
  refine G.q (Quiet.move rfl) rfl ?_
  refine G.nil ?_
  refine G.then_n ?_
  refine G.block ?_
  refine G.loopK (ι := Nat × Value) (fun q E => (8, vint q.1) :: (3, q.2) :: E) (fun q => [bytR q.2 (laidZ (l.take q.1))]) (fun q => q.1 ≤ l.length ∧ ∃ a c, q.2 = .slice a (laidZ (l.take q.1)).length c) (fun q => l.length - q.1) (0, .slice none 0 0) (ts := [2, 6, 7]) (.cons rfl (.cons rfl (.cons rfl (.nil)))) (⟨Nat.zero_le _, _, _, rfl⟩) ⟨rfl, rfl, rfl, rfl, rfl, trivial⟩ (by (repeat (first | exact Picks.nil | (apply Picks.cons; (repeat (first | exact Pick.here | apply Pick.there)))))) ?_
  rintro ⟨i, u⟩ ⟨hi, au, cu, hu⟩
  dsimp only
  dsimp only at hi hu
  subst hu
  refine G.seq ?_
  refine G.region ?_
  refine G.q (Quiet.int rfl rfl rfl) rfl ?_
  refine G.nil ?_
  refine G.then_n ?_
  refine G.seq ?_
  refine G.condD rfl (fun h9 => ?_) (fun h9 => ?_)
  · have hi2 : i < l.length := by omega
    refine G.rdShape (p := p) hr (by (repeat (first | exact Pick.here | apply Pick.there))) (by omega) fun ba oa e => ?_
    subst e
    have hm := recZ_mem (List.getElem_mem hi2)
    have ht := laidZ_take_len l (i + 1)
    rw [laidZ_succ hi2, List.length_append] at ht
    have hrl := recZ_len l[i]
    refine G.skip ?_
    refine G.then_n ?_
    refine G.seq ?_
    refine G.block ?_
    refine G.seq ?_
    refine G.region ?_
    refine G.q (Quiet.indexAddr rfl rfl el_22 (by omega)) rfl ?_
    refine G.q (Quiet.loadRd (sz := 1) (j := i) (p := p) (v := vstr l[i]) rfl ag_9 (by (repeat (first | exact Pick.here | apply Pick.there))) hr (by simp) (by simp [hi2])) rfl ?_
    refine G.q (Quiet.assign rfl) rfl ?_
    refine G.nil ?_
    refine G.then_n ?_
    refine G.region ?_
    refine G.q (Quiet.move rfl) rfl ?_
    refine G.q (Quiet.move rfl) rfl ?_
    refine G.op (OpSpec.call Try.func84 rfl rfl (vs := [_]) rfl (record_spec l[i] (by omega))) (by (repeat (first | exact Picks.nil | (apply Picks.cons; (repeat (first | exact Pick.here | apply Pick.there)))))) rfl ?nx10
    rintro v L' ⟨⟨ar, cr, rfl⟩, rfl⟩
    refine G.op (OpSpec.append (n := (laidZ (l.take i)).length) (m := (recZ l[i]).length) (ys := bysL (recZ l[i])) (p := bytR (.slice ar (recZ l[i]).length cr) (recZ l[i])) rfl rfl rfl el_31 (.inl ⟨_, Try.underlying31⟩) ze_5 rfl rfl ?hc12 ?hr13 ?hb14 (by decide)) (by (repeat (first | exact Picks.nil | (apply Picks.cons; (repeat (first | exact Pick.here | apply Pick.there)))))) rfl ?nx15
    case hc12 => exact bysL_cell _
    case hr13 => exact fun h hp => slR_rd hp
    case hb14 => omega
    rintro v L' ⟨⟨a5, c5, rfl⟩, rfl⟩
    refine G.q (Quiet.assign rfl) rfl ?_
    refine G.nil ?_
    refine G.blk_n ?_
    refine G.then_n ?_
    refine G.region ?_
    refine G.q (Quiet.add rfl rfl (by omega)) rfl ?_
    refine G.q (Quiet.move rfl) rfl ?_
    refine G.nil ?_
    refine G.then_n ?_
    rw [show (laidZ (l.take i)).length + (recZ l[i]).length = (laidZ (l.take (i + 1))).length by rw [laidZ_succ hi2, List.length_append], show bysL (laidZ (l.take i)) ++ bysL (recZ l[i]) = bysL (laidZ (l.take (i + 1))) by rw [laidZ_succ hi2, bysL_append]]
    exact G.roundK ((i + 1, .slice a5 (laidZ (l.take (i + 1))).length c5)) (⟨by dsimp only; omega, _, _, rfl⟩) (by dsimp only; omega) ⟨rfl, rfl, rfl, rfl, rfl, trivial⟩ (by (repeat (first | exact Picks.nil | (apply Picks.cons; (repeat (first | exact Pick.here | apply Pick.there)))))) (by ((repeat (apply Have.cons; (repeat (first | exact Pick.here | apply Pick.there)))); apply Have.base; repeat (first | exact Suff.here | apply Suff.there)))
  · have hi3 : i = l.length := by omega
    subst hi3
    rw [List.take_length]
    refine G.exit ?_
    refine G.then_e ?_
    refine G.then_e ?_
    refine G.blk_e ?_
    refine G.then_n ?_
    refine G.seq ?_
    refine G.region ?_
    refine G.q (Quiet.move rfl) rfl ?_
    refine G.q (Quiet.assign rfl) rfl ?_
    refine G.nil ?_
    refine G.then_n ?_
    refine G.ret ?_
    exact G.done (l := [.tmp 2]) rfl rfl ⟨⟨_, _, rfl⟩, rfl⟩ (by (repeat (first | exact Picks.nil | (apply Picks.cons; (repeat (first | exact Pick.here | apply Pick.there)))))) (by (repeat (first | exact Suff.here | apply Suff.there)))

set_option maxRecDepth 100000 in
theorem sector_spec (m : Mk) : Fn Try.prog 74 #[.agg (mkC m).toArray] [] fun v L => v = vstr m.sec ∧ L = [] := by
  refine Fn.intro (vs := [.agg (mkC m).toArray]) Try.func74 rfl rfl ?_
  intro F W
  obtain ⟨p0, p1, p2, p3, p4, p5, p6⟩ := m.pre_len
  refine G.seq ?_
  refine G.region ?_
  refine G.op (OpSpec.box rfl) (by (repeat (first | exact Picks.nil | (apply Picks.cons; (repeat (first | exact Pick.here | apply Pick.there)))))) rfl ?nx1
  rintro v L' ⟨bm, rfl, rfl⟩
  refine G.q (Quiet.assign rfl) rfl ?_
  refine G.nil ?_
  refine G.then_n ?_
  refine G.seq ?_
  refine G.region ?_
  refine G.op (OpSpec.make rfl rfl el_31 ze_5 rfl ⟨by simp, by simp; rfl⟩ ?hc4) (by (repeat (first | exact Picks.nil | (apply Picks.cons; (repeat (first | exact Pick.here | apply Pick.there)))))) rfl ?nx5
  case hc4 => omega
  rintro v L' ⟨b, rfl, rfl⟩; rw [show (64 : Int).toNat = 64 from rfl]
  refine G.q (Quiet.assign rfl) rfl ?_
  refine G.nil ?_
  refine G.then_n ?_
  refine G.seq ?_
  refine G.region ?_
  refine G.q (Quiet.move rfl) rfl ?_
  refine G.op (OpSpec.copyS (s := [87, 77]) rfl rfl rfl el_31 ?h17 ?h28) (by (repeat (first | exact Picks.nil | (apply Picks.cons; (repeat (first | exact Pick.here | apply Pick.there)))))) rfl ?nx9
  case h17 => simp
  case h28 => exact nfz0 _ _
  rintro v L' ⟨rfl, rfl⟩
  refine G.nil ?_
  refine G.ptCast (l' := m.at 0 62) (by (repeat (first | exact Pick.here | apply Pick.there))) rfl ?_
  refine G.then_n ?_
  refine G.seq ?_
  refine G.draw [4] [[0, 1, 2, 3, 4]] mixed (by kernel_rfl) ?_
  refine Phases.go [] (by (repeat (first | exact Picks.nil | (apply Picks.cons; (repeat (first | exact Pick.here | apply Pick.there)))))) ?_
  refine D.qw [1, 4] rfl (by kernel_rfl) (Quiet.move rfl) ?_
  refine D.qw [4] rfl (by kernel_rfl) (Quiet.to (v' := .slice (some ⟨b, 2, none⟩) 4 62) (Quiet.slSlice (i := 2) (j := 6) rfl el_31 (by exact rfl) (by exact rfl) (by decide)) rfl) ?_
  refine D.qw [3, 4] rfl (by kernel_rfl) (Quiet.fieldAddr rfl fo_115_0) ?_
  refine D.qw [4] rfl (by kernel_rfl) (Quiet.load rfl ag_3 (by (repeat (first | exact Pick.here | apply Pick.there))) (rfl)) ?_
  refine D.h rfl (by kernel_rfl) (OpSpec.call Try.func117 rfl rfl (vs := [_, _]) rfl (big_spec b 2 4 62 m.count (m.at 0 62) _ (by decide) (by simp [Mk.at, bysL_len, p0]))) (by (repeat (first | exact Picks.nil | (apply Picks.cons; (repeat (first | exact Pick.here | apply Pick.there)))))) ?nx14
  rintro v L' ⟨rfl, rfl⟩
  refine D.ph ?_
  refine Phases.fin ?_
  refine G.ptCast (l' := m.at 1 58) (by (repeat (first | exact Pick.here | apply Pick.there))) (by have := m.at_step (j := 0) (k := 62) (off := 2) (q := beB m.count 4) p0.symm rfl (by simp [beB_len]); rw [beB_len] at this; exact this) ?_
  refine G.then_n ?_
  refine G.seq ?_
  refine G.draw [4] [[0, 1, 2, 3, 4]] mixed (by kernel_rfl) ?_
  refine Phases.go [] (by (repeat (first | exact Picks.nil | (apply Picks.cons; (repeat (first | exact Pick.here | apply Pick.there)))))) ?_
  refine D.qw [1, 4] rfl (by kernel_rfl) (Quiet.move rfl) ?_
  refine D.qw [4] rfl (by kernel_rfl) (Quiet.to (v' := .slice (some ⟨b, 6, none⟩) 1 58) (Quiet.slSlice (i := 6) (j := 7) rfl el_31 (by exact rfl) (by exact rfl) (by decide)) rfl) ?_
  refine D.qw [3, 4] rfl (by kernel_rfl) (Quiet.fieldAddr rfl fo_115_1) ?_
  refine D.qw [4] rfl (by kernel_rfl) (Quiet.load rfl ag_3 (by (repeat (first | exact Pick.here | apply Pick.there))) (rfl)) ?_
  refine D.h rfl (by kernel_rfl) (OpSpec.call Try.func117 rfl rfl (vs := [_, _]) rfl (big_spec b 6 1 58 m.area (m.at 1 58) _ (by decide) (by simp [Mk.at, bysL_len, p1]))) (by (repeat (first | exact Picks.nil | (apply Picks.cons; (repeat (first | exact Pick.here | apply Pick.there)))))) ?nx19
  rintro v L' ⟨rfl, rfl⟩
  refine D.ph ?_
  refine Phases.fin ?_
  refine G.ptCast (l' := m.at 2 57) (by (repeat (first | exact Pick.here | apply Pick.there))) (by have := m.at_step (j := 1) (k := 58) (off := 6) (q := beB m.area 1) p1.symm rfl (by simp [beB_len]); rw [beB_len] at this; exact this) ?_
  refine G.then_n ?_
  refine G.seq ?_
  refine G.draw [4] [[0, 1, 2, 3, 4]] mixed (by kernel_rfl) ?_
  refine Phases.go [] (by (repeat (first | exact Picks.nil | (apply Picks.cons; (repeat (first | exact Pick.here | apply Pick.there)))))) ?_
  refine D.qw [1, 4] rfl (by kernel_rfl) (Quiet.move rfl) ?_
  refine D.qw [4] rfl (by kernel_rfl) (Quiet.to (v' := .slice (some ⟨b, 7, none⟩) 4 57) (Quiet.slSlice (i := 7) (j := 11) rfl el_31 (by exact rfl) (by exact rfl) (by decide)) rfl) ?_
  refine D.qw [3, 4] rfl (by kernel_rfl) (Quiet.fieldAddr rfl fo_115_2) ?_
  refine D.qw [4] rfl (by kernel_rfl) (Quiet.load rfl ag_3 (by (repeat (first | exact Pick.here | apply Pick.there))) (rfl)) ?_
  refine D.h rfl (by kernel_rfl) (OpSpec.call Try.func117 rfl rfl (vs := [_, _]) rfl (big_spec b 7 4 57 m.len (m.at 2 57) _ (by decide) (by simp [Mk.at, bysL_len, p2]))) (by (repeat (first | exact Picks.nil | (apply Picks.cons; (repeat (first | exact Pick.here | apply Pick.there)))))) ?nx24
  rintro v L' ⟨rfl, rfl⟩
  refine D.ph ?_
  refine Phases.fin ?_
  refine G.ptCast (l' := m.at 3 53) (by (repeat (first | exact Pick.here | apply Pick.there))) (by have := m.at_step (j := 2) (k := 57) (off := 7) (q := beB m.len 4) p2.symm rfl (by simp [beB_len]); rw [beB_len] at this; exact this) ?_
  refine G.then_n ?_
  refine G.seq ?_
  refine G.draw [4] [[0, 1, 2, 3, 4]] mixed (by kernel_rfl) ?_
  refine Phases.go [] (by (repeat (first | exact Picks.nil | (apply Picks.cons; (repeat (first | exact Pick.here | apply Pick.there)))))) ?_
  refine D.qw [1, 4] rfl (by kernel_rfl) (Quiet.move rfl) ?_
  refine D.qw [4] rfl (by kernel_rfl) (Quiet.to (v' := .slice (some ⟨b, 11, none⟩) 4 53) (Quiet.slSlice (i := 11) (j := 15) rfl el_31 (by exact rfl) (by exact rfl) (by decide)) rfl) ?_
  refine D.qw [3, 4] rfl (by kernel_rfl) (Quiet.fieldAddr rfl fo_115_3) ?_
  refine D.qw [4] rfl (by kernel_rfl) (Quiet.load rfl ag_3 (by (repeat (first | exact Pick.here | apply Pick.there))) (rfl)) ?_
  refine D.h rfl (by kernel_rfl) (OpSpec.call Try.func117 rfl rfl (vs := [_, _]) rfl (big_spec b 11 4 53 m.num (m.at 3 53) _ (by decide) (by simp [Mk.at, bysL_len, p3]))) (by (repeat (first | exact Picks.nil | (apply Picks.cons; (repeat (first | exact Pick.here | apply Pick.there)))))) ?nx29
  rintro v L' ⟨rfl, rfl⟩
  refine D.ph ?_
  refine Phases.fin ?_
  refine G.ptCast (l' := m.at 4 49) (by (repeat (first | exact Pick.here | apply Pick.there))) (by have := m.at_step (j := 3) (k := 53) (off := 11) (q := beB m.num 4) p3.symm rfl (by simp [beB_len]); rw [beB_len] at this; exact this) ?_
  refine G.then_n ?_
  refine G.seq ?_
  refine G.draw [4] [[0, 1, 2, 3, 4]] mixed (by kernel_rfl) ?_
  refine Phases.go [] (by (repeat (first | exact Picks.nil | (apply Picks.cons; (repeat (first | exact Pick.here | apply Pick.there)))))) ?_
  refine D.qw [1, 4] rfl (by kernel_rfl) (Quiet.move rfl) ?_
  refine D.qw [4] rfl (by kernel_rfl) (Quiet.to (v' := .slice (some ⟨b, 15, none⟩) 8 49) (Quiet.slSlice (i := 15) (j := 23) rfl el_31 (by exact rfl) (by exact rfl) (by decide)) rfl) ?_
  refine D.qw [3, 4] rfl (by kernel_rfl) (Quiet.fieldAddr rfl fo_115_4) ?_
  refine D.qw [4] rfl (by kernel_rfl) (Quiet.load rfl ag_3 (by (repeat (first | exact Pick.here | apply Pick.there))) (rfl)) ?_
  refine D.h rfl (by kernel_rfl) (OpSpec.call Try.func117 rfl rfl (vs := [_, _]) rfl (big_spec b 15 8 49 m.a (m.at 4 49) _ (by decide) (by simp [Mk.at, bysL_len, p4]))) (by (repeat (first | exact Picks.nil | (apply Picks.cons; (repeat (first | exact Pick.here | apply Pick.there)))))) ?nx34
  rintro v L' ⟨rfl, rfl⟩
  refine D.ph ?_
  refine Phases.fin ?_
  refine G.ptCast (l' := m.at 5 41) (by (repeat (first | exact Pick.here | apply Pick.there))) (by have := m.at_step (j := 4) (k := 49) (off := 15) (q := beB m.a 8) p4.symm rfl (by simp [beB_len]); rw [beB_len] at this; exact this) ?_
  refine G.then_n ?_
  refine G.seq ?_
  refine G.draw [4] [[0, 1, 2, 3, 4]] mixed (by kernel_rfl) ?_
  refine Phases.go [] (by (repeat (first | exact Picks.nil | (apply Picks.cons; (repeat (first | exact Pick.here | apply Pick.there)))))) ?_
  refine D.qw [1, 4] rfl (by kernel_rfl) (Quiet.move rfl) ?_
  refine D.qw [4] rfl (by kernel_rfl) (Quiet.to (v' := .slice (some ⟨b, 23, none⟩) 8 41) (Quiet.slSlice (i := 23) (j := 31) rfl el_31 (by exact rfl) (by exact rfl) (by decide)) rfl) ?_
  refine D.qw [3, 4] rfl (by kernel_rfl) (Quiet.fieldAddr rfl fo_115_5) ?_
  refine D.qw [4] rfl (by kernel_rfl) (Quiet.load rfl ag_3 (by (repeat (first | exact Pick.here | apply Pick.there))) (rfl)) ?_
  refine D.h rfl (by kernel_rfl) (OpSpec.call Try.func117 rfl rfl (vs := [_, _]) rfl (big_spec b 23 8 41 m.b (m.at 5 41) _ (by decide) (by simp [Mk.at, bysL_len, p5]))) (by (repeat (first | exact Picks.nil | (apply Picks.cons; (repeat (first | exact Pick.here | apply Pick.there)))))) ?nx39
  rintro v L' ⟨rfl, rfl⟩
  refine D.ph ?_
  refine Phases.fin ?_
  refine G.ptCast (l' := m.at 6 33) (by (repeat (first | exact Pick.here | apply Pick.there))) (by have := m.at_step (j := 5) (k := 41) (off := 23) (q := beB m.b 8) p5.symm rfl (by simp [beB_len]); rw [beB_len] at this; exact this) ?_
  refine G.then_n ?_
  refine G.seq ?_
  refine G.draw [4] [[0, 1, 2, 3, 4]] mixed (by kernel_rfl) ?_
  refine Phases.go [] (by (repeat (first | exact Picks.nil | (apply Picks.cons; (repeat (first | exact Pick.here | apply Pick.there)))))) ?_
  refine D.qw [1, 4] rfl (by kernel_rfl) (Quiet.move rfl) ?_
  refine D.qw [4] rfl (by kernel_rfl) (Quiet.to (v' := .slice (some ⟨b, 60, none⟩) 4 4) (Quiet.slSlice (i := 60) (j := 64) rfl el_31 (by exact rfl) (by exact rfl) (by decide)) rfl) ?_
  refine D.qw [3, 4] rfl (by kernel_rfl) (Quiet.fieldAddr rfl fo_115_0) ?_
  refine D.qw [4] rfl (by kernel_rfl) (Quiet.load rfl ag_3 (by (repeat (first | exact Pick.here | apply Pick.there))) (rfl)) ?_
  refine D.h rfl (by kernel_rfl) (OpSpec.call Try.func117 rfl rfl (vs := [_, _]) rfl (big_spec b 60 4 4 m.count (m.at 6 33) _ (by decide) (by simp [Mk.at, bysL_len, p6]))) (by (repeat (first | exact Picks.nil | (apply Picks.cons; (repeat (first | exact Pick.here | apply Pick.there)))))) ?nx44
  rintro v L' ⟨rfl, rfl⟩
  refine D.ph ?_
  refine Phases.fin ?_
  refine G.ptCast (l' := bysL m.sec) (by (repeat (first | exact Pick.here | apply Pick.there))) m.at_end ?_
  refine G.then_n ?_
  refine G.seq ?_
  refine G.region ?_
  refine G.q (Quiet.move rfl) rfl ?_
  refine G.q (Quiet.bytesPt (cs := m.sec) rfl Try.underlying31 Try.underlying5 Try.underlying9 (by (repeat (first | exact Pick.here | apply Pick.there))) (by rw [List.drop_zero]; exact List.take_of_length_le (by simp [bysL_len, m.sec_len])) (by simp [bysL_len, m.sec_len]) (by decide)) rfl ?_
  refine G.q (Quiet.assign rfl) rfl ?_
  refine G.nil ?_
  refine G.then_n ?_
  refine G.ret ?_
  exact G.done (l := [.tmp 2]) rfl rfl ⟨rfl, rfl⟩ (by (repeat (first | exact Picks.nil | (apply Picks.cons; (repeat (first | exact Pick.here | apply Pick.there)))))) (by (repeat (first | exact Suff.here | apply Suff.there)))

set_option maxRecDepth 100000 in
theorem half_spec (d : Nat) (δ : Dk) (hn : 2 ≤ δ.now.length ∧ δ.now.length ≤ 32768) : Fn Try.prog 80 #[vptr d] [dkR d δ] fun v L => v = vint (halfZ δ) ∧ L = [dkR d δ] := by
  refine Fn.intro (vs := [vptr d]) Try.func80 rfl rfl ?_
  intro F W
  refine G.seq ?_
  refine G.region ?_
  refine G.q (Quiet.assign rfl) rfl ?_
  refine G.nil ?_
  refine G.then_n ?_
  refine G.seq ?_
  refine G.region ?_
  refine G.q (Quiet.move rfl) rfl ?_
  refine G.op (OpSpec.call Try.func108 rfl rfl (vs := [_]) rfl (size_spec d δ)) (by (repeat (first | exact Picks.nil | (apply Picks.cons; (repeat (first | exact Pick.here | apply Pick.there)))))) rfl ?nx3
  rintro v L' ⟨rfl, rfl⟩
  refine G.q (Quiet.sub rfl rfl (by omega)) rfl ?_
  refine G.q (Quiet.quoE rfl rfl (by omega) (by omega)) rfl ?_
  refine G.q (Quiet.assign rfl) rfl ?_
  refine G.nil ?_
  refine G.then_n ?_
  refine G.ret ?_
  exact G.done (l := [.tmp 2]) rfl rfl ⟨rfl, rfl⟩ (by (repeat (first | exact Picks.nil | (apply Picks.cons; (repeat (first | exact Pick.here | apply Pick.there)))))) (by (repeat (first | exact Suff.here | apply Suff.there)))

end Go.Proofs.Ytepncdidkjjllaa
