/- Own work, by program: Renew, Format: walked. -/
import Derived.Test.YtepncdidkjjllaaWalMore
namespace Go.Proofs.Ytepncdidkjjllaa
open Go
set_option maxRecDepth 100000 in
theorem long_spec (s : Bs) : Fn Try.prog 120 #[vstr s] [] fun v L => v = .bool (decide (s.length > 4000)) ∧ L = [] := by
  refine Fn.intro (vs := [vstr s]) Try.func120 rfl rfl ?_
  intro F W
  refine G.seq ?_
  refine G.region ?_
  refine G.q (Quiet.assign rfl) rfl ?_
  refine G.nil ?_
  refine G.then_n ?_
  refine G.seq ?_
  refine G.region ?_
  refine G.q (Quiet.move rfl) rfl ?_
  refine G.q (Quiet.strlen rfl Try.underlying9 rfl) rfl ?_
  refine G.q (Quiet.int rfl rfl rfl) rfl ?_
  refine G.q (Quiet.assign rfl) rfl ?_
  refine G.nil ?_
  refine G.then_n ?_
  refine G.ret ?_
  exact G.done (l := [.tmp 2]) rfl rfl ⟨congrArg Value.bool (decide_eq_decide.2 (by omega)), rfl⟩ (by (repeat (first | exact Picks.nil | (apply Picks.cons; (repeat (first | exact Pick.here | apply Pick.there)))))) (by (repeat (first | exact Suff.here | apply Suff.there)))

set_option maxRecDepth 100000 in
theorem indexLong_spec (v : Value) (l : List Bs) (p : HP) (hr : ∀ h : Hp, p h → rdS 1 h v l.length (strs l)) (hl : l.length ≤ 4294967296) : Fn Try.prog 132 #[v, .func (.func 120) #[] #[]] [p] fun u L => (∃ r : Int, u = vint r ∧ (decide (r ≥ 0) = l.any (fun s : Bs => decide (s.length > 4000)))) ∧ L = [p] := by
  refine Fn.intro (vs := [v, .func (.func 120) #[] #[]]) Try.func132 rfl rfl ?_
  intro F W
  refine G.rdAny (p := p) hr (by (repeat (first | exact Pick.here | apply Pick.there))) fun aa ca e _ => ?_
  subst e
  refine G.seq ?_
  refine G.region ?_
  refine G.q (Quiet.assign rfl) rfl ?_
  refine G.nil ?_
  refine G.then_n ?_
  refine G.seq ?_
  refine G.seq ?_
  refine G.region ?_
  refine G.q (Quiet.move rfl) rfl ?_
  refine G.q (Quiet.slen rfl Try.underlying22 rfl) rfl ?_
  refine G.q (Quiet.move rfl) rfl ?_
  refine G.nil ?_
  refine G.then_n ?_
  refine G.block ?_
  refine G.loopK (ι := Nat) (fun q E => (8, vint q) :: E) (fun q => []) (fun q => q ≤ l.length ∧ ∀ j (hj : j < q) (hl : j < l.length), ¬ l[j].length > 4000) (fun q => l.length - q) (0) (ts := [0, 1, 7]) (.cons rfl (.cons rfl (.cons rfl (.nil)))) (⟨Nat.zero_le _, fun j hj => by omega⟩) ⟨rfl, rfl, rfl, rfl, trivial⟩ (by (repeat (first | exact Picks.nil | (apply Picks.cons; (repeat (first | exact Pick.here | apply Pick.there)))))) ?_
  rintro i ⟨hi, hb⟩
  refine G.seq ?_
  refine G.region ?_
  refine G.q (Quiet.int rfl rfl rfl) rfl ?_
  refine G.nil ?_
  refine G.then_n ?_
  refine G.seq ?_
  refine G.condD rfl (fun h9 => ?_) (fun h9 => ?_)
  · have hi2 : i < l.length := by omega
    refine G.rdShape (p := p) hr (by (repeat (first | exact Pick.here | apply Pick.there))) (by omega) fun ba oa e => ?_
    subst e
    refine G.skip ?_
    refine G.then_n ?_
    refine G.seq ?_
    refine G.block ?_
    refine G.seq ?_
    refine G.region ?_
    refine G.q (Quiet.move rfl) rfl ?_
    refine G.q (Quiet.assign rfl) rfl ?_
    refine G.nil ?_
    refine G.then_n ?_
    refine G.seq ?_
    refine G.region ?_
    refine G.q (Quiet.move rfl) rfl ?_
    refine G.q (Quiet.move rfl) rfl ?_
    refine G.q (Quiet.move rfl) rfl ?_
    refine G.q (Quiet.indexAddr rfl rfl el_22 (by omega)) rfl ?_
    refine G.q (Quiet.loadRd (sz := 1) (j := i) (p := p) (v := vstr l[i]) rfl ag_9 (by (repeat (first | exact Pick.here | apply Pick.there))) hr (by simp) (by simp [hi2])) rfl ?_
    refine G.op (OpSpec.callV Try.func120 rfl rfl (us := []) (vs := [_]) (ws := []) rfl rfl (long_spec l[i])) (by (repeat (first | exact Picks.nil | (apply Picks.cons; (repeat (first | exact Pick.here | apply Pick.there)))))) rfl ?nx11
    rintro v L' ⟨rfl, rfl⟩
    refine G.nil ?_
    refine G.then_n ?_
    refine G.condD rfl (fun h16 => ?_) (fun h16 => ?_)
    · refine G.seq ?_
      refine G.region ?_
      refine G.q (Quiet.move rfl) rfl ?_
      refine G.q (Quiet.assign rfl) rfl ?_
      refine G.nil ?_
      refine G.then_n ?_
      refine G.ret ?_
      refine G.blk_r ?_
      refine G.then_r ?_
      refine G.then_r ?_
      refine G.blk_r ?_
      refine G.then_r ?_
      exact G.done (l := [.tmp 4]) rfl rfl ⟨⟨_, rfl, by rw [decide_eq_true (by omega)]; exact (List.any_eq_true.2 ⟨l[i], List.getElem_mem hi2, decide_eq_true h16⟩).symm⟩, rfl⟩ (by (repeat (first | exact Picks.nil | (apply Picks.cons; (repeat (first | exact Pick.here | apply Pick.there)))))) (by (repeat (first | exact Suff.here | apply Suff.there)))
    · refine G.skip ?_
      refine G.blk_n ?_
      refine G.then_n ?_
      refine G.region ?_
      refine G.q (Quiet.add rfl rfl (by omega)) rfl ?_
      refine G.q (Quiet.move rfl) rfl ?_
      refine G.nil ?_
      refine G.then_n ?_
      exact G.roundK (i + 1) (⟨by omega, fun j hj hl => by rcases Nat.lt_or_ge j i with h | h; exact hb j h hl; obtain rfl : j = i := (by omega); exact h16⟩) (by omega) ⟨rfl, rfl, rfl, rfl, trivial⟩ (by (repeat (first | exact Picks.nil | (apply Picks.cons; (repeat (first | exact Pick.here | apply Pick.there)))))) (by ((repeat (apply Have.cons; (repeat (first | exact Pick.here | apply Pick.there)))); apply Have.base; repeat (first | exact Suff.here | apply Suff.there)))
  · refine G.exit ?_
    refine G.then_e ?_
    refine G.then_e ?_
    refine G.blk_e ?_
    refine G.then_n ?_
    refine G.seq ?_
    refine G.region ?_
    refine G.q (Quiet.assign rfl) rfl ?_
    refine G.nil ?_
    refine G.then_n ?_
    refine G.ret ?_
    exact G.done (l := [.tmp 4]) rfl rfl ⟨⟨_, rfl, by rw [decide_eq_false (by decide)]; symm; rw [List.any_eq_false]; intro s hs; obtain ⟨j, hj, rfl⟩ := List.mem_iff_getElem.1 hs; simpa using hb j (by omega) hj⟩, rfl⟩ (by (repeat (first | exact Picks.nil | (apply Picks.cons; (repeat (first | exact Pick.here | apply Pick.there)))))) (by (repeat (first | exact Suff.here | apply Suff.there)))

set_option maxRecDepth 100000 in
theorem containsLong_spec (v : Value) (l : List Bs) (p : HP) (hr : ∀ h : Hp, p h → rdS 1 h v l.length (strs l)) (hl : l.length ≤ 4294967296) : Fn Try.prog 119 #[v, .func (.func 120) #[] #[]] [p] fun u L => u = .bool (l.any (fun s : Bs => decide (s.length > 4000))) ∧ L = [p] := by
  refine Fn.intro (vs := [v, .func (.func 120) #[] #[]]) Try.func119 rfl rfl ?_
  intro F W
  refine G.seq ?_
  refine G.region ?_
  refine G.q (Quiet.assign rfl) rfl ?_
  refine G.nil ?_
  refine G.then_n ?_
  refine G.seq ?_
  refine G.region ?_
  refine G.q (Quiet.move rfl) rfl ?_
  refine G.q (Quiet.move rfl) rfl ?_
  refine G.op (OpSpec.call Try.func132 rfl rfl (vs := [_, _]) rfl (indexLong_spec v l p hr hl)) (by (repeat (first | exact Picks.nil | (apply Picks.cons; (repeat (first | exact Pick.here | apply Pick.there)))))) rfl ?nx4
  rintro v' L' ⟨⟨r, rfl, hrl⟩, rfl⟩
  refine G.q (Quiet.int rfl rfl rfl) rfl ?_
  refine G.q (Quiet.assign rfl) rfl ?_
  refine G.nil ?_
  refine G.then_n ?_
  refine G.ret ?_
  exact G.done (l := [.tmp 4]) rfl rfl ⟨congrArg Value.bool hrl, rfl⟩ (by (repeat (first | exact Picks.nil | (apply Picks.cons; (repeat (first | exact Pick.here | apply Pick.there)))))) (by (repeat (first | exact Suff.here | apply Suff.there)))

set_option maxRecDepth 100000 in
theorem wrenew_spec (x d : Nat) (ω : Wl) (δ : Dk) (va : Value) (l : List Bs) (p : HP) (hI : WlI δ ω) (hr : ∀ h : Hp, p h → rdS 1 h va l.length (strs l)) (hlb : (laidZ l).length ≤ 3000000) : Fn Try.prog 77 #[vptr x, va] [wlR x d ω, dkR d δ, p] fun v L => v = vint (renewZ δ ω l).2.2 ∧ L = [wlR x d (renewZ δ ω l).2.1, dkR d (renewZ δ ω l).1, p] := by
  refine Fn.introD (vs := [vptr x, va]) Try.func77 rfl rfl ?_
  intro F W
  refine G.wlOpen (ω := ω) (by (repeat (first | exact Pick.here | apply Pick.there))) fun vr vb => ?_
  refine G.slAny (v := vr) (by (repeat (first | exact Pick.here | apply Pick.there))) fun arr crr e _ => ?_
  subst e
  refine G.slAny (v := vb) (by (repeat (first | exact Pick.here | apply Pick.there))) fun abb cbb e _ => ?_
  subst e
  refine G.slAddr (T := 9) (by (repeat (first | exact Pick.here | apply Pick.there))) fun hrc hra => ?_
  obtain ⟨hn, hA, har, hct, hsy, hfit⟩ := hI
  have hh := half_le hn
  have hll := laidZ_many ω.recs
  have hlk := layF_keeps ((laidZ l).length + 1) δ (1 - ω.area) (laidZ l) (0 / 64)
  have hlm := laidZ_many l
  refine G.rdAny (p := p) hr (by (repeat (first | exact Pick.here | apply Pick.there))) fun aq cq e _ => ?_
  subst e
  refine G.seq ?_
  refine G.region ?_
  refine G.op (OpSpec.alloc ze_25) (by (repeat (first | exact Picks.nil | (apply Picks.cons; (repeat (first | exact Pick.here | apply Pick.there)))))) rfl ?nx1
  rintro v L' ⟨be, rfl, rfl⟩
  refine G.nil ?_
  refine G.ptCast (b := be) (l' := [vint 0]) (by (repeat (first | exact Pick.here | apply Pick.there))) rfl ?_
  refine G.then_n ?_
  refine G.seq ?_
  refine G.region ?_
  refine G.q (Quiet.move rfl) rfl ?_
  refine G.defer (vs := [_, _]) rfl ?_
  refine G.nil ?_
  refine G.then_n ?_
  refine G.seq ?_
  refine G.block ?_
  refine G.seq ?_
  refine G.region ?_
  refine G.q (Quiet.move rfl) rfl ?_
  refine G.q (Quiet.nilp rfl) rfl ?_
  refine G.q (Quiet.fieldAddr rfl fo_118_8) rfl ?_
  refine G.q (Quiet.load rfl ag_4 (by (repeat (first | exact Pick.here | apply Pick.there))) (rfl)) rfl ?_
  refine G.q (Quiet.assign rfl) rfl ?_
  refine G.nil ?_
  refine G.then_n ?_
  refine G.condB rfl (fun h8 => ?_) (fun h8 => ?_)
  · refine G.seq ?_
    refine G.region ?_
    refine G.op (OpSpec.store rfl rfl rfl sz_25 ?c8 ?c9) (by (repeat (first | exact Picks.nil | (apply Picks.cons; (repeat (first | exact Pick.here | apply Pick.there)))))) rfl ?nx10
    case c8 => first | decide | (simp; omega) | simp
    case c9 => exact nfz0 _ _
    rintro v L' rfl
    refine G.nil ?_
    refine G.ptCast (b := be) (l' := [vint 34]) (by (repeat (first | exact Pick.here | apply Pick.there))) rfl ?_
    refine G.then_n ?_
    refine G.ret ?_
    refine G.blk_r ?_
    refine G.then_r ?_
    refine G.doneD Try.func81 rfl rfl (doubts_spec x d (.slice arr ω.recs.length crr) ω.synced (.slice abb (laidZ ω.recs).length cbb) ω.area ω.count ω.a ω.b ω.doubt be 34) (by (repeat (first | exact Picks.nil | (apply Picks.cons; (repeat (first | exact Pick.here | apply Pick.there)))))) ?_
    rintro u L' ⟨rfl, rfl⟩
    have e : renewZ δ ω l = (δ, ω, 34) := by unfold renewZ; rw [if_pos h8]
    rw [e, if_neg (show ¬ (34 : Int) = 2 by decide)]
    refine G.wlFold (x := x) (d := d) (ω := ω) (by (repeat (first | exact Picks.nil | (apply Picks.cons; (repeat (first | exact Pick.here | apply Pick.there)))))) rfl rfl rfl rfl rfl ?_
    exact G.done1 rfl (.cell rfl ag_25 (by (repeat (first | exact Pick.here | apply Pick.there))) rfl) ⟨rfl, rfl⟩ (by (repeat (first | exact Picks.nil | (apply Picks.cons; (repeat (first | exact Pick.here | apply Pick.there)))))) (by (repeat (first | exact Suff.here | apply Suff.there)))
  · have hdb : ¬ ω.doubt = true := by rw [h8]; decide
    refine G.seq ?_
    refine G.region ?_
    refine G.q (Quiet.move rfl) rfl ?_
    refine G.op (OpSpec.call Try.func119 rfl rfl (vs := [_, _]) rfl (containsLong_spec _ l p hr (by omega))) (by (repeat (first | exact Picks.nil | (apply Picks.cons; (repeat (first | exact Pick.here | apply Pick.there)))))) rfl ?nx12
    rintro v L' ⟨rfl, rfl⟩
    refine G.q (Quiet.assign rfl) rfl ?_
    refine G.nil ?_
    refine G.then_n ?_
    refine G.condB rfl (fun h13 => ?_) (fun h13 => ?_)
    · refine G.seq ?_
      refine G.region ?_
      refine G.op (OpSpec.store rfl rfl rfl sz_25 ?c14 ?c15) (by (repeat (first | exact Picks.nil | (apply Picks.cons; (repeat (first | exact Pick.here | apply Pick.there)))))) rfl ?nx16
      case c14 => first | decide | (simp; omega) | simp
      case c15 => exact nfz0 _ _
      rintro v L' rfl
      refine G.nil ?_
      refine G.ptCast (b := be) (l' := [vint 33]) (by (repeat (first | exact Pick.here | apply Pick.there))) rfl ?_
      refine G.then_n ?_
      refine G.ret ?_
      refine G.blk_r ?_
      refine G.then_r ?_
      refine G.doneD Try.func81 rfl rfl (doubts_spec x d (.slice arr ω.recs.length crr) ω.synced (.slice abb (laidZ ω.recs).length cbb) ω.area ω.count ω.a ω.b ω.doubt be 33) (by (repeat (first | exact Picks.nil | (apply Picks.cons; (repeat (first | exact Pick.here | apply Pick.there)))))) ?_
      rintro u L' ⟨rfl, rfl⟩
      have e : renewZ δ ω l = (δ, ω, 33) := by unfold renewZ; rw [if_neg hdb, if_pos h13]
      rw [e, if_neg (show ¬ (33 : Int) = 2 by decide)]
      refine G.wlFold (x := x) (d := d) (ω := ω) (by (repeat (first | exact Picks.nil | (apply Picks.cons; (repeat (first | exact Pick.here | apply Pick.there)))))) rfl rfl rfl rfl rfl ?_
      exact G.done1 rfl (.cell rfl ag_25 (by (repeat (first | exact Pick.here | apply Pick.there))) rfl) ⟨rfl, rfl⟩ (by (repeat (first | exact Picks.nil | (apply Picks.cons; (repeat (first | exact Pick.here | apply Pick.there)))))) (by (repeat (first | exact Suff.here | apply Suff.there)))
    · have hlong : ¬ l.any (fun s : Bs => decide (s.length > 4000)) = true := by rw [h13]; decide
      refine G.seq ?_
      refine G.region ?_
      refine G.q (Quiet.move rfl) rfl ?_
      refine G.q (Quiet.move rfl) rfl ?_
      refine G.q (Quiet.slen rfl Try.underlying22 rfl) rfl ?_
      refine G.q (Quiet.mul rfl rfl (by omega)) rfl ?_
      refine G.op (OpSpec.call Try.func82 rfl rfl (vs := [_, _]) rfl (fits_spec x d (.slice arr ω.recs.length crr) ω.synced (.slice abb (laidZ ω.recs).length cbb) ω.area ω.count ω.a ω.b ω.doubt δ ((l.length : Int) * 6) hn)) (by (repeat (first | exact Picks.nil | (apply Picks.cons; (repeat (first | exact Pick.here | apply Pick.there)))))) rfl ?nx21
      rintro v L' ⟨rfl, rfl⟩
      refine G.q (Quiet.not rfl) rfl ?_
      refine G.q (Quiet.move rfl) rfl ?_
      refine G.ndec (t := 23) rfl (fun h6_23 => ?_) (fun h6_23 => ?_)
      · refine G.kNT (t := 22) rfl h6_23 ?_
        refine G.gskip (t := 23) rfl rfl rfl rfl ?_
        refine G.gskip (t := 23) rfl rfl rfl rfl ?_
        refine G.gskip (t := 23) rfl rfl rfl rfl ?_
        refine G.gskip (t := 23) rfl rfl rfl rfl ?_
        refine G.gskip (t := 23) rfl rfl rfl rfl ?_
        refine G.q (Quiet.pickT rfl rfl) rfl ?_
        refine G.q (Quiet.assign rfl) rfl ?_
        refine G.nil ?_
        refine G.then_n ?_
        refine G.condT rfl ?_
        refine G.seq ?_
        refine G.region ?_
        refine G.op (OpSpec.store rfl rfl rfl sz_25 ?c25 ?c26) (by (repeat (first | exact Picks.nil | (apply Picks.cons; (repeat (first | exact Pick.here | apply Pick.there)))))) rfl ?nx27
        case c25 => first | decide | (simp; omega) | simp
        case c26 => exact nfz0 _ _
        rintro v L' rfl
        refine G.nil ?_
        refine G.ptCast (b := be) (l' := [vint 30]) (by (repeat (first | exact Pick.here | apply Pick.there))) rfl ?_
        refine G.then_n ?_
        refine G.ret ?_
        refine G.blk_r ?_
        refine G.then_r ?_
        refine G.doneD Try.func81 rfl rfl (doubts_spec x d (.slice arr ω.recs.length crr) ω.synced (.slice abb (laidZ ω.recs).length cbb) ω.area ω.count ω.a ω.b ω.doubt be 30) (by (repeat (first | exact Picks.nil | (apply Picks.cons; (repeat (first | exact Pick.here | apply Pick.there)))))) ?_
        rintro u L' ⟨rfl, rfl⟩
        have e : renewZ δ ω l = (δ, ω, 30) := by unfold renewZ; rw [if_neg hdb, if_neg hlong, if_pos (by first | exact .inl h6_23 | exact .inr h16)]
        rw [e, if_neg (show ¬ (30 : Int) = 2 by decide)]
        refine G.wlFold (x := x) (d := d) (ω := ω) (by (repeat (first | exact Picks.nil | (apply Picks.cons; (repeat (first | exact Pick.here | apply Pick.there)))))) rfl rfl rfl rfl rfl ?_
        exact G.done1 rfl (.cell rfl ag_25 (by (repeat (first | exact Pick.here | apply Pick.there))) rfl) ⟨rfl, rfl⟩ (by (repeat (first | exact Picks.nil | (apply Picks.cons; (repeat (first | exact Pick.here | apply Pick.there)))))) (by (repeat (first | exact Suff.here | apply Suff.there)))
      · refine G.kNF (t := 22) rfl h6_23 ?_
        refine G.grun (t := 23) rfl rfl rfl ?_
        refine G.q (Quiet.move rfl) rfl ?_
        refine G.grun (t := 23) rfl rfl rfl ?_
        refine G.q (Quiet.nilp rfl) rfl ?_
        refine G.grun (t := 23) rfl rfl rfl ?_
        refine G.q (Quiet.fieldAddr rfl fo_118_5) rfl ?_
        refine G.grun (t := 23) rfl rfl rfl ?_
        refine G.q (Quiet.load rfl ag_3 (by (repeat (first | exact Pick.here | apply Pick.there))) (rfl)) rfl ?_
        refine G.grun (t := 23) rfl rfl rfl ?_
        refine G.q (Quiet.int rfl rfl rfl) rfl ?_
        refine G.q (Quiet.pickF rfl rfl) rfl ?_
        refine G.q (Quiet.assign rfl) rfl ?_
        refine G.nil ?_
        refine G.then_n ?_
        refine G.condD rfl (fun h16 => ?_) (fun h16 => ?_)
        · refine G.seq ?_
          refine G.region ?_
          refine G.op (OpSpec.store rfl rfl rfl sz_25 ?c33 ?c34) (by (repeat (first | exact Picks.nil | (apply Picks.cons; (repeat (first | exact Pick.here | apply Pick.there)))))) rfl ?nx35
          case c33 => first | decide | (simp; omega) | simp
          case c34 => exact nfz0 _ _
          rintro v L' rfl
          refine G.nil ?_
          refine G.ptCast (b := be) (l' := [vint 30]) (by (repeat (first | exact Pick.here | apply Pick.there))) rfl ?_
          refine G.then_n ?_
          refine G.ret ?_
          refine G.blk_r ?_
          refine G.then_r ?_
          refine G.doneD Try.func81 rfl rfl (doubts_spec x d (.slice arr ω.recs.length crr) ω.synced (.slice abb (laidZ ω.recs).length cbb) ω.area ω.count ω.a ω.b ω.doubt be 30) (by (repeat (first | exact Picks.nil | (apply Picks.cons; (repeat (first | exact Pick.here | apply Pick.there)))))) ?_
          rintro u L' ⟨rfl, rfl⟩
          have e : renewZ δ ω l = (δ, ω, 30) := by unfold renewZ; rw [if_neg hdb, if_neg hlong, if_pos (by first | exact .inl h6_23 | exact .inr h16)]
          rw [e, if_neg (show ¬ (30 : Int) = 2 by decide)]
          refine G.wlFold (x := x) (d := d) (ω := ω) (by (repeat (first | exact Picks.nil | (apply Picks.cons; (repeat (first | exact Pick.here | apply Pick.there)))))) rfl rfl rfl rfl rfl ?_
          exact G.done1 rfl (.cell rfl ag_25 (by (repeat (first | exact Pick.here | apply Pick.there))) rfl) ⟨rfl, rfl⟩ (by (repeat (first | exact Picks.nil | (apply Picks.cons; (repeat (first | exact Pick.here | apply Pick.there)))))) (by (repeat (first | exact Suff.here | apply Suff.there)))
        · refine G.skip ?_
          refine G.blk_n ?_
          refine G.then_n ?_
          refine G.seq ?_
          have hfull : ¬ (¬ ((l.length : Int) * 6 ≤ 64 * halfZ δ) ∨ ω.count = 4294967295) := by rintro (h | h); exact h h6_23; exact h16 h
          refine G.region ?_
          refine G.q (Quiet.move rfl) rfl ?_
          refine G.op (OpSpec.call Try.func118 rfl rfl (vs := [_]) rfl (laid_spec _ l p hr (by omega))) (by (repeat (first | exact Picks.nil | (apply Picks.cons; (repeat (first | exact Pick.here | apply Pick.there)))))) rfl ?nx37
          rintro v L' ⟨⟨al, cl, rfl⟩, rfl⟩
          refine G.q (Quiet.assign rfl) rfl ?_
          refine G.nil ?_
          refine G.then_n ?_
          refine G.seq ?_
          refine G.seq ?_
          refine G.region ?_
          refine G.q (Quiet.move rfl) rfl ?_
          refine G.q (Quiet.move rfl) rfl ?_
          refine G.q (Quiet.slen rfl Try.underlying31 rfl) rfl ?_
          refine G.op (OpSpec.call Try.func82 rfl rfl (vs := [_, _]) rfl (fits_spec x d (.slice arr ω.recs.length crr) ω.synced (.slice abb (laidZ ω.recs).length cbb) ω.area ω.count ω.a ω.b ω.doubt δ (laidZ l).length hn)) (by (repeat (first | exact Picks.nil | (apply Picks.cons; (repeat (first | exact Pick.here | apply Pick.there)))))) rfl ?nx41
          rintro v L' ⟨rfl, rfl⟩
          refine G.q (Quiet.not rfl) rfl ?_
          refine G.nil ?_
          refine G.then_n ?_
          refine G.condN rfl (fun h36 => ?_) (fun h36 => ?_)
          · refine G.seq ?_
            refine G.region ?_
            refine G.op (OpSpec.store rfl rfl rfl sz_25 ?c44 ?c45) (by (repeat (first | exact Picks.nil | (apply Picks.cons; (repeat (first | exact Pick.here | apply Pick.there)))))) rfl ?nx46
            case c44 => first | decide | (simp; omega) | simp
            case c45 => exact nfz0 _ _
            rintro v L' rfl
            refine G.nil ?_
            refine G.ptCast (b := be) (l' := [vint 30]) (by (repeat (first | exact Pick.here | apply Pick.there))) rfl ?_
            refine G.then_n ?_
            refine G.ret ?_
            refine G.then_r ?_
            refine G.doneD Try.func81 rfl rfl (doubts_spec x d (.slice arr ω.recs.length crr) ω.synced (.slice abb (laidZ ω.recs).length cbb) ω.area ω.count ω.a ω.b ω.doubt be 30) (by (repeat (first | exact Picks.nil | (apply Picks.cons; (repeat (first | exact Pick.here | apply Pick.there)))))) ?_
            rintro u L' ⟨rfl, rfl⟩
            have e : renewZ δ ω l = (δ, ω, 30) := by unfold renewZ; rw [if_neg hdb, if_neg hlong, if_neg hfull, if_pos h36]
            rw [e, if_neg (show ¬ (30 : Int) = 2 by decide)]
            refine G.wlFold (x := x) (d := d) (ω := ω) (by (repeat (first | exact Picks.nil | (apply Picks.cons; (repeat (first | exact Pick.here | apply Pick.there)))))) rfl rfl rfl rfl rfl ?_
            exact G.done1 rfl (.cell rfl ag_25 (by (repeat (first | exact Pick.here | apply Pick.there))) rfl) ⟨rfl, rfl⟩ (by (repeat (first | exact Picks.nil | (apply Picks.cons; (repeat (first | exact Pick.here | apply Pick.there)))))) (by (repeat (first | exact Suff.here | apply Suff.there)))
          · refine G.skip ?_
            refine G.then_n ?_
            refine G.seq ?_
            refine G.seq ?_
            refine G.region ?_
            refine G.q (Quiet.move rfl) rfl ?_
            refine G.q (Quiet.move rfl) rfl ?_
            refine G.q (Quiet.nilp rfl) rfl ?_
            refine G.q (Quiet.fieldAddr rfl fo_118_4) rfl ?_
            refine G.q (Quiet.load rfl ag_3 (by (repeat (first | exact Pick.here | apply Pick.there))) (rfl)) rfl ?_
            refine G.q (Quiet.sub rfl rfl (by omega)) rfl ?_
            refine G.q (Quiet.move rfl) rfl ?_
            refine G.op (OpSpec.call Try.func85 rfl rfl (vs := [_, _, _, _]) rfl (lay_spec4 x d (.slice arr ω.recs.length crr) ω.synced (.slice abb (laidZ ω.recs).length cbb) ω.area ω.count ω.a ω.b ω.doubt (.slice al (laidZ l).length cl) δ (1 - ω.area) (laidZ l) 0 (bytR (.slice al (laidZ l).length cl) (laidZ l)) hn (by omega) (by omega) (fun h hp => slR_rd hp) (by omega) (Nat.zero_le _))) (by (repeat (first | exact Picks.nil | (apply Picks.cons; (repeat (first | exact Pick.here | apply Pick.there)))))) rfl ?nx53
            rintro v L' ⟨rfl, rfl⟩
            refine G.q (Quiet.assign rfl) rfl ?_
            refine G.nil ?_
            refine G.then_n ?_
            refine G.seq ?_
            refine G.region ?_
            refine G.q (Quiet.move rfl) rfl ?_
            refine G.q (Quiet.int rfl rfl rfl) rfl ?_
            refine G.nil ?_
            refine G.then_n ?_
            refine G.condN rfl (fun h46 => ?_) (fun h46 => ?_)
            · refine G.seq ?_
              refine G.region ?_
              refine G.q (Quiet.move rfl) rfl ?_
              refine G.op (OpSpec.store rfl rfl rfl sz_25 ?c56 ?c57) (by (repeat (first | exact Picks.nil | (apply Picks.cons; (repeat (first | exact Pick.here | apply Pick.there)))))) rfl ?nx58
              case c56 => first | decide | (simp; omega) | simp
              case c57 => exact nfz0 _ _
              rintro v L' rfl
              refine G.nil ?_
              refine G.ptCast (b := be) (l' := [vint (layZ δ (1 - ω.area) (laidZ l) 0).2]) (by (repeat (first | exact Pick.here | apply Pick.there))) rfl ?_
              refine G.then_n ?_
              refine G.ret ?_
              refine G.then_r ?_
              refine G.doneD Try.func81 rfl rfl (doubts_spec x d (.slice arr ω.recs.length crr) ω.synced (.slice abb (laidZ ω.recs).length cbb) ω.area ω.count ω.a ω.b ω.doubt be (layZ δ (1 - ω.area) (laidZ l) 0).2) (by (repeat (first | exact Picks.nil | (apply Picks.cons; (repeat (first | exact Pick.here | apply Pick.there)))))) ?_
              rintro u L' ⟨rfl, rfl⟩
              have h2 : (layZ δ (1 - ω.area) (laidZ l) 0).2 = 2 := by rcases layZ_err δ (1 - ω.area) (laidZ l) 0 with h | h; exact absurd h (by simpa using h46); exact h
              have e : renewZ δ ω l = ((layZ δ (1 - ω.area) (laidZ l) 0).1, { ω with doubt := true }, 2) := by unfold renewZ; rw [if_neg hdb, if_neg hlong, if_neg hfull, if_neg (fun h => h h36), if_pos (by simpa using h46), h2]; rfl
              rw [e, h2, if_pos rfl]
              refine G.wlFold (x := x) (d := d) (ω := { ω with doubt := true }) (by (repeat (first | exact Picks.nil | (apply Picks.cons; (repeat (first | exact Pick.here | apply Pick.there)))))) rfl rfl rfl rfl rfl ?_
              exact G.done1 rfl (.cell rfl ag_25 (by (repeat (first | exact Pick.here | apply Pick.there))) rfl) ⟨rfl, rfl⟩ (by (repeat (first | exact Picks.nil | (apply Picks.cons; (repeat (first | exact Pick.here | apply Pick.there)))))) (by (repeat (first | exact Suff.here | apply Suff.there)))
            · refine G.skip ?_
              refine G.then_n ?_
              refine G.seq ?_
              refine G.region ?_
              refine G.q (Quiet.move rfl) rfl ?_
              refine G.q (Quiet.move rfl) rfl ?_
              refine G.q (Quiet.nilp rfl) rfl ?_
              refine G.q (Quiet.fieldAddr rfl fo_118_4) rfl ?_
              refine G.q (Quiet.load rfl ag_3 (by (repeat (first | exact Pick.here | apply Pick.there))) (rfl)) rfl ?_
              refine G.q (Quiet.sub rfl rfl (by omega)) rfl ?_
              refine G.q (Quiet.move rfl) rfl ?_
              refine G.q (Quiet.move rfl) rfl ?_
              refine G.op (OpSpec.call Try.func86 rfl rfl (vs := [_, _, _, _]) rfl (seal_spec x d (.slice arr ω.recs.length crr) (.slice abb (laidZ ω.recs).length cbb) ω (layZ δ (1 - ω.area) (laidZ l) 0).1 (1 - ω.area) _ (.slice al (laidZ l).length cl) l p (bytR (.slice al (laidZ l).length cl) (laidZ l)) hct ?hA66 ?hl67 hr (fun h hp => slR_rd hp))) (by (repeat (first | exact Picks.nil | (apply Picks.cons; (repeat (first | exact Pick.here | apply Pick.there)))))) rfl ?nx68
              case hA66 => have := hlk.2; unfold layZ; omega
              case hl67 => omega
              rintro v L' (⟨δ', hs, rfl, rfl⟩ | ⟨δ', hs, rfl, vr', vb', rfl⟩)
              · refine G.op (OpSpec.store rfl rfl rfl sz_25 ?c70 ?c71) (by (repeat (first | exact Picks.nil | (apply Picks.cons; (repeat (first | exact Pick.here | apply Pick.there)))))) rfl ?nx72
                case c70 => first | decide | (simp; omega) | simp
                case c71 => exact nfz0 _ _
                rintro v L' rfl
                refine G.nil ?_
                refine G.ptCast (b := be) (l' := [vint 2]) (by (repeat (first | exact Pick.here | apply Pick.there))) rfl ?_
                refine G.then_n ?_
                refine G.ret ?_
                refine G.doneD Try.func81 rfl rfl (doubts_spec x d (.slice arr ω.recs.length crr) ω.synced (.slice abb (laidZ ω.recs).length cbb) ω.area ω.count ω.a ω.b ω.doubt be 2) (by (repeat (first | exact Picks.nil | (apply Picks.cons; (repeat (first | exact Pick.here | apply Pick.there)))))) ?_
                rintro u L' ⟨rfl, rfl⟩
                have e : renewZ δ ω l = (δ', { ω with doubt := true }, 2) := by unfold renewZ; rw [if_neg hdb, if_neg hlong, if_neg hfull, if_neg (fun h => h h36), if_neg (by simpa using h46), hs]; rfl
                rw [e, if_pos rfl]
                refine G.wlFold (x := x) (d := d) (ω := { ω with doubt := true }) (by (repeat (first | exact Picks.nil | (apply Picks.cons; (repeat (first | exact Pick.here | apply Pick.there)))))) rfl rfl rfl rfl rfl ?_
                exact G.done1 rfl (.cell rfl ag_25 (by (repeat (first | exact Pick.here | apply Pick.there))) rfl) ⟨rfl, rfl⟩ (by (repeat (first | exact Picks.nil | (apply Picks.cons; (repeat (first | exact Pick.here | apply Pick.there)))))) (by (repeat (first | exact Suff.here | apply Suff.there)))
              · refine G.op (OpSpec.store rfl rfl rfl sz_25 ?c74 ?c75) (by (repeat (first | exact Picks.nil | (apply Picks.cons; (repeat (first | exact Pick.here | apply Pick.there)))))) rfl ?nx76
                case c74 => first | decide | (simp; omega) | simp
                case c75 => exact nfz0 _ _
                rintro v L' rfl
                refine G.nil ?_
                refine G.ptCast (b := be) (l' := [vint 0]) (by (repeat (first | exact Pick.here | apply Pick.there))) rfl ?_
                refine G.then_n ?_
                refine G.ret ?_
                refine G.doneD Try.func81 rfl rfl (doubts_spec x d vr' _ vb' _ _ _ _ _ be 0) (by (repeat (first | exact Picks.nil | (apply Picks.cons; (repeat (first | exact Pick.here | apply Pick.there)))))) ?_
                rintro u L' ⟨rfl, rfl⟩
                have e : renewZ δ ω l = (δ', { ω with recs := l, synced := l.length, area := 1 - ω.area, count := ω.count + 1 }, 0) := by unfold renewZ; rw [if_neg hdb, if_neg hlong, if_neg hfull, if_neg (fun h => h h36), if_neg (by simpa using h46), hs]; rfl
                rw [e, if_neg (show ¬ (0 : Int) = 2 by decide)]
                refine G.wlFold (x := x) (d := d) (ω := { ω with recs := l, synced := l.length, area := 1 - ω.area, count := ω.count + 1 }) (by (repeat (first | exact Picks.nil | (apply Picks.cons; (repeat (first | exact Pick.here | apply Pick.there)))))) rfl rfl rfl rfl rfl ?_
                exact G.done1 rfl (.cell rfl ag_25 (by (repeat (first | exact Pick.here | apply Pick.there))) rfl) ⟨rfl, rfl⟩ (by (repeat (first | exact Picks.nil | (apply Picks.cons; (repeat (first | exact Pick.here | apply Pick.there)))))) (by (repeat (first | exact Suff.here | apply Suff.there)))

def mark1 : Mk := ⟨1, 0, 0, 0, 0, 0⟩
def fmtZ (δ : Dk) : Nat → Dk × Int
  | 0 => (δ, 0)
  | 1 => δ.write 0 zs
  | 2 => (δ.write 0 zs).1.write 1 mark1.sec
  | _ => ((δ.write 0 zs).1.write 1 mark1.sec).1.sync
def newW : Wl := ⟨[], 0, 0, 1, 0, 0, false⟩
def formatZ (δ : Dk) : Dk × Option Wl := if (fmtZ δ 1).2 ≠ 0 then ((fmtZ δ 1).1, none) else if (fmtZ δ 2).2 ≠ 0 then ((fmtZ δ 2).1, none) else if (fmtZ δ 3).2 ≠ 0 then ((fmtZ δ 3).1, none) else ((fmtZ δ 3).1, some newW)
set_option maxRecDepth 100000 in
theorem fmt1_spec (b1 d : Nat) (δ : Dk) (hA : δ.acts < 4611686018427387904) : Fn Try.prog 72 #[vptr b1] [ptc b1 [vptr d] 24, dkR d δ] fun v L => v = vint (δ.write 0 zs).2 ∧ L = [ptc b1 [vptr d] 24, dkR d (δ.write 0 zs).1] := by
  refine Fn.intro (vs := [vptr b1]) Try.func72 rfl rfl ?_
  intro F W
  refine G.seq ?_
  refine G.region ?_
  refine G.q (Quiet.assign rfl) rfl ?_
  refine G.nil ?_
  refine G.then_n ?_
  refine G.seq ?_
  refine G.draw [1, 3] [[0, 1, 2], [3], [4]] mixed (by kernel_rfl) ?_
  refine Phases.go [ptc b1 [vptr d] 24] (by (repeat (first | exact Picks.nil | (apply Picks.cons; (repeat (first | exact Pick.here | apply Pick.there)))))) ?_
  refine D.q rfl (by kernel_rfl) (Quiet.load rfl ag_24 (by (repeat (first | exact Pick.here | apply Pick.there))) (rfl)) ?_
  refine D.h rfl (by kernel_rfl) (OpSpec.make rfl rfl el_31 ze_5 rfl ⟨by simp, by simp; rfl⟩ ?hc3) (by (repeat (first | exact Picks.nil | (apply Picks.cons; (repeat (first | exact Pick.here | apply Pick.there)))))) ?nx4
  case hc3 => omega
  rintro v L' ⟨bz, rfl, rfl⟩; rw [show (64 : Int).toNat = 64 from rfl]
  refine D.qw [] rfl (by kernel_rfl) (Quiet.bytesPt (cs := zs) rfl Try.underlying31 Try.underlying5 Try.underlying9 (by (repeat (first | exact Pick.here | apply Pick.there))) rfl (by decide) (by decide)) ?_
  refine D.ph ?_
  refine Phases.go [] (by (repeat (first | exact Picks.nil | (apply Picks.cons; (repeat (first | exact Pick.here | apply Pick.there)))))) ?_
  refine D.h rfl (by kernel_rfl) (OpSpec.call Try.func17 rfl rfl (vs := [_, _, _]) rfl (write_spec d δ 0 zs hA)) (by (repeat (first | exact Picks.nil | (apply Picks.cons; (repeat (first | exact Pick.here | apply Pick.there)))))) ?nx7
  rintro v L' ⟨rfl, rfl⟩
  refine D.ph ?_
  refine Phases.go [] (by (repeat (first | exact Picks.nil | (apply Picks.cons; (repeat (first | exact Pick.here | apply Pick.there)))))) ?_
  refine D.qw [] rfl (by kernel_rfl) (Quiet.assign rfl) ?_
  refine D.ph ?_
  refine Phases.fin ?_
  refine G.then_n ?_
  refine G.ret ?_
  exact G.done (l := [.tmp 1]) rfl rfl ⟨rfl, rfl⟩ (by (repeat (first | exact Picks.nil | (apply Picks.cons; (repeat (first | exact Pick.here | apply Pick.there)))))) (by (repeat (first | exact Suff.here | apply Suff.there)))

set_option maxRecDepth 100000 in
theorem fmt2_spec (b1 d : Nat) (δ : Dk) (hA : δ.acts < 4611686018427387904) : Fn Try.prog 73 #[vptr b1] [ptc b1 [vptr d] 24, dkR d δ] fun v L => v = vint (δ.write 1 mark1.sec).2 ∧ L = [ptc b1 [vptr d] 24, dkR d (δ.write 1 mark1.sec).1] := by
  refine Fn.intro (vs := [vptr b1]) Try.func73 rfl rfl ?_
  intro F W
  refine G.seq ?_
  refine G.region ?_
  refine G.q (Quiet.assign rfl) rfl ?_
  refine G.nil ?_
  refine G.then_n ?_
  refine G.seq ?_
  refine G.draw [3] [[0, 1, 2, 3], [4]] mixed (by kernel_rfl) ?_
  refine Phases.go [ptc b1 [vptr d] 24] (by (repeat (first | exact Picks.nil | (apply Picks.cons; (repeat (first | exact Pick.here | apply Pick.there)))))) ?_
  refine D.qw [3] rfl (by kernel_rfl) (Quiet.load rfl ag_24 (by (repeat (first | exact Pick.here | apply Pick.there))) (rfl)) ?_
  refine D.qw [2, 3] rfl (by kernel_rfl) (Quiet.to (v' := .agg (mkC mark1).toArray) (Quiet.build (us := [(0, _)]) fl_115 ze_115 rfl rfl (by simp [isCell])) rfl) ?_
  refine D.m rfl (by kernel_rfl) (OpSpec.call Try.func74 rfl rfl (vs := [_]) rfl (sector_spec mark1)) (by (repeat (first | exact Picks.nil | (apply Picks.cons; (repeat (first | exact Pick.here | apply Pick.there)))))) ?nx4
  refine D.h rfl (by kernel_rfl) (OpSpec.call Try.func17 rfl rfl (vs := [_, _, _]) rfl (write_spec d δ 1 mark1.sec hA)) (by (repeat (first | exact Picks.nil | (apply Picks.cons; (repeat (first | exact Pick.here | apply Pick.there)))))) ?nx6
  rintro v L' ⟨rfl, rfl⟩
  refine D.ph ?_
  refine Phases.go [] (by (repeat (first | exact Picks.nil | (apply Picks.cons; (repeat (first | exact Pick.here | apply Pick.there)))))) ?_
  refine D.qw [] rfl (by kernel_rfl) (Quiet.assign rfl) ?_
  refine D.ph ?_
  refine Phases.fin ?_
  refine G.then_n ?_
  refine G.ret ?_
  exact G.done (l := [.tmp 1]) rfl rfl ⟨rfl, rfl⟩ (by (repeat (first | exact Picks.nil | (apply Picks.cons; (repeat (first | exact Pick.here | apply Pick.there)))))) (by (repeat (first | exact Suff.here | apply Suff.there)))

end Go.Proofs.Ytepncdidkjjllaa
