/- Own work, by program: helpers of law 04: walked. -/
import Derived.Test.YtepncdidkjjllaaL4
namespace Go.Proofs.Ytepncdidkjjllaa
open Go
set_option maxRecDepth 100000 in
theorem pick4_spec  (c n : Int) (hc : -9223372036854775808 ≤ c ∧ c ≤ 9223372036854775807) (hn : 0 < n) : Fn Try.prog 22 #[vint c, vint n] [] fun v L => v = vint (pickZ c n) ∧ L = [] := by
  refine Fn.intro (vs := [vint c, vint n]) Try.func22 rfl rfl ?_
  intro F W
  refine G.seq ?_
  refine G.region ?_
  refine G.q (Quiet.assign rfl) rfl ?_
  refine G.nil ?_
  refine G.then_n ?_
  refine G.seq ?_
  refine G.seq ?_
  refine G.region ?_
  refine G.q (Quiet.move rfl) rfl ?_
  refine G.q (Quiet.int rfl rfl rfl) rfl ?_
  refine G.nil ?_
  refine G.then_n ?_
  refine G.condD rfl (fun h6 => ?_) (fun h6 => ?_)
  · refine G.region ?_
    refine G.q (Quiet.move rfl) rfl ?_
    refine G.q (Quiet.add rfl rfl (by omega)) rfl ?_
    refine G.q (Quiet.neg rfl (by omega)) rfl ?_
    refine G.q (Quiet.assign rfl) rfl ?_
    refine G.nil ?_
    refine G.then_n ?_
    refine G.seq ?_
    refine G.region ?_
    refine G.q (Quiet.move rfl) rfl ?_
    refine G.q (Quiet.move rfl) rfl ?_
    refine G.q (Quiet.remE rfl rfl (by omega) (by omega)) rfl ?_
    refine G.q (Quiet.assign rfl) rfl ?_
    refine G.nil ?_
    refine G.then_n ?_
    refine G.ret ?_
    have e : pickZ c n = (-(c + 1)) % n := by unfold pickZ; rw [if_pos h6]
    rw [e]
    exact G.done (l := [.tmp 4]) rfl rfl ⟨rfl, rfl⟩ (by (repeat (first | exact Picks.nil | (apply Picks.cons; (repeat (first | exact Pick.here | apply Pick.there)))))) (by (repeat (first | exact Suff.here | apply Suff.there)))
  · refine G.skip ?_
    refine G.then_n ?_
    refine G.seq ?_
    refine G.region ?_
    refine G.q (Quiet.move rfl) rfl ?_
    refine G.q (Quiet.move rfl) rfl ?_
    refine G.q (Quiet.remE rfl rfl (by omega) (by omega)) rfl ?_
    refine G.q (Quiet.assign rfl) rfl ?_
    refine G.nil ?_
    refine G.then_n ?_
    refine G.ret ?_
    have e : pickZ c n = (c) % n := by unfold pickZ; rw [if_neg h6]
    rw [e]
    exact G.done (l := [.tmp 4]) rfl rfl ⟨rfl, rfl⟩ (by (repeat (first | exact Picks.nil | (apply Picks.cons; (repeat (first | exact Pick.here | apply Pick.there)))))) (by (repeat (first | exact Suff.here | apply Suff.there)))

set_option maxRecDepth 100000 in
theorem texts_spec (va vb : Value) (a b : List Bs) (p q : HP) (hp : ∀ h : Hp, p h → rdS 1 h va a.length (strs a)) (hq : ∀ h : Hp, q h → rdS 1 h vb b.length (strs b)) (hl : a.length ≤ 4611686018427387904) : Fn Try.prog 61 #[va, vb] [p, q] fun v L => v = .bool (decide (a = b)) ∧ L = [p, q] := by
  refine Fn.intro (vs := [va, vb]) Try.func61 rfl rfl ?_
  intro F W
  refine G.rdAny (p := p) hp (by (repeat (first | exact Pick.here | apply Pick.there))) fun aa ca e _ => ?_
  subst e
  refine G.rdAny (p := q) hq (by (repeat (first | exact Pick.here | apply Pick.there))) fun ab cb e _ => ?_
  subst e
  refine G.seq ?_
  refine G.region ?_
  refine G.q (Quiet.assign rfl) rfl ?_
  refine G.nil ?_
  refine G.then_n ?_
  refine G.seq ?_
  refine G.seq ?_
  refine G.region ?_
  refine G.q (Quiet.move rfl) rfl ?_
  refine G.q (Quiet.slen rfl Try.underlying22 rfl) rfl ?_
  refine G.q (Quiet.move rfl) rfl ?_
  refine G.q (Quiet.slen rfl Try.underlying22 rfl) rfl ?_
  refine G.q (Quiet.int rfl rfl rfl) rfl ?_
  refine G.nil ?_
  refine G.then_n ?_
  refine G.condN rfl (fun h10 => ?_) (fun h10 => ?_)
  · refine G.seq ?_
    refine G.region ?_
    refine G.q (Quiet.assign rfl) rfl ?_
    refine G.nil ?_
    refine G.then_n ?_
    refine G.ret ?_
    refine G.then_r ?_
    exact G.done (l := [.tmp 4]) rfl rfl ⟨by rw [decide_eq_false]; intro h; rw [h] at h10; exact h10 rfl, rfl⟩ (by (repeat (first | exact Picks.nil | (apply Picks.cons; (repeat (first | exact Pick.here | apply Pick.there)))))) (by (repeat (first | exact Suff.here | apply Suff.there)))
  · have hlen : a.length = b.length := by omega
    refine G.skip ?_
    refine G.then_n ?_
    refine G.seq ?_
    refine G.seq ?_
    refine G.region ?_
    refine G.q (Quiet.assign rfl) rfl ?_
    refine G.nil ?_
    refine G.then_n ?_
    refine G.block ?_
    refine G.loopK (ι := Nat) (fun q E => (5, vint q) :: E) (fun q => []) (fun q => q ≤ a.length ∧ a.take q = b.take q) (fun q => a.length - q) (0) (ts := [0, 1]) (.cons rfl (.cons rfl (.nil))) (⟨Nat.zero_le _, rfl⟩) ⟨rfl, rfl, rfl, trivial⟩ (by (repeat (first | exact Picks.nil | (apply Picks.cons; (repeat (first | exact Pick.here | apply Pick.there)))))) ?_
    rintro i ⟨hi, ht⟩
    refine G.seq ?_
    refine G.seq ?_
    refine G.region ?_
    refine G.q (Quiet.move rfl) rfl ?_
    refine G.q (Quiet.move rfl) rfl ?_
    refine G.q (Quiet.slen rfl Try.underlying22 rfl) rfl ?_
    refine G.q (Quiet.int rfl rfl rfl) rfl ?_
    refine G.nil ?_
    refine G.then_n ?_
    refine G.condD rfl (fun h14 => ?_) (fun h14 => ?_)
    · have hi2 : i < a.length := by omega
      have hi3 : i < b.length := by omega
      refine G.rdShape (p := p) hp (by (repeat (first | exact Pick.here | apply Pick.there))) (by omega) fun ba oa e => ?_
      subst e
      refine G.rdShape (p := q) hq (by (repeat (first | exact Pick.here | apply Pick.there))) (by omega) fun bb ob e => ?_
      subst e
      refine G.skip ?_
      refine G.then_n ?_
      refine G.seq ?_
      refine G.block ?_
      refine G.seq ?_
      refine G.draw [] [[0, 1, 2, 3, 4, 5, 6, 7, 8]] mixed (by kernel_rfl) ?_
      refine Phases.go [] (by (repeat (first | exact Picks.nil | (apply Picks.cons; (repeat (first | exact Pick.here | apply Pick.there)))))) ?_
      refine D.qw [2, 3, 8] rfl (by kernel_rfl) (Quiet.move rfl) ?_
      refine D.qw [2, 3, 8] rfl (by kernel_rfl) (Quiet.move rfl) ?_
      refine D.qw [3, 8] rfl (by kernel_rfl) (Quiet.indexAddr rfl rfl el_22 (by omega)) ?_
      refine D.qw [8] rfl (by kernel_rfl) (Quiet.loadRd (sz := 1) (j := i) (p := p) (v := vstr a[i]) rfl ag_9 (by (repeat (first | exact Pick.here | apply Pick.there))) hp (by simp) (by simp [hi2])) ?_
      refine D.qw [6, 7, 8] rfl (by kernel_rfl) (Quiet.move rfl) ?_
      refine D.qw [6, 7, 8] rfl (by kernel_rfl) (Quiet.move rfl) ?_
      refine D.qw [7, 8] rfl (by kernel_rfl) (Quiet.indexAddr rfl rfl el_22 (by omega)) ?_
      refine D.qw [8] rfl (by kernel_rfl) (Quiet.loadRd (sz := 1) (j := i) (p := q) (v := vstr b[i]) rfl ag_9 (by (repeat (first | exact Pick.here | apply Pick.there))) hq (by simp) (by simp [hi3])) ?_
      refine D.qw [] rfl (by kernel_rfl) (Quiet.strne rfl rfl) ?_
      refine D.ph ?_
      refine Phases.fin ?_
      refine G.then_n ?_
      refine G.condN rfl (fun h25 => ?_) (fun h25 => ?_)
      · refine G.seq ?_
        refine G.region ?_
        refine G.q (Quiet.assign rfl) rfl ?_
        refine G.nil ?_
        refine G.then_n ?_
        refine G.ret ?_
        refine G.blk_r ?_
        refine G.then_r ?_
        refine G.then_r ?_
        refine G.blk_r ?_
        refine G.then_r ?_
        exact G.done (l := [.tmp 4]) rfl rfl ⟨by rw [decide_eq_false]; intro h; apply h25; congr 1, rfl⟩ (by (repeat (first | exact Picks.nil | (apply Picks.cons; (repeat (first | exact Pick.here | apply Pick.there)))))) (by (repeat (first | exact Suff.here | apply Suff.there)))
      · refine G.skip ?_
        refine G.blk_n ?_
        refine G.then_n ?_
        refine G.region ?_
        refine G.q (Quiet.move rfl) rfl ?_
        refine G.q (Quiet.add rfl rfl (by omega)) rfl ?_
        refine G.q (Quiet.assign rfl) rfl ?_
        refine G.nil ?_
        refine G.then_n ?_
        exact G.roundK (i + 1) (⟨by omega, take_sameB hi2 hi3 ht (by simpa using h25)⟩) (by omega) ⟨rfl, rfl, rfl, trivial⟩ (by (repeat (first | exact Picks.nil | (apply Picks.cons; (repeat (first | exact Pick.here | apply Pick.there)))))) (by ((repeat (apply Have.cons; (repeat (first | exact Pick.here | apply Pick.there)))); apply Have.base; repeat (first | exact Suff.here | apply Suff.there)))
    · refine G.exit ?_
      refine G.then_e ?_
      refine G.then_e ?_
      refine G.blk_e ?_
      refine G.then_n ?_
      refine G.seq ?_
      refine G.region ?_
      refine G.q (Quiet.assign rfl) rfl ?_
      refine G.nil ?_
      refine G.then_n ?_
      refine G.ret ?_
      exact G.done (l := [.tmp 4]) rfl rfl ⟨by rw [decide_eq_true]; have hi2 : i = a.length := (by omega); rw [hi2, List.take_length, hlen, List.take_length] at ht; exact ht, rfl⟩ (by (repeat (first | exact Picks.nil | (apply Picks.cons; (repeat (first | exact Pick.here | apply Pick.there)))))) (by (repeat (first | exact Suff.here | apply Suff.there)))

set_option maxRecDepth 100000 in
theorem bytes4_spec (n f : Int) (hn : -9223372036854775808 ≤ n ∧ n ≤ 9223372036854775807) : Fn Try.prog 75 #[vint n, vint f] [] fun v L => v = vstr (bytZ n f) ∧ L = [] := by
  refine Fn.intro (vs := [vint n, vint f]) Try.func75 rfl rfl ?_
  intro F W
  have hk := pickZ_range n (n := 4002) (by decide)
  refine G.seq ?_
  refine G.region ?_
  refine G.q (Quiet.assign rfl) rfl ?_
  refine G.nil ?_
  refine G.then_n ?_
  refine G.seq ?_
  refine G.region ?_
  refine G.q (Quiet.move rfl) rfl ?_
  refine G.op (OpSpec.call Try.func22 rfl rfl (vs := [_, _]) rfl (pick4_spec _ _ ?hc3 (by decide))) (by (repeat (first | exact Picks.nil | (apply Picks.cons; (repeat (first | exact Pick.here | apply Pick.there)))))) rfl ?nx4
  case hc3 => omega
  rintro v L' ⟨rfl, rfl⟩
  refine G.op (OpSpec.make rfl rfl el_31 ze_5 rfl ⟨by simp, by simp; rfl⟩ ?c6) (by (repeat (first | exact Picks.nil | (apply Picks.cons; (repeat (first | exact Pick.here | apply Pick.there)))))) rfl ?nx7
  case c6 => omega
  rintro v L' ⟨bz, rfl, rfl⟩
  refine G.q (Quiet.assign rfl) rfl ?_
  refine G.nil ?_
  obtain ⟨k, hkk⟩ : ∃ k : Nat, pickZ n 4002 = k := ⟨(pickZ n 4002).toNat, by omega⟩
  rw [hkk]
  simp only [Int.toNat_natCast, Nat.mul_one]
  refine G.ptCast (b := bz) (l' := bytC f k 0) (by (repeat (first | exact Pick.here | apply Pick.there))) (bytC_0 f k).symm ?_
  refine G.then_n ?_
  refine G.seq ?_
  refine G.seq ?_
  refine G.region ?_
  refine G.q (Quiet.assign rfl) rfl ?_
  refine G.nil ?_
  refine G.then_n ?_
  refine G.block ?_
  refine G.loopK (ι := Nat) (fun q E => (6, vint q) :: E) (fun q => [ptc bz (bytC f k q) 5]) (fun q => q ≤ k) (fun q => k - q) (0) (ts := [1, 4, 5]) (.cons rfl (.cons rfl (.cons rfl (.nil)))) (Nat.zero_le _) ⟨rfl, rfl, rfl, rfl, trivial⟩ (by (repeat (first | exact Picks.nil | (apply Picks.cons; (repeat (first | exact Pick.here | apply Pick.there)))))) ?_
  rintro i hi
  refine G.seq ?_
  refine G.seq ?_
  refine G.region ?_
  refine G.q (Quiet.move rfl) rfl ?_
  refine G.q (Quiet.move rfl) rfl ?_
  refine G.q (Quiet.slen rfl Try.underlying31 rfl) rfl ?_
  refine G.q (Quiet.int rfl rfl rfl) rfl ?_
  refine G.nil ?_
  refine G.then_n ?_
  refine G.condD rfl (fun h13 => ?_) (fun h13 => ?_)
  · have hi2 : i < k := by omega
    have hcl := bytC_len (f := f) hi
    refine G.skip ?_
    refine G.then_n ?_
    refine G.seq ?_
    refine G.block ?_
    refine G.region ?_
    refine G.q (Quiet.move rfl) rfl ?_
    refine G.q (Quiet.move rfl) rfl ?_
    refine G.q (Quiet.move rfl) rfl ?_
    refine G.q (Quiet.move rfl) rfl ?_
    refine G.q (Quiet.int rfl rfl rfl) rfl ?_
    refine G.q (Quiet.int rfl rfl rfl) rfl ?_
    refine G.q (Quiet.as (v' := vbyte (byteZ (f + (i : Int) * 3))) (by exact (congrArg (Value.int .u8) (byt_wrap f i)).trans (vbyteZ _).symm) (Quiet.conv rfl Try.underlying3 Try.underlying5)) rfl ?_
    refine G.q (Quiet.indexAddr rfl rfl el_31 (by omega)) rfl ?_
    refine G.op (OpSpec.store rfl rfl rfl sz_5 ?c22 ?c23) (by (repeat (first | exact Picks.nil | (apply Picks.cons; (repeat (first | exact Pick.here | apply Pick.there)))))) rfl ?nx24
    case c22 => omega
    case c23 => exact nfz0 _ _
    rintro v L' rfl
    refine G.nil ?_
    refine G.blk_n ?_
    refine G.then_n ?_
    refine G.region ?_
    refine G.q (Quiet.move rfl) rfl ?_
    refine G.q (Quiet.add rfl rfl (by omega)) rfl ?_
    refine G.q (Quiet.assign rfl) rfl ?_
    refine G.nil ?_
    refine G.then_n ?_
    rw [show 0 + (i : Int).toNat * 1 = i by omega, bytC_set hi2]
    exact G.roundK (i + 1) (by omega) (by omega) ⟨rfl, rfl, rfl, rfl, trivial⟩ (by (repeat (first | exact Picks.nil | (apply Picks.cons; (repeat (first | exact Pick.here | apply Pick.there)))))) (by ((repeat (apply Have.cons; (repeat (first | exact Pick.here | apply Pick.there)))); apply Have.base; repeat (first | exact Suff.here | apply Suff.there)))
  · obtain rfl : i = k := by omega
    refine G.ptCast (b := bz) (l' := bysL (bytTo f i)) (by (repeat (first | exact Pick.here | apply Pick.there))) (bytC_k f i) ?_
    refine G.exit ?_
    refine G.then_e ?_
    refine G.then_e ?_
    refine G.blk_e ?_
    refine G.then_n ?_
    refine G.seq ?_
    refine G.region ?_
    refine G.q (Quiet.move rfl) rfl ?_
    refine G.q (Quiet.bytesPt (cs := bytTo f i) rfl Try.underlying31 Try.underlying5 Try.underlying9 (by (repeat (first | exact Pick.here | apply Pick.there))) (by rw [List.drop_zero]; exact List.take_of_length_le (by rw [bysL_len, bytTo_len]; omega)) (by rw [bysL_len, bytTo_len]; omega) (by omega)) rfl ?_
    refine G.q (Quiet.assign rfl) rfl ?_
    refine G.nil ?_
    refine G.then_n ?_
    refine G.ret ?_
    exact G.done (l := [.tmp 4]) rfl rfl ⟨by unfold bytZ; rw [hkk]; rfl, rfl⟩ (by (repeat (first | exact Picks.nil | (apply Picks.cons; (repeat (first | exact Pick.here | apply Pick.there)))))) (by (repeat (first | exact Suff.here | apply Suff.there)))

set_option maxRecDepth 100000 in
theorem many4_spec (va : Value) (l : List Int) (p : HP) (hr : ∀ h : Hp, p h → rdS 1 h va l.length (ints l)) (hl : ∀ x ∈ l, -9223372036854775808 ≤ x ∧ x ≤ 9223372036854775807) (hll : l.length ≤ 4611686018427387904) : Fn Try.prog 78 #[va] [p] fun v L => ∃ a c, v = .slice a (manyZ l).length c ∧ L = [strR (.slice a (manyZ l).length c) (manyZ l), p] := by
  refine Fn.intro (vs := [va]) Try.func78 rfl rfl ?_
  intro F W
  refine G.rdAny (p := p) hr (by (repeat (first | exact Pick.here | apply Pick.there))) fun aa ca e _ => ?_
  subst e
  refine G.seq ?_
  refine G.region ?_
  refine G.q (Quiet.assign rfl) rfl ?_
  refine G.nil ?_
  refine G.then_n ?_
  refine G.seq ?_
  refine G.region ?_
  refine G.q (Quiet.assign rfl) rfl ?_
  refine G.nil ?_
  refine G.then_n ?_
  refine G.seq ?_
  refine G.seq ?_
  refine G.add (slR_nil 9 1) ?_
  refine G.region ?_
  refine G.q (Quiet.assign rfl) rfl ?_
  refine G.nil ?_
  refine G.then_n ?_
  refine G.block ?_
  refine G.loopK (ι := Nat × Value) (fun q E => (4, vint q.1) :: (3, q.2) :: E) (fun q => [strR q.2 (manyTo l q.1)]) (fun q => q.1 ≤ l.length ∧ q.1 ≤ 20 ∧ ∃ a c, q.2 = .slice a (manyTo l q.1).length c) (fun q => l.length - q.1) (0, .slice none 0 0) (ts := [0, 2]) (.cons rfl (.cons rfl (.nil))) (⟨Nat.zero_le _, by omega, _, _, rfl⟩) ⟨rfl, rfl, rfl, rfl, trivial⟩ (by (repeat (first | exact Picks.nil | (apply Picks.cons; (repeat (first | exact Pick.here | apply Pick.there)))))) ?_
  rintro ⟨i, u⟩ ⟨hi, hi20, au, cu, hu⟩
  dsimp only
  dsimp only at hi hu hi20
  subst hu
  have hml := manyTo_len hi
  refine G.seq ?_
  refine G.seq ?_
  refine G.region ?_
  refine G.q (Quiet.move rfl) rfl ?_
  refine G.q (Quiet.move rfl) rfl ?_
  refine G.q (Quiet.slen rfl Try.underlying40 rfl) rfl ?_
  refine G.q (Quiet.int rfl rfl rfl) rfl ?_
  refine G.q (Quiet.move rfl) rfl ?_
  refine G.dec (t := 10) rfl (fun h3_10 => ?_) (fun h3_10 => ?_)
  · refine G.kDT (t := 9) rfl h3_10 ?_
    refine G.grun (t := 10) rfl rfl rfl ?_
    refine G.q (Quiet.move rfl) rfl ?_
    refine G.grun (t := 10) rfl rfl rfl ?_
    refine G.q (Quiet.int rfl rfl rfl) rfl ?_
    refine G.q (Quiet.pickT rfl rfl) rfl ?_
    refine G.nil ?_
    refine G.then_n ?_
    refine G.condD rfl (fun h13 => ?_) (fun h13 => ?_)
    · have hi2 : i < l.length := by omega
      have hle := hl _ (List.getElem_mem hi2)
      refine G.rdShape (p := p) hr (by (repeat (first | exact Pick.here | apply Pick.there))) (by omega) fun ba oa e => ?_
      subst e
      refine G.skip ?_
      refine G.then_n ?_
      refine G.seq ?_
      refine G.block ?_
      refine G.seq ?_
      refine G.draw [] [[0, 1, 2, 3, 4, 5, 6, 7, 8, 9, 10]] mixed (by kernel_rfl) ?_
      refine Phases.go [p] (by (repeat (first | exact Picks.nil | (apply Picks.cons; (repeat (first | exact Pick.here | apply Pick.there)))))) ?_
      refine D.qw [2, 3, 9, 10] rfl (by kernel_rfl) (Quiet.move rfl) ?_
      refine D.qw [2, 3, 9, 10] rfl (by kernel_rfl) (Quiet.move rfl) ?_
      refine D.qw [3, 9, 10] rfl (by kernel_rfl) (Quiet.indexAddr rfl rfl el_40 (by omega)) ?_
      refine D.qw [9, 10] rfl (by kernel_rfl) (Quiet.loadRd (sz := 1) (j := i) (p := p) (v := vint l[i]) rfl ag_3 (by (repeat (first | exact Pick.here | apply Pick.there))) hr (by simp) (by simp [hi2])) ?_
      refine D.qw [6, 7, 8, 9, 10] rfl (by kernel_rfl) (Quiet.move rfl) ?_
      refine D.qw [6, 7, 8, 9, 10] rfl (by kernel_rfl) (Quiet.move rfl) ?_
      refine D.qw [7, 8, 9, 10] rfl (by kernel_rfl) (Quiet.indexAddr rfl rfl el_40 (by omega)) ?_
      refine D.qw [8, 9, 10] rfl (by kernel_rfl) (Quiet.loadRd (sz := 1) (j := i) (p := p) (v := vint l[i]) rfl ag_3 (by (repeat (first | exact Pick.here | apply Pick.there))) hr (by simp) (by simp [hi2])) ?_
      refine D.qw [9, 10] rfl (by kernel_rfl) (Quiet.quo rfl rfl (by decide) (tdiv7 hle)) ?_
      refine D.m rfl (by kernel_rfl) (OpSpec.call Try.func75 rfl rfl (vs := [_, _]) rfl (bytes4_spec l[i] (l[i].tdiv 7) hle)) (by (repeat (first | exact Picks.nil | (apply Picks.cons; (repeat (first | exact Pick.here | apply Pick.there)))))) ?nx19
      refine D.qw [] rfl (by kernel_rfl) (Quiet.assign rfl) ?_
      refine D.ph ?_
      refine Phases.fin ?_
      refine G.then_n ?_
      refine G.region ?_
      refine G.q (Quiet.move rfl) rfl ?_
      refine G.q (Quiet.move rfl) rfl ?_
      refine G.op (OpSpec.buildSlice1 (vs := [_]) el_22 ze_9 rfl rfl rfl rfl rfl (by decide)) (by (repeat (first | exact Picks.nil | (apply Picks.cons; (repeat (first | exact Pick.here | apply Pick.there)))))) rfl ?nx22
      rintro v L' ⟨b6_2, rfl, rfl⟩
      refine G.op (OpSpec.append1 rfl rfl rfl el_22 ze_9 rfl rfl ?c24 ?c25 (Nat.le_refl _) ?c26 (by decide)) (by (repeat (first | exact Picks.nil | (apply Picks.cons; (repeat (first | exact Pick.here | apply Pick.there)))))) rfl ?nx27
      case c24 => (first | (simp [isCell]; done) | (simp [isCell, setAll, Value.cells]; done))
      case c25 => rfl
      case c26 => omega
      rintro v L' ⟨⟨a6_3, c6_3, rfl⟩, rfl⟩
      refine G.q (Quiet.assign rfl) rfl ?_
      refine G.nil ?_
      refine G.blk_n ?_
      refine G.then_n ?_
      refine G.region ?_
      refine G.q (Quiet.move rfl) rfl ?_
      refine G.q (Quiet.add rfl rfl (by omega)) rfl ?_
      refine G.q (Quiet.assign rfl) rfl ?_
      refine G.nil ?_
      refine G.then_n ?_
      rw [show strs (manyTo l i) ++ [vstr (bytZ l[i] (l[i].tdiv 7))] = strs (manyTo l (i + 1)) by rw [manyTo_succ hi2]; simp [strs], show (manyTo l i).length + 1 = (manyTo l (i + 1)).length by rw [manyTo_succ hi2]; simp]
      exact G.roundK ((i + 1, .slice a6_3 (manyTo l (i + 1)).length c6_3)) (⟨by dsimp only; omega, by dsimp only; omega, _, _, rfl⟩) (by dsimp only; omega) ⟨rfl, rfl, rfl, rfl, trivial⟩ (by (repeat (first | exact Picks.nil | (apply Picks.cons; (repeat (first | exact Pick.here | apply Pick.there)))))) (by ((repeat (apply Have.cons; (repeat (first | exact Pick.here | apply Pick.there)))); apply Have.base; repeat (first | exact Suff.here | apply Suff.there)))
    · refine G.exit ?_
      refine G.then_e ?_
      refine G.then_e ?_
      refine G.blk_e ?_
      refine G.then_n ?_
      refine G.seq ?_
      refine G.region ?_
      refine G.q (Quiet.move rfl) rfl ?_
      refine G.q (Quiet.assign rfl) rfl ?_
      refine G.nil ?_
      refine G.then_n ?_
      refine G.ret ?_
      have hz : manyTo l i = manyZ l := manyTo_end (by omega)
      rw [hz]
      exact G.done (l := [.tmp 2]) rfl rfl ⟨_, _, rfl, rfl⟩ (by (repeat (first | exact Picks.nil | (apply Picks.cons; (repeat (first | exact Pick.here | apply Pick.there)))))) (by (repeat (first | exact Suff.here | apply Suff.there)))
  · refine G.kDF (t := 9) rfl h3_10 ?_
    refine G.gskip (t := 10) rfl rfl rfl rfl ?_
    refine G.gskip (t := 10) rfl rfl rfl rfl ?_
    refine G.q (Quiet.pickF rfl rfl) rfl ?_
    refine G.nil ?_
    refine G.then_n ?_
    refine G.condF rfl ?_
    refine G.exit ?_
    refine G.then_e ?_
    refine G.then_e ?_
    refine G.blk_e ?_
    refine G.then_n ?_
    refine G.seq ?_
    refine G.region ?_
    refine G.q (Quiet.move rfl) rfl ?_
    refine G.q (Quiet.assign rfl) rfl ?_
    refine G.nil ?_
    refine G.then_n ?_
    refine G.ret ?_
    have hz : manyTo l i = manyZ l := manyTo_end (by omega)
    rw [hz]
    exact G.done (l := [.tmp 2]) rfl rfl ⟨_, _, rfl, rfl⟩ (by (repeat (first | exact Picks.nil | (apply Picks.cons; (repeat (first | exact Pick.here | apply Pick.there)))))) (by (repeat (first | exact Suff.here | apply Suff.there)))

end Go.Proofs.Ytepncdidkjjllaa
